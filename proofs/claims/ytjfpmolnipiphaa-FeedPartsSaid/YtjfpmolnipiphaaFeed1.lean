/- Layer 22: the feed's small methods. No condition. -/
import Derived.Test.YtjfpmolnipiphaaRingN6
import Derived.Test.YtjfpmolnipiphaaSite3
import Derived.Test.YtjfpmolnipiphaaOpen
namespace Go.Proofs.Ytjfpmolnipiphaa
open Go.RowKit
set_option linter.unusedVariables false
set_option linter.unusedSimpArgs false

/-- A feed's cells. -/
abbrev FC (gr : Nat) (on : Bool) (kd n h l : Int) : Array Value := #[.pointer (some ⟨gr, 0, none⟩), .bool on, .int .i64 kd, .int .i64 n, .int .i64 h, .int .i64 l]
/-- A feed in memory, beside boxes and slices. -/
abbrev FG (w0 : World) (L : List (Nat × TypeId × Array Value)) (R : List Ow) (gf gr room : Nat) (on : Bool) (kd n h l : Int) (q : List (Int × (Nat → Int))) (w : World) : Prop :=
  RG KN w0 ((gf, 57, FC gr on kd n h l) :: L) R gr room q w
def cntV (n : Int) : Bool := decide (0 ≤ n) && decide (n ≤ 1073741824)
def isV (kd n : Int) : Bool := if kd = 0 then n == 0 else decide (0 < kd) && decide (kd ≤ 3) && cntV n && decide (0 < n)
section
variable {w0 w : World} {L : List (Nat × TypeId × Array Value)} {R : List Ow} {gf gr room : Nat} {on : Bool} {kd n hd l : Int} {q : List (Int × (Nat → Int))}
theorem isOn_any (h : FG w0 L R gf gr room on kd n hd l q w) : Calls Try.prog 17 #[.pointer (some ⟨gf, 0, none⟩)] w fun e w' => e = .returned (.bool on) ∧ w = w' := by
  have c1 := (h.sr.st.get 0 rfl).cell 1
  simp at c1
  clear h
  go_enter Try.func17, Try.ntmps17
  go_wp2_with fail
  go_ret
  exact ⟨rfl, rfl⟩
theorem lost_any (h : FG w0 L R gf gr room on kd n hd l q w) : Calls Try.prog 12 #[.pointer (some ⟨gf, 0, none⟩)] w fun e w' => e = .returned (.int .i64 l) ∧ w = w' := by
  have c1 := (h.sr.st.get 0 rfl).cell 5
  simp at c1
  clear h
  go_enter Try.func12, Try.ntmps12
  go_wp2_with fail
  go_ret
  exact ⟨rfl, rfl⟩
theorem heard_any (h : FG w0 L R gf gr room on kd n hd l q w) : Calls Try.prog 16 #[.pointer (some ⟨gf, 0, none⟩)] w fun e w' => e = .returned (.int .i64 hd) ∧ w = w' := by
  have c1 := (h.sr.st.get 0 rfl).cell 4
  simp at c1
  clear h
  go_enter Try.func16, Try.ntmps16
  go_wp2_with fail
  go_ret
  exact ⟨rfl, rfl⟩
theorem waiting_any (h : FG w0 L R gf gr room on kd n hd l q w) : Calls Try.prog 26 #[.pointer (some ⟨gf, 0, none⟩)] w fun e w' => ∃ p cap, e = .returned (.slice p q.length cap) ∧ FG w0 L R gf gr room on kd n hd l q w' := by
  have c0 := (h.sr.st.get 0 rfl).cell 0
  simp at c0
  have H := Lib.hid h
  clear h
  go_enter Try.func26, Try.ntmps26
  go_wp2_with (go_at_call 36; refine (KN.list_rg H.out).mono ?_; rintro e w1 ⟨v2, rfl, hR1⟩)
  go_ret
  have hS := hR1.sr.form 0 rfl
  have hR2 := hR1.subR (List.sublist_cons_self _ _)
  rcases hS with ⟨hv, h0⟩ | ⟨g, cap, hv, _⟩
  · have hv' : v2 = .slice none 0 0 := hv
    have h0' : q.length = 0 := h0
    exact ⟨none, 0, by show Ending.returned v2 = _; rw [hv', h0'], hR2⟩
  · have hv' : v2 = .slice (some ⟨g, 0, none⟩) q.length cap := hv
    exact ⟨_, cap, by show Ending.returned v2 = _; rw [hv'], hR2⟩
theorem flen_any {m : Nat} (h : FG w0 L R gf gr room on kd n hd l q w) (hm : q.length = m) : Calls Try.prog 11 #[.pointer (some ⟨gf, 0, none⟩)] w fun e w' => e = .returned (.int .i64 (m : Int)) ∧ FG w0 L R gf gr room on kd n hd l q w' := by
  subst hm
  have H := Lib.hid h
  clear h
  go_enter Try.func11, Try.ntmps11
  go_wp2_with (go_at_call 26; refine (waiting_any H.out).mono ?_; rintro e w1 ⟨p, cap, rfl, hR1⟩)
  go_ret
  exact ⟨rfl, hR1⟩
theorem cnt_any (n : Int) (w : World) : Calls Try.prog 32 #[.int .i64 n] w fun e w' => e = .returned (.bool (cntV n)) ∧ w = w' := by
  by_cases h0 : 0 ≤ n
  · have HT := Lib.hid (show cntV n = decide (n ≤ 1073741824) by unfold cntV; rw [decide_eq_true h0]; rfl)
    go_enter Try.func32, Try.ntmps32
    go_wp2
    go_ret
    exact ⟨ret_bool HT.out.symm, rfl⟩
  · have HT := Lib.hid (show cntV n = false by unfold cntV; rw [decide_eq_false h0]; rfl)
    go_enter Try.func32, Try.ntmps32
    go_wp2
    go_ret
    exact ⟨ret_bool HT.out.symm, rfl⟩
theorem is_any (kd n : Int) (w : World) : Calls Try.prog 20 #[.agg #[.int .i64 kd, .int .i64 n]] w fun e w' => e = .returned (.bool (isV kd n)) ∧ Below w.heap.size w w' := by
  have hB : Below w.heap.size w (w.alloc (.cells #[.int .i64 kd, .int .i64 n] 26)) := (Below.refl _ _).alloc (Nat.le_refl _) _
  obtain ⟨cv, hcv⟩ : ∃ cv, cntV n = cv := ⟨_, rfl⟩
  have HC := Lib.hid hcv
  by_cases h0 : kd = 0
  · subst h0
    have HT := Lib.hid (show isV 0 n = (n == 0) by unfold isV; rfl)
    clear hcv
    go_enter Try.func20, Try.ntmps20
    go_wp2_with fail
    go_ret
    exact ⟨ret_bool HT.out.symm, hB⟩
  have b0 : (kd == 0) = false := by simpa using h0
  have hI : isV kd n = (decide (0 < kd) && decide (kd ≤ 3) && cv && decide (0 < n)) := by unfold isV; rw [if_neg h0, hcv]
  by_cases h1 : 0 < kd
  rotate_left
  · have HT := Lib.hid (show isV kd n = false by rw [hI, decide_eq_false h1]; rfl)
    clear hI hcv
    go_enter Try.func20, Try.ntmps20
    go_wp2_with fail
    go_ret
    exact ⟨ret_bool HT.out.symm, hB⟩
  by_cases h2 : kd ≤ 3
  rotate_left
  · have HT := Lib.hid (show isV kd n = false by rw [hI, decide_eq_false h2]; simp)
    clear hI hcv
    go_enter Try.func20, Try.ntmps20
    go_wp2_with fail
    go_ret
    exact ⟨ret_bool HT.out.symm, hB⟩
  cases cv
  · have HT := Lib.hid (show isV kd n = false by rw [hI]; simp)
    clear hI hcv
    go_enter Try.func20, Try.ntmps20
    go_wp2_with (go_at_call 32; refine (cnt_any n _).mono ?_; rintro e w1 ⟨rfl, rfl⟩; rw [HC.out])
    go_ret
    exact ⟨ret_bool HT.out.symm, hB⟩
  · have HT := Lib.hid (show isV kd n = decide (0 < n) by rw [hI, decide_eq_true h1, decide_eq_true h2]; simp)
    clear hI hcv
    go_enter Try.func20, Try.ntmps20
    go_wp2_with (go_at_call 32; refine (cnt_any n _).mono ?_; rintro e w1 ⟨rfl, rfl⟩; rw [HC.out])
    go_ret
    exact ⟨ret_bool HT.out.symm, hB⟩
end
end Go.Proofs.Ytjfpmolnipiphaa
