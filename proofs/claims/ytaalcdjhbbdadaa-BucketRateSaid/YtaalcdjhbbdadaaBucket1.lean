/- Layer 13: bucket.New, Check, isTick, Level, and the document's Good and Level, for every configuration, bucket and tick; nothing that was in memory is changed. No condition. -/
import Derived.Test.YtaalcdjhbbdadaaNames
import Derived.Test.YtaalcdjhbbdadaaSiteMath
namespace Go.Proofs.Ytaalcdjhbbdadaa
open Go.RowKit

abbrev bkt (t l : Int) : Array Value := #[.int .i64 t, .int .i64 l]
def tickV (n : Int) : Bool := decide (0 ≤ n) && decide (n ≤ 1073741824)
/-- What bucket.Check tells. -/
def bchkV (c : Nat → Int) (t l : Int) : Bool := good c && (decide (0 ≤ t) && (decide (t ≤ c 7) && tickV l))

theorem tick_any (n : Int) (w : World) :
    Calls Try.prog 17 #[.int .i64 n] w fun e w' => e = .returned (.bool (tickV n)) ∧ w = w' := by
  by_cases h0 : 0 ≤ n
  · have HT := Lib.hid (show tickV n = decide (n ≤ 1073741824) by unfold tickV; rw [decide_eq_true h0]; rfl)
    go_enter Try.func17, Try.ntmps17
    go_wp2
    go_ret
    exact ⟨ret_bool HT.out.symm, rfl⟩
  · have HT := Lib.hid (show tickV n = false by unfold tickV; rw [decide_eq_false h0]; rfl)
    go_enter Try.func17, Try.ntmps17
    go_wp2
    go_ret
    exact ⟨ret_bool HT.out.symm, rfl⟩

theorem new_any (c : Nat → Int) (s n : Int) (w : World) :
    Calls Try.prog 7 #[.agg (cfgCells c s), .int .i64 n] w fun e w' => e = .returned (.agg (bkt (c 7) n)) ∧ Below w.heap.size w w' := by
  have hS := ((St.nil w).alloc 24 (cfgCells c s)).alloc' (w.heap.size + 1) (by simp) 26 (bkt 0 0)
  have Q := St.cell (L := [(w.heap.size + 1, 26, bkt 0 0), (w.heap.size, 24, cfgCells c s)]) (w0 := w) 1 rfl 7 rfl
  go_enter Try.func7, Try.ntmps7
  go_wp2_with fail
  have hE := ((St.nil w).alloc 24 (cfgCells c s)).alloc' (w.heap.size + 1) (by simp) 26 (bkt (c 7) n)
  refine bodyPost_ret (results_cell_row Try.results7 _ _ (w.heap.size + 1) 26 (bkt (c 7) n) (0, 0) _ rfl (hE.get 0 rfl) Try.underlying26 rfl (by kernel_rfl)) rfl ?_
  exact ⟨rfl, hE.below⟩
abbrev LB2 (c : Nat → Int) (s t l : Int) (w : World) : List (Nat × TypeId × Array Value) := [(w.heap.size + 1, 26, bkt t l), (w.heap.size, 24, cfgCells c s)]
theorem bstart (c : Nat → Int) (s t l : Int) (w : World) : St w (LB2 c s t l w) ((w.alloc (.cells (cfgCells c s) 24)).alloc (.cells (bkt t l) 26)) :=
  ((St.nil w).alloc 24 (cfgCells c s)).alloc' (w.heap.size + 1) (by simp) 26 (bkt t l)
theorem bL (c : Nat → Int) (s t l : Int) (w : World) : ∀ W, St w (LB2 c s t l w) W → (loadBig 24 ⟨w.heap.size, 0, none⟩).run Try.prog W = .ok (.agg (cfgCells c s)) W := St.loadC (L := LB2 c s t l w) (w0 := w) 1 rfl
theorem bT (c : Nat → Int) (s t l : Int) (w : World) : ∀ W, St w (LB2 c s t l w) W → W.cell? ⟨w.heap.size + 1, 0, none⟩ = some (.int .i64 t) := St.cell (L := LB2 c s t l w) (w0 := w) 0 rfl 0 rfl
theorem bA (c : Nat → Int) (s t l : Int) (w : World) : ∀ W, St w (LB2 c s t l w) W → W.cell? ⟨w.heap.size + 1, 1, none⟩ = some (.int .i64 l) := St.cell (L := LB2 c s t l w) (w0 := w) 0 rfl 1 rfl
theorem bC (c : Nat → Int) (s t l : Int) (w : World) (k : Nat) (hk : k < 17) : ∀ W, St w (LB2 c s t l w) W → W.cell? ⟨w.heap.size, k, none⟩ = some (.int .i64 (c k)) := fun _ h => cfg_cell (h.get 1 rfl) k hk

theorem bcheck_any (c : Nat → Int) (s t l : Int) (w : World) :
    Calls Try.prog 8 #[.agg (cfgCells c s), .agg (bkt t l)] w fun e w' => e = .returned (.bool (bchkV c t l)) ∧ Below w.heap.size w w' := by
  have hS := bstart c s t l w
  have Q0 := bL c s t l w
  have Q1 := bT c s t l w
  have Q2 := bA c s t l w
  have Q3 := bC c s t l w 7 (by omega)
  cases hg : good c
  · have HT := Lib.hid (show bchkV c t l = false by unfold bchkV; rw [hg]; rfl)
    have H := Lib.hid hg
    clear hg
    go_enter Try.func8, Try.ntmps8
    go_wp2_with (go_at_call 16; refine (check_no H.out _ _).mono ?_; rintro e w1 ⟨rfl, hB⟩; replace hS := hS.step hB; clear hB)
    go_ret
    exact ⟨ret_bool HT.out.symm, hS.below⟩
  · have H := Lib.hid hg
    by_cases h0 : 0 ≤ t
    · by_cases h1 : t ≤ c 7
      · have HT := Lib.hid (show bchkV c t l = tickV l by unfold bchkV; rw [hg, decide_eq_true h0, decide_eq_true h1]; rfl)
        clear hg
        go_enter Try.func8, Try.ntmps8
        go_wp2_with (first | (go_at_call 16; refine (check_ok H.out _ _).mono ?_; rintro e w1 ⟨rfl, hB⟩; replace hS := hS.step hB; clear hB) | (go_at_call 17; refine (tick_any _ _).mono ?_; rintro e w2 ⟨rfl, rfl⟩))
        go_ret
        exact ⟨ret_bool HT.out.symm, hS.below⟩
      · have HT := Lib.hid (show bchkV c t l = false by unfold bchkV; rw [hg, decide_eq_true h0, decide_eq_false h1]; rfl)
        clear hg
        go_enter Try.func8, Try.ntmps8
        go_wp2_with (go_at_call 16; refine (check_ok H.out _ _).mono ?_; rintro e w1 ⟨rfl, hB⟩; replace hS := hS.step hB; clear hB)
        go_ret
        exact ⟨ret_bool HT.out.symm, hS.below⟩
    · have HT := Lib.hid (show bchkV c t l = false by unfold bchkV; rw [hg, decide_eq_false h0]; rfl)
      clear hg
      go_enter Try.func8, Try.ntmps8
      go_wp2_with (go_at_call 16; refine (check_ok H.out _ _).mono ?_; rintro e w1 ⟨rfl, hB⟩; replace hS := hS.step hB; clear hB)
      go_ret
      exact ⟨ret_bool HT.out.symm, hS.below⟩

/-- How many tokens there are. -/
def levelV (c : Nat → Int) (t l now : Int) : Int := if bchkV c t l && tickV now then min (c 7) (t + c 8 * max 0 (now - l)) else 0

theorem bchk_true {c : Nat → Int} {t l : Int} (h : bchkV c t l = true) : good c = true ∧ 0 ≤ t ∧ t ≤ c 7 ∧ 0 ≤ l ∧ l ≤ 1073741824 := by
  unfold bchkV tickV at h
  simp only [Bool.and_eq_true, decide_eq_true_eq] at h
  exact ⟨h.1, h.2.1, h.2.2.1, h.2.2.2.1, h.2.2.2.2⟩
theorem tick_true {n : Int} (h : tickV n = true) : 0 ≤ n ∧ n ≤ 1073741824 := by
  unfold tickV at h
  simpa using h
theorem good_br {c : Nat → Int} (h : good c = true) : (1 ≤ c 7 ∧ c 7 ≤ 1024) ∧ (1 ≤ c 8 ∧ c 8 ≤ 1024) := ⟨good_at h 7 (by omega), good_at h 8 (by omega)⟩

theorem level_ok (c : Nat → Int) (s t l now : Int) (w : World) (h : bchkV c t l = true) (h' : tickV now = true) :
    Calls Try.prog 12 #[.agg (cfgCells c s), .agg (bkt t l), .int .i64 now] w fun e w' => e = .returned (.int .i64 (levelV c t l now)) ∧ Below w.heap.size w w' := by
  have hS := bstart c s t l w
  have Q0 := bL c s t l w
  have Q1 := bT c s t l w
  have Q2 := bA c s t l w
  have Q3 := bC c s t l w 7 (by omega)
  have Q4 := bC c s t l w 8 (by omega)
  obtain ⟨hg, b1, b2, b3, b4⟩ := bchk_true h
  obtain ⟨n1, n2⟩ := tick_true h'
  obtain ⟨⟨c1, c2⟩, c3, c4⟩ := good_br hg
  have H := Lib.hid h
  have H' := Lib.hid h'
  by_cases hl : l < now
  · have hm := mul_bd (a := c 8) (b := now - l) (A := 1024) (B := 1073741824) (by omega) (by omega) (by omega) (by omega)
    have hm1 := hm.1
    have hm2 : c 8 * (now - l) ≤ 1099511627776 := hm.2
    have HT := Lib.hid (show levelV c t l now = min (c 7) (t + c 8 * (now - l)) by unfold levelV; rw [h, h', show max 0 (now - l) = now - l by omega]; rfl)
    clear h h' hg hm
    go_enter Try.func12, Try.ntmps12
    go_wp2_with (first | (go_at_call 8; refine (bcheck_any _ _ _ _ _).mono ?_; rintro e w1 ⟨rfl, hB⟩; rw [H.out]; replace hS := hS.step hB; clear hB) | (go_at_call 17; refine (tick_any _ _).mono ?_; rintro e w2 ⟨rfl, rfl⟩; rw [H'.out]))
    all_goals
      go_ret
      exact ⟨ret_int (by rw [HT.out]; omega), hS.below⟩
  · have HT := Lib.hid (show levelV c t l now = t by unfold levelV; rw [h, h', show max 0 (now - l) = 0 by omega, Int.mul_zero]; simp only [Bool.and_self, if_true]; omega)
    clear h h' hg
    go_enter Try.func12, Try.ntmps12
    go_wp2_with (first | (go_at_call 8; refine (bcheck_any _ _ _ _ _).mono ?_; rintro e w1 ⟨rfl, hB⟩; rw [H.out]; replace hS := hS.step hB; clear hB) | (go_at_call 17; refine (tick_any _ _).mono ?_; rintro e w2 ⟨rfl, rfl⟩; rw [H'.out]))
    all_goals
      go_ret
      exact ⟨ret_int (by rw [HT.out]; first | done | omega), hS.below⟩

theorem level_no (c : Nat → Int) (s t l now : Int) (w : World) (h : (bchkV c t l && tickV now) = false) :
    Calls Try.prog 12 #[.agg (cfgCells c s), .agg (bkt t l), .int .i64 now] w fun e w' => e = .returned (.int .i64 (levelV c t l now)) ∧ Below w.heap.size w w' := by
  have hS := bstart c s t l w
  have Q0 := bL c s t l w
  have Q1 := bT c s t l w
  have Q2 := bA c s t l w
  have HT := Lib.hid (show levelV c t l now = 0 by unfold levelV; rw [h]; rfl)
  cases hb : bchkV c t l
  · have H := Lib.hid hb
    clear h hb
    go_enter Try.func12, Try.ntmps12
    go_wp2_with (go_at_call 8; refine (bcheck_any _ _ _ _ _).mono ?_; rintro e w1 ⟨rfl, hB⟩; rw [H.out]; replace hS := hS.step hB; clear hB)
    go_ret
    exact ⟨ret_int HT.out.symm, hS.below⟩
  · rw [hb] at h
    have H := Lib.hid hb
    have H' := Lib.hid (show tickV now = false by simpa using h)
    clear h hb
    go_enter Try.func12, Try.ntmps12
    go_wp2_with (first | (go_at_call 8; refine (bcheck_any _ _ _ _ _).mono ?_; rintro e w1 ⟨rfl, hB⟩; rw [H.out]; replace hS := hS.step hB; clear hB) | (go_at_call 17; refine (tick_any _ _).mono ?_; rintro e w2 ⟨rfl, rfl⟩; rw [H'.out]))
    go_ret
    exact ⟨ret_int HT.out.symm, hS.below⟩

theorem level_any (c : Nat → Int) (s t l now : Int) (w : World) :
    Calls Try.prog 12 #[.agg (cfgCells c s), .agg (bkt t l), .int .i64 now] w fun e w' => e = .returned (.int .i64 (levelV c t l now)) ∧ Below w.heap.size w w' := by
  cases h : (bchkV c t l && tickV now)
  · exact level_no c s t l now w h
  · exact level_ok c s t l now w (Bool.and_eq_true_iff.1 h).1 (Bool.and_eq_true_iff.1 h).2
end Go.Proofs.Ytaalcdjhbbdadaa
