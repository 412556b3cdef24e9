/- Layer 22: a change's fields; whether a change passes. No condition. -/
import Derived.Test.YtjfpmolnipiphaaFeed1
namespace Go.Proofs.Ytjfpmolnipiphaa
open Go.RowKit
set_option linter.unusedVariables false
set_option linter.unusedSimpArgs false

/-- A change's cells. -/
abbrev CC (x : Nat → Int) : Array Value := #[.int .i64 (x 0), .int .i64 (x 1), .int .i64 (x 2), .int .i64 (x 3), .int .i64 (x 4), .int .i64 (x 5), .int .i64 (x 6), .int .i64 (x 7), .int .i64 (x 8), .int .i64 (x 9), .int .i64 (x 10)]
/-- Whether a change has a call. -/
def callV (x : Nat → Int) : Bool := !(x 1 == 0 && x 2 == 0 && x 3 == 0 && x 4 == 0 && x 5 == 0 && x 6 == 0 && x 7 == 0 && x 8 == 0)
/-- Whether a change passes. -/
def passV (kd n : Int) (x : Nat → Int) : Bool :=
  if isV kd n = false then false else if kd = 1 then callV x && (x 3 == n || x 4 == n) else if kd = 2 then callV x && x 1 == n else if kd = 3 then x 9 == n || (callV x && x 5 == n) else true
set_option maxRecDepth 100000 in
set_option maxHeartbeats 4000000 in
theorem pass_any (kd n : Int) (x : Nat → Int) (w : World) : Calls Try.prog 29 #[.agg #[.int .i64 kd, .int .i64 n], .agg (CC x)] w fun e w' => e = .returned (.bool (passV kd n x)) ∧ Below w.heap.size w w' := by
  have hB0 : Below w.heap.size w ((w.alloc (.cells #[.int .i64 kd, .int .i64 n] 26)).alloc (.cells (CC x) 38)) := ((Below.refl _ _).alloc (Nat.le_refl _) _).alloc (by simp) _
  have hS := (SR.ofSt (St.nil w)).alloc 26 #[.int .i64 kd, .int .i64 n]
  have hS2 := hS.alloc' (w.heap.size + 1) (by simp) 38 (CC x)
  have QX1 := St.cell (L := [(w.heap.size + 1, 38, CC x), (w.heap.size, 26, #[.int .i64 kd, .int .i64 n])]) (w0 := w) 0 rfl 1 (v := .int .i64 (x 1)) rfl
  have QX3 := St.cell (L := [(w.heap.size + 1, 38, CC x), (w.heap.size, 26, #[.int .i64 kd, .int .i64 n])]) (w0 := w) 0 rfl 3 (v := .int .i64 (x 3)) rfl
  have QX4 := St.cell (L := [(w.heap.size + 1, 38, CC x), (w.heap.size, 26, #[.int .i64 kd, .int .i64 n])]) (w0 := w) 0 rfl 4 (v := .int .i64 (x 4)) rfl
  have QX5 := St.cell (L := [(w.heap.size + 1, 38, CC x), (w.heap.size, 26, #[.int .i64 kd, .int .i64 n])]) (w0 := w) 0 rfl 5 (v := .int .i64 (x 5)) rfl
  have QX9 := St.cell (L := [(w.heap.size + 1, 38, CC x), (w.heap.size, 26, #[.int .i64 kd, .int .i64 n])]) (w0 := w) 0 rfl 9 (v := .int .i64 (x 9)) rfl
  have QF0 := St.cell (L := [(w.heap.size + 1, 38, CC x), (w.heap.size, 26, #[.int .i64 kd, .int .i64 n])]) (w0 := w) 1 rfl 0 (v := .int .i64 kd) rfl
  have QF1 := St.cell (L := [(w.heap.size + 1, 38, CC x), (w.heap.size, 26, #[.int .i64 kd, .int .i64 n])]) (w0 := w) 1 rfl 1 (v := .int .i64 n) rfl
  cases hi : isV kd n
  · have HI := Lib.hid hi
    have HT := Lib.hid (show passV kd n x = false by unfold passV; rw [if_pos hi])
    clear hi
    go_enter Try.func29, Try.ntmps29
    go_wp2_with (go_at_call 20; refine (is_any _ _ _).mono ?_; rintro e w1 ⟨rfl, hB⟩; rw [HI.out])
    all_goals
      go_ret
      exact ⟨ret_bool HT.out.symm, (hS2.step hB).below⟩
  · have HI := Lib.hid hi
    by_cases h1 : kd = 1
    · have HT := Lib.hid (show passV kd n x = (callV x && (x 3 == n || x 4 == n)) by unfold passV; rw [hi]; simp [h1])
      subst h1
      clear hi
      go_enter Try.func29, Try.ntmps29
      go_wp2_with (go_at_call 20; refine (is_any _ _ _).mono ?_; rintro e w1 ⟨rfl, hB⟩; rw [HI.out]; have hSt := (hS2.step hB).st; clear hB)
      all_goals
        go_ret
        refine ⟨ret_bool ?_, hSt.below⟩
        rw [HT.out]
        first | done | (simp_all [callV]; done) | (simp_all [callV]; intros; omega) | (simp_all [callV]; omega) | (simp_all [callV]; rw [Bool.eq_iff_iff]; simp; done) | (simp_all [callV]; rw [Bool.eq_iff_iff]; simp; omega)
    by_cases h2 : kd = 2
    · have HT := Lib.hid (show passV kd n x = (callV x && x 1 == n) by unfold passV; rw [hi]; simp [h2])
      subst h2
      clear hi
      go_enter Try.func29, Try.ntmps29
      go_wp2_with (go_at_call 20; refine (is_any _ _ _).mono ?_; rintro e w1 ⟨rfl, hB⟩; rw [HI.out]; have hSt := (hS2.step hB).st; clear hB)
      all_goals
        go_ret
        refine ⟨ret_bool ?_, hSt.below⟩
        rw [HT.out]
        first | done | (simp_all [callV]; done) | (simp_all [callV]; intros; omega) | (simp_all [callV]; omega) | (simp_all [callV]; rw [Bool.eq_iff_iff]; simp; done) | (simp_all [callV]; rw [Bool.eq_iff_iff]; simp; omega)
    by_cases h3 : kd = 3
    · have HT := Lib.hid (show passV kd n x = (x 9 == n || (callV x && x 5 == n)) by unfold passV; rw [hi]; simp [h3])
      subst h3
      clear hi
      go_enter Try.func29, Try.ntmps29
      go_wp2_with (go_at_call 20; refine (is_any _ _ _).mono ?_; rintro e w1 ⟨rfl, hB⟩; rw [HI.out]; have hSt := (hS2.step hB).st; clear hB)
      all_goals
        go_ret
        refine ⟨ret_bool ?_, hSt.below⟩
        rw [HT.out]
        first | done | (simp_all [callV]; done) | (simp_all [callV]; intros; omega) | (simp_all [callV]; omega) | (simp_all [callV]; rw [Bool.eq_iff_iff]; simp; done) | (simp_all [callV]; rw [Bool.eq_iff_iff]; simp; omega)
    have HT := Lib.hid (show passV kd n x = true by unfold passV; rw [hi]; simp [h1, h2, h3])
    clear hi
    go_enter Try.func29, Try.ntmps29
    go_wp2_with (go_at_call 20; refine (is_any _ _ _).mono ?_; rintro e w1 ⟨rfl, hB⟩; rw [HI.out]; have hSt := (hS2.step hB).st; clear hB)
    all_goals
      go_ret
      refine ⟨ret_bool ?_, hSt.below⟩
      rw [HT.out]
      first | done | (simp_all [callV]; done) | (simp_all [callV]; intros; omega) | (simp_all [callV]; omega) | (simp_all [callV]; rw [Bool.eq_iff_iff]; simp; done) | (simp_all [callV]; rw [Bool.eq_iff_iff]; simp; omega)
end Go.Proofs.Ytjfpmolnipiphaa
