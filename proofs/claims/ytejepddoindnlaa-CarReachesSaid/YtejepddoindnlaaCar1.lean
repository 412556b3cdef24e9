/- Layer 16: whether a car can be, by the program and by the document; why something can't be asked of it; the new car. For every configuration and car; nothing that was in memory is changed. No condition. -/
import Derived.Test.YtejepddoindnlaaOwn
import Derived.Test.YtejepddoindnlaaSiteMath
namespace Go.Proofs.Ytejepddoindnlaa
open Go.RowKit

/-- A car: floor, way, door, holds, whether it has moved. -/
structure Cr where
  f : Int
  d : Int
  o : Int
  h : Int
  m : Bool
abbrev Cr.cells (x : Cr) : Array Value := #[.int .i64 x.f, .int .i64 x.d, .int .i64 x.o, .int .i64 x.h, .bool x.m]
def Cr.zero : Cr := ⟨0, 0, 0, 0, false⟩
/-- Whether it can be. -/
def cokV (c : Nat → Int) (x : Cr) : Bool := floorV c x.f && (decide (-1 ≤ x.d) && (decide (x.d ≤ 1) && (decide (0 ≤ x.o) && (decide (x.o ≤ c 15) && (decide (0 ≤ x.h) && (decide (x.h ≤ c 16) && (decide (0 < x.o) || decide (x.h = 0))))))))
theorem cok_true {c : Nat → Int} {x : Cr} (h : cokV c x = true) : good c = true ∧ (1 ≤ x.f ∧ x.f ≤ c 0) ∧ (-1 ≤ x.d ∧ x.d ≤ 1) ∧ (0 ≤ x.o ∧ x.o ≤ c 15) ∧ (0 ≤ x.h ∧ x.h ≤ c 16) ∧ (0 < x.o ∨ x.h = 0) := by
  unfold cokV floorV at h
  simp only [Bool.and_eq_true, Bool.or_eq_true, decide_eq_true_eq] at h
  exact ⟨h.1.1, h.1.2, ⟨h.2.1, h.2.2.1⟩, ⟨h.2.2.2.1, h.2.2.2.2.1⟩, ⟨h.2.2.2.2.2.1, h.2.2.2.2.2.2.1⟩, h.2.2.2.2.2.2.2⟩
theorem cok_mk {c : Nat → Int} {x : Cr} (h0 : good c = true) (h1 : 1 ≤ x.f ∧ x.f ≤ c 0) (h2 : -1 ≤ x.d ∧ x.d ≤ 1) (h3 : 0 ≤ x.o ∧ x.o ≤ c 15) (h4 : 0 ≤ x.h ∧ x.h ≤ c 16) (h5 : 0 < x.o ∨ x.h = 0) : cokV c x = true := by
  unfold cokV floorV
  simp only [Bool.and_eq_true, Bool.or_eq_true, decide_eq_true_eq]
  exact ⟨⟨h0, h1⟩, h2.1, h2.2, h3.1, h3.2, h4.1, h4.2, h5⟩

theorem floor_is {c : Nat → Int} {n : Int} {b : Bool} (s : Int) (h : floorV c n = b) (w : World) :
    Calls Try.prog 18 #[.agg (cfgCells c s), .int .i64 n] w fun e w' => e = .returned (.bool b) ∧ Below w.heap.size w w' := h ▸ floor_any c s n w
theorem rgood_is {c : Nat → Int} {b : Bool} (h : good c = b) (s : Int) (w : World) :
    Calls Try.prog 19 #[.agg (cfgCells c s)] w fun e w' => e = .returned (.bool b) ∧ Below w.heap.size w w' := h ▸ rgood_any c s w

abbrev LK (c : Nat → Int) (s : Int) (t : TypeId) (x : Cr) (w : World) : List (Nat × TypeId × Array Value) := [(w.heap.size + 1, t, x.cells), (w.heap.size, 24, cfgCells c s)]
theorem kstart (c : Nat → Int) (s : Int) (t : TypeId) (x : Cr) (w : World) : St w (LK c s t x w) ((w.alloc (.cells (cfgCells c s) 24)).alloc (.cells x.cells t)) :=
  ((St.nil w).alloc 24 (cfgCells c s)).alloc' (w.heap.size + 1) (by simp) t x.cells
set_option maxRecDepth 100000 in
set_option maxHeartbeats 4000000 in
theorem ccheck_any (c : Nat → Int) (s f d o h : Int) (m : Bool) (w : World) :
    Calls Try.prog 7 #[.agg (cfgCells c s), .agg (Cr.mk f d o h m).cells] w fun e w' => e = .returned (.bool (cokV c ⟨f, d, o, h, m⟩)) ∧ Below w.heap.size w w' := by
  have hS := kstart c s 26 ⟨f, d, o, h, m⟩ w
  have HL := St.loadC (L := LK c s 26 ⟨f, d, o, h, m⟩ w) (w0 := w) 1 rfl
  have Q0 := St.cell (L := LK c s 26 ⟨f, d, o, h, m⟩ w) (w0 := w) 0 rfl 0 rfl
  have Q1 := St.cell (L := LK c s 26 ⟨f, d, o, h, m⟩ w) (w0 := w) 0 rfl 1 rfl
  have Q2 := St.cell (L := LK c s 26 ⟨f, d, o, h, m⟩ w) (w0 := w) 0 rfl 2 rfl
  have Q3 := St.cell (L := LK c s 26 ⟨f, d, o, h, m⟩ w) (w0 := w) 0 rfl 3 rfl
  have Q4 := St.cell (L := LK c s 26 ⟨f, d, o, h, m⟩ w) (w0 := w) 0 rfl 4 rfl
  have C0 := St.cell (L := LK c s 26 ⟨f, d, o, h, m⟩ w) (w0 := w) 1 rfl 0 rfl
  have C15 := St.cell (L := LK c s 26 ⟨f, d, o, h, m⟩ w) (w0 := w) 1 rfl 15 rfl
  have C16 := St.cell (L := LK c s 26 ⟨f, d, o, h, m⟩ w) (w0 := w) 1 rfl 16 rfl
  cases hf : floorV c f
  · have HB := Lib.hid hf
    have HT := Lib.hid (show cokV c ⟨f, d, o, h, m⟩ = false by unfold cokV; rw [hf]; rfl)
    go_enter Try.func7, Try.ntmps7
    go_wp2_with (go_at_call 18; refine (floor_is s HB.out _).mono ?_; rintro e w1 ⟨rfl, hB⟩; replace hS := hS.step hB; clear hB)
    go_ret
    exact ⟨ret_bool HT.out.symm, hS.below⟩
  · have HB := Lib.hid hf
    have hfr := hf
    clear hf
    by_cases h0 : -1 ≤ d
    rotate_left
    · have HT0 := Lib.hid (show cokV c ⟨f, d, o, h, m⟩ = false by unfold cokV; simp only [hfr, decide_eq_false h0, Bool.false_and, Bool.and_false])
      have HT := Lib.hid (show cokV c ⟨f, d, o, h, m⟩ = false by exact HT0.out)
      go_enter Try.func7, Try.ntmps7
      go_wp2_with (go_at_call 18; refine (floor_is s HB.out _).mono ?_; rintro e w1 ⟨rfl, hB⟩; replace hS := hS.step hB; clear hB)
      go_ret
      exact ⟨ret_bool HT.out.symm, hS.below⟩
    by_cases h1 : d ≤ 1
    rotate_left
    · have HT0 := Lib.hid (show cokV c ⟨f, d, o, h, m⟩ = false by unfold cokV; simp only [hfr, decide_eq_true h0, decide_eq_false h1, Bool.false_and, Bool.and_false])
      have HT := Lib.hid (show cokV c ⟨f, d, o, h, m⟩ = false by exact HT0.out)
      go_enter Try.func7, Try.ntmps7
      go_wp2_with (go_at_call 18; refine (floor_is s HB.out _).mono ?_; rintro e w1 ⟨rfl, hB⟩; replace hS := hS.step hB; clear hB)
      go_ret
      exact ⟨ret_bool HT.out.symm, hS.below⟩
    by_cases h2 : 0 ≤ o
    rotate_left
    · have HT0 := Lib.hid (show cokV c ⟨f, d, o, h, m⟩ = false by unfold cokV; simp only [hfr, decide_eq_true h0, decide_eq_true h1, decide_eq_false h2, Bool.false_and, Bool.and_false])
      have HT := Lib.hid (show cokV c ⟨f, d, o, h, m⟩ = false by exact HT0.out)
      go_enter Try.func7, Try.ntmps7
      go_wp2_with (go_at_call 18; refine (floor_is s HB.out _).mono ?_; rintro e w1 ⟨rfl, hB⟩; replace hS := hS.step hB; clear hB)
      go_ret
      exact ⟨ret_bool HT.out.symm, hS.below⟩
    by_cases h3 : o ≤ c 15
    rotate_left
    · have HT0 := Lib.hid (show cokV c ⟨f, d, o, h, m⟩ = false by unfold cokV; simp only [hfr, decide_eq_true h0, decide_eq_true h1, decide_eq_true h2, decide_eq_false h3, Bool.false_and, Bool.and_false])
      have HT := Lib.hid (show cokV c ⟨f, d, o, h, m⟩ = false by exact HT0.out)
      go_enter Try.func7, Try.ntmps7
      go_wp2_with (go_at_call 18; refine (floor_is s HB.out _).mono ?_; rintro e w1 ⟨rfl, hB⟩; replace hS := hS.step hB; clear hB)
      go_ret
      exact ⟨ret_bool HT.out.symm, hS.below⟩
    by_cases h4 : 0 ≤ h
    rotate_left
    · have HT0 := Lib.hid (show cokV c ⟨f, d, o, h, m⟩ = false by unfold cokV; simp only [hfr, decide_eq_true h0, decide_eq_true h1, decide_eq_true h2, decide_eq_true h3, decide_eq_false h4, Bool.false_and, Bool.and_false])
      have HT := Lib.hid (show cokV c ⟨f, d, o, h, m⟩ = false by exact HT0.out)
      go_enter Try.func7, Try.ntmps7
      go_wp2_with (go_at_call 18; refine (floor_is s HB.out _).mono ?_; rintro e w1 ⟨rfl, hB⟩; replace hS := hS.step hB; clear hB)
      go_ret
      exact ⟨ret_bool HT.out.symm, hS.below⟩
    by_cases h5 : h ≤ c 16
    rotate_left
    · have HT0 := Lib.hid (show cokV c ⟨f, d, o, h, m⟩ = false by unfold cokV; simp only [hfr, decide_eq_true h0, decide_eq_true h1, decide_eq_true h2, decide_eq_true h3, decide_eq_true h4, decide_eq_false h5, Bool.false_and, Bool.and_false])
      have HT := Lib.hid (show cokV c ⟨f, d, o, h, m⟩ = false by exact HT0.out)
      go_enter Try.func7, Try.ntmps7
      go_wp2_with (go_at_call 18; refine (floor_is s HB.out _).mono ?_; rintro e w1 ⟨rfl, hB⟩; replace hS := hS.step hB; clear hB)
      go_ret
      exact ⟨ret_bool HT.out.symm, hS.below⟩
    by_cases hl : 0 < o
    · have HT0 := Lib.hid (show cokV c ⟨f, d, o, h, m⟩ = true by unfold cokV; simp only [hfr, decide_eq_true h0, decide_eq_true h1, decide_eq_true h2, decide_eq_true h3, decide_eq_true h4, decide_eq_true h5, decide_eq_true hl, Bool.true_and, Bool.true_or])
      have HT := Lib.hid (show cokV c ⟨f, d, o, h, m⟩ = true by exact HT0.out)
      go_enter Try.func7, Try.ntmps7
      go_wp2_with (go_at_call 18; refine (floor_is s HB.out _).mono ?_; rintro e w1 ⟨rfl, hB⟩; replace hS := hS.step hB; clear hB)
      go_ret
      exact ⟨ret_bool HT.out.symm, hS.below⟩
    · have HT0 := Lib.hid (show cokV c ⟨f, d, o, h, m⟩ = decide (h = 0) by unfold cokV; simp only [hfr, decide_eq_true h0, decide_eq_true h1, decide_eq_true h2, decide_eq_true h3, decide_eq_true h4, decide_eq_true h5, decide_eq_false hl, Bool.true_and, Bool.false_or])
      obtain rfl : o = 0 := by omega
      have HT := Lib.hid (show cokV c ⟨f, d, 0, h, m⟩ = decide (h = 0) by exact HT0.out)
      go_enter Try.func7, Try.ntmps7
      go_wp2_with (go_at_call 18; refine (floor_is s HB.out _).mono ?_; rintro e w1 ⟨rfl, hB⟩; replace hS := hS.step hB; clear hB)
      go_ret
      exact ⟨ret_bool HT.out.symm, hS.below⟩

set_option maxRecDepth 100000 in
set_option maxHeartbeats 4000000 in
theorem rgood16_any (c : Nat → Int) (s f d o h : Int) (m : Bool) (w : World) :
    Calls Try.prog 8 #[.agg (cfgCells c s), .agg (Cr.mk f d o h m).cells] w fun e w' => e = .returned (.bool (cokV c ⟨f, d, o, h, m⟩)) ∧ Below w.heap.size w w' := by
  have hS := kstart c s 30 ⟨f, d, o, h, m⟩ w
  have HL := St.loadC (L := LK c s 30 ⟨f, d, o, h, m⟩ w) (w0 := w) 1 rfl
  have Q0 := St.cell (L := LK c s 30 ⟨f, d, o, h, m⟩ w) (w0 := w) 0 rfl 0 rfl
  have Q1 := St.cell (L := LK c s 30 ⟨f, d, o, h, m⟩ w) (w0 := w) 0 rfl 1 rfl
  have Q2 := St.cell (L := LK c s 30 ⟨f, d, o, h, m⟩ w) (w0 := w) 0 rfl 2 rfl
  have Q3 := St.cell (L := LK c s 30 ⟨f, d, o, h, m⟩ w) (w0 := w) 0 rfl 3 rfl
  have Q4 := St.cell (L := LK c s 30 ⟨f, d, o, h, m⟩ w) (w0 := w) 0 rfl 4 rfl
  have C0 := St.cell (L := LK c s 30 ⟨f, d, o, h, m⟩ w) (w0 := w) 1 rfl 0 rfl
  have C15 := St.cell (L := LK c s 30 ⟨f, d, o, h, m⟩ w) (w0 := w) 1 rfl 15 rfl
  have C16 := St.cell (L := LK c s 30 ⟨f, d, o, h, m⟩ w) (w0 := w) 1 rfl 16 rfl
  cases hf : good c
  · have HB := Lib.hid hf
    have HT := Lib.hid (show cokV c ⟨f, d, o, h, m⟩ = false by unfold cokV floorV; rw [hf]; rfl)
    go_enter Try.func8, Try.ntmps8
    go_wp2_with (go_at_call 19; refine (rgood_is HB.out _ _).mono ?_; rintro e w1 ⟨rfl, hB⟩; replace hS := hS.step hB; clear hB)
    go_ret
    exact ⟨ret_bool HT.out.symm, hS.below⟩
  · have HB := Lib.hid hf
    have hfr := hf
    clear hf
    by_cases h0 : 1 ≤ f
    rotate_left
    · have HT0 := Lib.hid (show cokV c ⟨f, d, o, h, m⟩ = false by unfold cokV floorV; simp only [hfr, decide_eq_false h0, Bool.false_and, Bool.and_false])
      have HT := Lib.hid (show cokV c ⟨f, d, o, h, m⟩ = false by exact HT0.out)
      go_enter Try.func8, Try.ntmps8
      go_wp2_with (go_at_call 19; refine (rgood_is HB.out _ _).mono ?_; rintro e w1 ⟨rfl, hB⟩; replace hS := hS.step hB; clear hB)
      go_ret
      exact ⟨ret_bool HT.out.symm, hS.below⟩
    by_cases h1 : f ≤ c 0
    rotate_left
    · have HT0 := Lib.hid (show cokV c ⟨f, d, o, h, m⟩ = false by unfold cokV floorV; simp only [hfr, decide_eq_true h0, decide_eq_false h1, Bool.false_and, Bool.and_false])
      have HT := Lib.hid (show cokV c ⟨f, d, o, h, m⟩ = false by exact HT0.out)
      go_enter Try.func8, Try.ntmps8
      go_wp2_with (go_at_call 19; refine (rgood_is HB.out _ _).mono ?_; rintro e w1 ⟨rfl, hB⟩; replace hS := hS.step hB; clear hB)
      go_ret
      exact ⟨ret_bool HT.out.symm, hS.below⟩
    by_cases h2 : -1 ≤ d
    rotate_left
    · have HT0 := Lib.hid (show cokV c ⟨f, d, o, h, m⟩ = false by unfold cokV floorV; simp only [hfr, decide_eq_true h0, decide_eq_true h1, decide_eq_false h2, Bool.false_and, Bool.and_false])
      have HT := Lib.hid (show cokV c ⟨f, d, o, h, m⟩ = false by exact HT0.out)
      go_enter Try.func8, Try.ntmps8
      go_wp2_with (go_at_call 19; refine (rgood_is HB.out _ _).mono ?_; rintro e w1 ⟨rfl, hB⟩; replace hS := hS.step hB; clear hB)
      go_ret
      exact ⟨ret_bool HT.out.symm, hS.below⟩
    by_cases h3 : d ≤ 1
    rotate_left
    · have HT0 := Lib.hid (show cokV c ⟨f, d, o, h, m⟩ = false by unfold cokV floorV; simp only [hfr, decide_eq_true h0, decide_eq_true h1, decide_eq_true h2, decide_eq_false h3, Bool.false_and, Bool.and_false])
      have HT := Lib.hid (show cokV c ⟨f, d, o, h, m⟩ = false by exact HT0.out)
      go_enter Try.func8, Try.ntmps8
      go_wp2_with (go_at_call 19; refine (rgood_is HB.out _ _).mono ?_; rintro e w1 ⟨rfl, hB⟩; replace hS := hS.step hB; clear hB)
      go_ret
      exact ⟨ret_bool HT.out.symm, hS.below⟩
    by_cases h4 : 0 ≤ o
    rotate_left
    · have HT0 := Lib.hid (show cokV c ⟨f, d, o, h, m⟩ = false by unfold cokV floorV; simp only [hfr, decide_eq_true h0, decide_eq_true h1, decide_eq_true h2, decide_eq_true h3, decide_eq_false h4, Bool.false_and, Bool.and_false])
      have HT := Lib.hid (show cokV c ⟨f, d, o, h, m⟩ = false by exact HT0.out)
      go_enter Try.func8, Try.ntmps8
      go_wp2_with (go_at_call 19; refine (rgood_is HB.out _ _).mono ?_; rintro e w1 ⟨rfl, hB⟩; replace hS := hS.step hB; clear hB)
      go_ret
      exact ⟨ret_bool HT.out.symm, hS.below⟩
    by_cases h5 : o ≤ c 15
    rotate_left
    · have HT0 := Lib.hid (show cokV c ⟨f, d, o, h, m⟩ = false by unfold cokV floorV; simp only [hfr, decide_eq_true h0, decide_eq_true h1, decide_eq_true h2, decide_eq_true h3, decide_eq_true h4, decide_eq_false h5, Bool.false_and, Bool.and_false])
      have HT := Lib.hid (show cokV c ⟨f, d, o, h, m⟩ = false by exact HT0.out)
      go_enter Try.func8, Try.ntmps8
      go_wp2_with (go_at_call 19; refine (rgood_is HB.out _ _).mono ?_; rintro e w1 ⟨rfl, hB⟩; replace hS := hS.step hB; clear hB)
      go_ret
      exact ⟨ret_bool HT.out.symm, hS.below⟩
    by_cases h6 : 0 ≤ h
    rotate_left
    · have HT0 := Lib.hid (show cokV c ⟨f, d, o, h, m⟩ = false by unfold cokV floorV; simp only [hfr, decide_eq_true h0, decide_eq_true h1, decide_eq_true h2, decide_eq_true h3, decide_eq_true h4, decide_eq_true h5, decide_eq_false h6, Bool.false_and, Bool.and_false])
      have HT := Lib.hid (show cokV c ⟨f, d, o, h, m⟩ = false by exact HT0.out)
      go_enter Try.func8, Try.ntmps8
      go_wp2_with (go_at_call 19; refine (rgood_is HB.out _ _).mono ?_; rintro e w1 ⟨rfl, hB⟩; replace hS := hS.step hB; clear hB)
      go_ret
      exact ⟨ret_bool HT.out.symm, hS.below⟩
    by_cases h7 : h ≤ c 16
    rotate_left
    · have HT0 := Lib.hid (show cokV c ⟨f, d, o, h, m⟩ = false by unfold cokV floorV; simp only [hfr, decide_eq_true h0, decide_eq_true h1, decide_eq_true h2, decide_eq_true h3, decide_eq_true h4, decide_eq_true h5, decide_eq_true h6, decide_eq_false h7, Bool.false_and, Bool.and_false])
      have HT := Lib.hid (show cokV c ⟨f, d, o, h, m⟩ = false by exact HT0.out)
      go_enter Try.func8, Try.ntmps8
      go_wp2_with (go_at_call 19; refine (rgood_is HB.out _ _).mono ?_; rintro e w1 ⟨rfl, hB⟩; replace hS := hS.step hB; clear hB)
      go_ret
      exact ⟨ret_bool HT.out.symm, hS.below⟩
    by_cases hl : 0 < o
    · have HT0 := Lib.hid (show cokV c ⟨f, d, o, h, m⟩ = true by unfold cokV floorV; simp only [hfr, decide_eq_true h0, decide_eq_true h1, decide_eq_true h2, decide_eq_true h3, decide_eq_true h4, decide_eq_true h5, decide_eq_true h6, decide_eq_true h7, decide_eq_true hl, Bool.true_and, Bool.true_or])
      have hz : ((o : Int) == 0) = false := by simp; omega
      have HT := Lib.hid (show cokV c ⟨f, d, o, h, m⟩ = true by exact HT0.out)
      go_enter Try.func8, Try.ntmps8
      go_wp2_with (go_at_call 19; refine (rgood_is HB.out _ _).mono ?_; rintro e w1 ⟨rfl, hB⟩; replace hS := hS.step hB; clear hB)
      go_ret
      exact ⟨ret_bool HT.out.symm, hS.below⟩
    · have HT0 := Lib.hid (show cokV c ⟨f, d, o, h, m⟩ = decide (h = 0) by unfold cokV floorV; simp only [hfr, decide_eq_true h0, decide_eq_true h1, decide_eq_true h2, decide_eq_true h3, decide_eq_true h4, decide_eq_true h5, decide_eq_true h6, decide_eq_true h7, decide_eq_false hl, Bool.true_and, Bool.false_or])
      obtain rfl : o = 0 := by omega
      have HT := Lib.hid (show cokV c ⟨f, d, 0, h, m⟩ = decide (h = 0) by exact HT0.out)
      go_enter Try.func8, Try.ntmps8
      go_wp2_with (go_at_call 19; refine (rgood_is HB.out _ _).mono ?_; rintro e w1 ⟨rfl, hB⟩; replace hS := hS.step hB; clear hB)
      go_ret
      exact ⟨ret_bool HT.out.symm, hS.below⟩

theorem ccheck_is {c : Nat → Int} {x : Cr} {b : Bool} (s : Int) (h : cokV c x = b) (w : World) :
    Calls Try.prog 7 #[.agg (cfgCells c s), .agg x.cells] w fun e w' => e = .returned (.bool b) ∧ Below w.heap.size w w' := h ▸ ccheck_any c s x.f x.d x.o x.h x.m w
theorem rgood16_is {c : Nat → Int} {x : Cr} {b : Bool} (s : Int) (h : cokV c x = b) (w : World) :
    Calls Try.prog 8 #[.agg (cfgCells c s), .agg x.cells] w fun e w' => e = .returned (.bool b) ∧ Below w.heap.size w w' := h ▸ rgood16_any c s x.f x.d x.o x.h x.m w

/-- Why something can't be asked of a car. -/
def faultV (c : Nat → Int) (x : Cr) (isOpen : Bool) : Int := if cokV c x then (if decide (0 < x.o) = isOpen then 0 else 7) else 1
theorem fault_of {c : Nat → Int} {x : Cr} (h : cokV c x = true) : ∀ b, faultV c x b = if decide (0 < x.o) = b then 0 else 7 := fun b => by
  unfold faultV
  rw [h]
  rfl
set_option maxRecDepth 100000 in
theorem fault_any (c : Nat → Int) (s : Int) (x : Cr) (isOpen : Bool) (w : World) :
    Calls Try.prog 20 #[.agg (cfgCells c s), .agg x.cells, .bool isOpen] w fun e w' => e = .returned (.int .i64 (faultV c x isOpen)) ∧ Below w.heap.size w w' := by
  have hS := kstart c s 26 x w
  have HL := St.loadC (L := LK c s 26 x w) (w0 := w) 1 rfl
  have Q0 := St.cell (L := LK c s 26 x w) (w0 := w) 0 rfl 0 rfl
  have Q1 := St.cell (L := LK c s 26 x w) (w0 := w) 0 rfl 1 rfl
  have Q2 := St.cell (L := LK c s 26 x w) (w0 := w) 0 rfl 2 rfl
  have Q3 := St.cell (L := LK c s 26 x w) (w0 := w) 0 rfl 3 rfl
  have Q4 := St.cell (L := LK c s 26 x w) (w0 := w) 0 rfl 4 rfl
  have C0 := St.cell (L := LK c s 26 x w) (w0 := w) 1 rfl 0 rfl
  have C15 := St.cell (L := LK c s 26 x w) (w0 := w) 1 rfl 15 rfl
  have C16 := St.cell (L := LK c s 26 x w) (w0 := w) 1 rfl 16 rfl
  cases hk : cokV c x
  · have HK := Lib.hid hk
    have HT := Lib.hid (show faultV c x isOpen = 1 by unfold faultV; rw [hk]; rfl)
    clear hk
    go_enter Try.func20, Try.ntmps20
    go_wp2_with (go_at_call 7; refine (ccheck_is s HK.out _).mono ?_; rintro e w1 ⟨rfl, hB⟩; replace hS := hS.step hB; clear hB)
    go_ret
    exact ⟨ret_int HT.out.symm, hS.below⟩
  · have HK := Lib.hid hk
    cases ho : decide (0 < x.o)
    all_goals cases isOpen
    all_goals
      have HT := Lib.hid (fault_of hk)
      clear hk
      go_enter Try.func20, Try.ntmps20
      go_wp2_with (go_at_call 7; refine (ccheck_is s HK.out _).mono ?_; rintro e w1 ⟨rfl, hB⟩; replace hS := hS.step hB; clear hB)
      go_ret
      exact ⟨ret_int (by rw [HT.out]; simp [ho]), hS.below⟩

def newCr : Cr := ⟨1, 0, 0, 0, true⟩
theorem cnew_any (w : World) : Calls Try.prog 10 #[] w fun e w' => e = .returned (.agg newCr.cells) ∧ Below w.heap.size w w' := by
  go_enter Try.func10, Try.ntmps10
  go_wp2_with fail
  have hE := (St.nil w).alloc 26 newCr.cells
  refine bodyPost_ret (results_cell_row Try.results10 _ _ w.heap.size 26 newCr.cells (0, 0) _ rfl (hE.get 0 rfl) Try.underlying26 rfl (by kernel_rfl)) rfl ?_
  exact ⟨rfl, hE.below⟩
end Go.Proofs.Ytejepddoindnlaa
