/- Layer 16: what each deed makes of a car, or why it can't be asked. For every configuration and car; nothing that was in memory is changed. No condition. -/
import Derived.Test.YtejepddoindnlaaCar1
namespace Go.Proofs.Ytejepddoindnlaa
open Go.RowKit

abbrev zcells : Array Value := #[.int .i64 0, .int .i64 0, .int .i64 0, .int .i64 0, .bool false]
abbrev LX (c : Nat → Int) (s : Int) (x : Cr) (w : World) : List (Nat × TypeId × Array Value) := [(w.heap.size + 1 + 1, 26, zcells), (w.heap.size + 1, 26, x.cells), (w.heap.size, 24, cfgCells c s)]
theorem xstart (c : Nat → Int) (s : Int) (x : Cr) (w : World) : St w (LX c s x w) (((w.alloc (.cells (cfgCells c s) 24)).alloc (.cells x.cells 26)).alloc (.cells zcells 26)) :=
  (kstart c s 26 x w).alloc' (w.heap.size + 1 + 1) (by simp) 26 zcells
theorem fault_is {c : Nat → Int} {x : Cr} {b : Bool} {e : Int} (s : Int) (h : faultV c x b = e) (w : World) :
    Calls Try.prog 20 #[.agg (cfgCells c s), .agg x.cells, .bool b] w fun en w' => en = .returned (.int .i64 e) ∧ Below w.heap.size w w' := h ▸ fault_any c s x b w
theorem ret_ce {a b : Cr} {m n : Int} (h : a = b) (h' : m = n) : Ending.returned (.tuple #[.agg a.cells, .int .i64 m]) = .returned (.tuple #[.agg b.cells, .int .i64 n]) := by rw [h, h']
/-- Nothing is at fault: the car can be, and its door is as asked. -/
theorem fault_no {c : Nat → Int} {x : Cr} {b : Bool} (h : faultV c x b = 0) : cokV c x = true ∧ decide (0 < x.o) = b := by
  unfold faultV at h
  cases hk : cokV c x
  · rw [hk] at h; cases h
  · rw [hk] at h
    refine ⟨rfl, ?_⟩
    by_cases e : decide (0 < x.o) = b
    · exact e
    · simp [e] at h

def openV (c : Nat → Int) (x : Cr) : Cr := if faultV c x false = 0 then ⟨x.f, x.d, c 15, 0, false⟩ else Cr.zero
def waitV (c : Nat → Int) (x : Cr) (hold : Bool) : Cr := if faultV c x true = 0 then (if (hold && decide (x.h < c 16)) = true then ⟨x.f, x.d, x.o, x.h + 1, x.m⟩ else ⟨x.f, x.d, x.o - 1, if x.o - 1 = 0 then 0 else x.h, x.m⟩) else Cr.zero
def stepB (c : Nat → Int) (x : Cr) (dir : Int) : Bool := (decide (dir = 1) || decide (dir = -1)) && floorV c (x.f + dir)
def goE (c : Nat → Int) (x : Cr) (dir : Int) : Int := if faultV c x false = 0 then (if stepB c x dir = true then 0 else 3) else faultV c x false
def goV (c : Nat → Int) (x : Cr) (dir : Int) : Cr := if faultV c x false = 0 then (if stepB c x dir = true then ⟨x.f + dir, dir, x.o, x.h, true⟩ else Cr.zero) else Cr.zero
def restV (c : Nat → Int) (x : Cr) : Cr := if faultV c x false = 0 then ⟨x.f, 0, x.o, x.h, x.m⟩ else Cr.zero

set_option maxRecDepth 100000 in
set_option maxHeartbeats 2000000 in
theorem open_any (c : Nat → Int) (s : Int) (x : Cr) (w : World) :
    Calls Try.prog 16 #[.agg (cfgCells c s), .agg x.cells] w fun e w' => e = .returned (.tuple #[.agg (openV c x).cells, .int .i64 (faultV c x false)]) ∧ Below w.heap.size w w' := by
  have hS := xstart c s x w
  have HL := St.loadC (L := LX c s x w) (w0 := w) 2 rfl
  have Q0 := St.cell (L := LX c s x w) (w0 := w) 1 rfl 0 rfl
  have F0 := St.froz (L := LX c s x w) (w0 := w) 1 rfl 0
  have Q1 := St.cell (L := LX c s x w) (w0 := w) 1 rfl 1 rfl
  have F1 := St.froz (L := LX c s x w) (w0 := w) 1 rfl 1
  have Q2 := St.cell (L := LX c s x w) (w0 := w) 1 rfl 2 rfl
  have F2 := St.froz (L := LX c s x w) (w0 := w) 1 rfl 2
  have Q3 := St.cell (L := LX c s x w) (w0 := w) 1 rfl 3 rfl
  have F3 := St.froz (L := LX c s x w) (w0 := w) 1 rfl 3
  have Q4 := St.cell (L := LX c s x w) (w0 := w) 1 rfl 4 rfl
  have F4 := St.froz (L := LX c s x w) (w0 := w) 1 rfl 4
  have C15 := St.cell (L := LX c s x w) (w0 := w) 2 rfl 15 rfl
  have C16 := St.cell (L := LX c s x w) (w0 := w) 2 rfl 16 rfl
  obtain ⟨e0, he0⟩ : ∃ e0, faultV c x false = e0 := ⟨_, rfl⟩
  have HF := Lib.hid he0
  by_cases h0 : e0 = 0
  rotate_left
  · have HT := Lib.hid (show openV c x = Cr.zero by unfold openV; rw [he0, if_neg h0])
    have HE := Lib.hid (show faultV c x false = e0 by exact he0)
    have hb : ((e0 : Int) == 0) = false := by simpa using h0
    clear he0 h0
    go_enter Try.func16, Try.ntmps16
    go_wp2_with (first | (go_at_call 20; refine (fault_is s HF.out _).mono ?_; rintro e w1 ⟨rfl, hB⟩; replace hS := hS.step hB; clear hB) | ((with_reducible show wpList _ _ _ (⟨none, .store 26 _ _, _, _, _, _⟩ :: _) _ _); refine store_at (hS) rfl rfl 26 _ _ rfl 0 (w.heap.size + 1 + 1) 26 _ (zcells) rfl rfl rfl (by kernel_rfl) rfl (by simp [Value.oneCell']) ?_; intro w8 hS8))
    refine bodyPost_ret (results_cell_tmp Try.results16 _ _ (w.heap.size + 1 + 1) 26 (zcells) _ rfl (hS8.get 0 rfl) Try.underlying26 rfl (by kernel_rfl)) rfl ?_
    exact ⟨ret_ce HT.out.symm HE.out.symm, hS8.below⟩
  · subst h0
    obtain ⟨hk, ho⟩ := fault_no he0
    obtain ⟨hg, ⟨f1, f2⟩, ⟨d1, d2⟩, ⟨o1, o2⟩, ⟨i1, i2⟩, hoh⟩ := cok_true hk
    obtain ⟨hg0, _, _, _, _, hg15, hg16⟩ := good_nums hg
    have HH := Lib.hid hoh
    have HO := Lib.hid ho
    have HG := Lib.hid hg
    clear hk hoh hg ho
    have HT := Lib.hid (show openV c x = ⟨x.f, x.d, c 15, 0, false⟩ by unfold openV; rw [he0, if_pos rfl])
    have HE := Lib.hid he0
    clear he0
    go_enter Try.func16, Try.ntmps16
    go_wp2_with (first | (go_at_call 20; refine (fault_is s HF.out _).mono ?_; rintro e w1 ⟨rfl, hB⟩; replace hS := hS.step hB; clear hB) | ((with_reducible show wpList _ _ _ (⟨none, .store 26 _ _, _, _, _, _⟩ :: _) _ _); refine store_at (St.setCellAt (St.setCellAt (St.setCellAt (hS) 1 rfl 2 (.int .i64 (c 15))) 1 rfl 3 (.int .i64 0)) 1 rfl 4 (.bool false)) rfl rfl 26 _ _ rfl 0 (w.heap.size + 1 + 1) 26 _ ((Cr.mk x.f x.d (c 15) 0 false).cells) rfl rfl rfl (by kernel_rfl) rfl (by simp [Value.oneCell']) ?_; intro w8 hS8))
    refine bodyPost_ret (results_cell_tmp Try.results16 _ _ (w.heap.size + 1 + 1) 26 ((Cr.mk x.f x.d (c 15) 0 false).cells) _ rfl (hS8.get 0 rfl) Try.underlying26 rfl (by kernel_rfl)) rfl ?_
    exact ⟨ret_ce HT.out.symm HE.out.symm, hS8.below⟩

set_option maxRecDepth 100000 in
set_option maxHeartbeats 2000000 in
theorem rest_any (c : Nat → Int) (s : Int) (x : Cr) (w : World) :
    Calls Try.prog 14 #[.agg (cfgCells c s), .agg x.cells] w fun e w' => e = .returned (.tuple #[.agg (restV c x).cells, .int .i64 (faultV c x false)]) ∧ Below w.heap.size w w' := by
  have hS := xstart c s x w
  have HL := St.loadC (L := LX c s x w) (w0 := w) 2 rfl
  have Q0 := St.cell (L := LX c s x w) (w0 := w) 1 rfl 0 rfl
  have F0 := St.froz (L := LX c s x w) (w0 := w) 1 rfl 0
  have Q1 := St.cell (L := LX c s x w) (w0 := w) 1 rfl 1 rfl
  have F1 := St.froz (L := LX c s x w) (w0 := w) 1 rfl 1
  have Q2 := St.cell (L := LX c s x w) (w0 := w) 1 rfl 2 rfl
  have F2 := St.froz (L := LX c s x w) (w0 := w) 1 rfl 2
  have Q3 := St.cell (L := LX c s x w) (w0 := w) 1 rfl 3 rfl
  have F3 := St.froz (L := LX c s x w) (w0 := w) 1 rfl 3
  have Q4 := St.cell (L := LX c s x w) (w0 := w) 1 rfl 4 rfl
  have F4 := St.froz (L := LX c s x w) (w0 := w) 1 rfl 4
  have C15 := St.cell (L := LX c s x w) (w0 := w) 2 rfl 15 rfl
  have C16 := St.cell (L := LX c s x w) (w0 := w) 2 rfl 16 rfl
  obtain ⟨e0, he0⟩ : ∃ e0, faultV c x false = e0 := ⟨_, rfl⟩
  have HF := Lib.hid he0
  by_cases h0 : e0 = 0
  rotate_left
  · have HT := Lib.hid (show restV c x = Cr.zero by unfold restV; rw [he0, if_neg h0])
    have HE := Lib.hid (show faultV c x false = e0 by exact he0)
    have hb : ((e0 : Int) == 0) = false := by simpa using h0
    clear he0 h0
    go_enter Try.func14, Try.ntmps14
    go_wp2_with (first | (go_at_call 20; refine (fault_is s HF.out _).mono ?_; rintro e w1 ⟨rfl, hB⟩; replace hS := hS.step hB; clear hB) | ((with_reducible show wpList _ _ _ (⟨none, .store 26 _ _, _, _, _, _⟩ :: _) _ _); refine store_at (hS) rfl rfl 26 _ _ rfl 0 (w.heap.size + 1 + 1) 26 _ (zcells) rfl rfl rfl (by kernel_rfl) rfl (by simp [Value.oneCell']) ?_; intro w8 hS8))
    refine bodyPost_ret (results_cell_tmp Try.results14 _ _ (w.heap.size + 1 + 1) 26 (zcells) _ rfl (hS8.get 0 rfl) Try.underlying26 rfl (by kernel_rfl)) rfl ?_
    exact ⟨ret_ce HT.out.symm HE.out.symm, hS8.below⟩
  · subst h0
    obtain ⟨hk, ho⟩ := fault_no he0
    obtain ⟨hg, ⟨f1, f2⟩, ⟨d1, d2⟩, ⟨o1, o2⟩, ⟨i1, i2⟩, hoh⟩ := cok_true hk
    obtain ⟨hg0, _, _, _, _, hg15, hg16⟩ := good_nums hg
    have HH := Lib.hid hoh
    have HO := Lib.hid ho
    have HG := Lib.hid hg
    clear hk hoh hg ho
    have HT := Lib.hid (show restV c x = ⟨x.f, 0, x.o, x.h, x.m⟩ by unfold restV; rw [he0, if_pos rfl])
    have HE := Lib.hid he0
    clear he0
    go_enter Try.func14, Try.ntmps14
    go_wp2_with (first | (go_at_call 20; refine (fault_is s HF.out _).mono ?_; rintro e w1 ⟨rfl, hB⟩; replace hS := hS.step hB; clear hB) | ((with_reducible show wpList _ _ _ (⟨none, .store 26 _ _, _, _, _, _⟩ :: _) _ _); refine store_at (St.setCellAt (hS) 1 rfl 1 (.int .i64 0)) rfl rfl 26 _ _ rfl 0 (w.heap.size + 1 + 1) 26 _ ((Cr.mk x.f 0 x.o x.h x.m).cells) rfl rfl rfl (by kernel_rfl) rfl (by simp [Value.oneCell']) ?_; intro w8 hS8))
    refine bodyPost_ret (results_cell_tmp Try.results14 _ _ (w.heap.size + 1 + 1) 26 ((Cr.mk x.f 0 x.o x.h x.m).cells) _ rfl (hS8.get 0 rfl) Try.underlying26 rfl (by kernel_rfl)) rfl ?_
    exact ⟨ret_ce HT.out.symm HE.out.symm, hS8.below⟩

set_option maxRecDepth 100000 in
set_option maxHeartbeats 2000000 in
theorem wait_any (c : Nat → Int) (s : Int) (x : Cr) (hold : Bool) (w : World) :
    Calls Try.prog 17 #[.agg (cfgCells c s), .agg x.cells, .bool hold] w fun e w' => e = .returned (.tuple #[.agg (waitV c x hold).cells, .int .i64 (faultV c x true)]) ∧ Below w.heap.size w w' := by
  have hS := xstart c s x w
  have HL := St.loadC (L := LX c s x w) (w0 := w) 2 rfl
  have Q0 := St.cell (L := LX c s x w) (w0 := w) 1 rfl 0 rfl
  have F0 := St.froz (L := LX c s x w) (w0 := w) 1 rfl 0
  have Q1 := St.cell (L := LX c s x w) (w0 := w) 1 rfl 1 rfl
  have F1 := St.froz (L := LX c s x w) (w0 := w) 1 rfl 1
  have Q2 := St.cell (L := LX c s x w) (w0 := w) 1 rfl 2 rfl
  have F2 := St.froz (L := LX c s x w) (w0 := w) 1 rfl 2
  have Q3 := St.cell (L := LX c s x w) (w0 := w) 1 rfl 3 rfl
  have F3 := St.froz (L := LX c s x w) (w0 := w) 1 rfl 3
  have Q4 := St.cell (L := LX c s x w) (w0 := w) 1 rfl 4 rfl
  have F4 := St.froz (L := LX c s x w) (w0 := w) 1 rfl 4
  have C15 := St.cell (L := LX c s x w) (w0 := w) 2 rfl 15 rfl
  have C16 := St.cell (L := LX c s x w) (w0 := w) 2 rfl 16 rfl
  obtain ⟨e0, he0⟩ : ∃ e0, faultV c x true = e0 := ⟨_, rfl⟩
  have HF := Lib.hid he0
  by_cases h0 : e0 = 0
  rotate_left
  · have HT := Lib.hid (show waitV c x hold = Cr.zero by unfold waitV; rw [he0, if_neg h0])
    have HE := Lib.hid (show faultV c x true = e0 by exact he0)
    have hb : ((e0 : Int) == 0) = false := by simpa using h0
    clear he0 h0
    go_enter Try.func17, Try.ntmps17
    go_wp2_with (first | (go_at_call 20; refine (fault_is s HF.out _).mono ?_; rintro e w1 ⟨rfl, hB⟩; replace hS := hS.step hB; clear hB) | ((with_reducible show wpList _ _ _ (⟨none, .store 26 _ _, _, _, _, _⟩ :: _) _ _); refine store_at (hS) rfl rfl 26 _ _ rfl 0 (w.heap.size + 1 + 1) 26 _ (zcells) rfl rfl rfl (by kernel_rfl) rfl (by simp [Value.oneCell']) ?_; intro w8 hS8))
    refine bodyPost_ret (results_cell_tmp Try.results17 _ _ (w.heap.size + 1 + 1) 26 (zcells) _ rfl (hS8.get 0 rfl) Try.underlying26 rfl (by kernel_rfl)) rfl ?_
    exact ⟨ret_ce HT.out.symm HE.out.symm, hS8.below⟩
  · subst h0
    obtain ⟨hk, ho⟩ := fault_no he0
    obtain ⟨hg, ⟨f1, f2⟩, ⟨d1, d2⟩, ⟨o1, o2⟩, ⟨i1, i2⟩, hoh⟩ := cok_true hk
    obtain ⟨hg0, _, _, _, _, hg15, hg16⟩ := good_nums hg
    have HH := Lib.hid hoh
    have HO := Lib.hid ho
    have HG := Lib.hid hg
    clear hk hoh hg ho
    have hop : 0 < x.o := of_decide_eq_true HO.out
    have HE := Lib.hid he0
    by_cases hc : (hold && decide (x.h < c 16)) = true
    · have HT := Lib.hid (show waitV c x hold = ⟨x.f, x.d, x.o, x.h + 1, x.m⟩ by unfold waitV; rw [he0, if_pos rfl, if_pos hc])
      obtain ⟨hh, hlt⟩ := Bool.and_eq_true_iff.1 hc
      subst hh
      clear he0 hc
      go_enter Try.func17, Try.ntmps17
      go_wp2_with (first | (go_at_call 20; refine (fault_is s HF.out _).mono ?_; rintro e w1 ⟨rfl, hB⟩; replace hS := hS.step hB; clear hB) | ((with_reducible show wpList _ _ _ (⟨none, .store 26 _ _, _, _, _, _⟩ :: _) _ _); refine store_at (St.setCellAt (hS) 1 rfl 3 (.int .i64 (x.h + 1))) rfl rfl 26 _ _ rfl 0 (w.heap.size + 1 + 1) 26 _ ((Cr.mk x.f x.d x.o (x.h + 1) x.m).cells) rfl rfl rfl (by kernel_rfl) rfl (by simp [Value.oneCell']) ?_; intro w8 hS8))
      refine bodyPost_ret (results_cell_tmp Try.results17 _ _ (w.heap.size + 1 + 1) 26 ((Cr.mk x.f x.d x.o (x.h + 1) x.m).cells) _ rfl (hS8.get 0 rfl) Try.underlying26 rfl (by kernel_rfl)) rfl ?_
      exact ⟨ret_ce HT.out.symm HE.out.symm, hS8.below⟩
    · have HT0 := Lib.hid (show waitV c x hold = ⟨x.f, x.d, x.o - 1, if x.o - 1 = 0 then 0 else x.h, x.m⟩ by unfold waitV; rw [he0, if_pos rfl, if_neg hc])
      have hc' : hold = false ∨ (hold = true ∧ decide (x.h < c 16) = false) := by
        cases hold
        · exact .inl rfl
        · right; exact ⟨rfl, by simpa using hc⟩
      clear he0 hc
      by_cases hz : x.o - 1 = 0
      · have HT := Lib.hid (show waitV c x hold = ⟨x.f, x.d, x.o - 1, 0, x.m⟩ by rw [HT0.out, if_pos hz])
        have hzb : ((x.o - 1 : Int) == 0) = true := by simpa using hz
        clear hz
        rcases hc' with rfl | ⟨rfl, hx⟩
        all_goals
          go_enter Try.func17, Try.ntmps17
          go_wp2_with (first | (go_at_call 20; refine (fault_is s HF.out _).mono ?_; rintro e w1 ⟨rfl, hB⟩; replace hS := hS.step hB; clear hB) | ((with_reducible show wpList _ _ _ (⟨none, .store 26 _ _, _, _, _, _⟩ :: _) _ _); refine store_at (St.setCellAt (St.setCellAt (hS) 1 rfl 2 (.int .i64 (x.o - 1))) 1 rfl 3 (.int .i64 0)) rfl rfl 26 _ _ rfl 0 (w.heap.size + 1 + 1) 26 _ ((Cr.mk x.f x.d (x.o - 1) 0 x.m).cells) rfl rfl rfl (by kernel_rfl) rfl (by simp [Value.oneCell']) ?_; intro w8 hS8))
          refine bodyPost_ret (results_cell_tmp Try.results17 _ _ (w.heap.size + 1 + 1) 26 ((Cr.mk x.f x.d (x.o - 1) 0 x.m).cells) _ rfl (hS8.get 0 rfl) Try.underlying26 rfl (by kernel_rfl)) rfl ?_
          exact ⟨ret_ce HT.out.symm HE.out.symm, hS8.below⟩
      · have HT := Lib.hid (show waitV c x hold = ⟨x.f, x.d, x.o - 1, x.h, x.m⟩ by rw [HT0.out, if_neg hz])
        have hzb : ((x.o - 1 : Int) == 0) = false := by simpa using hz
        clear hz
        rcases hc' with rfl | ⟨rfl, hx⟩
        all_goals
          go_enter Try.func17, Try.ntmps17
          go_wp2_with (first | (go_at_call 20; refine (fault_is s HF.out _).mono ?_; rintro e w1 ⟨rfl, hB⟩; replace hS := hS.step hB; clear hB) | ((with_reducible show wpList _ _ _ (⟨none, .store 26 _ _, _, _, _, _⟩ :: _) _ _); refine store_at (St.setCellAt (hS) 1 rfl 2 (.int .i64 (x.o - 1))) rfl rfl 26 _ _ rfl 0 (w.heap.size + 1 + 1) 26 _ ((Cr.mk x.f x.d (x.o - 1) x.h x.m).cells) rfl rfl rfl (by kernel_rfl) rfl (by simp [Value.oneCell']) ?_; intro w8 hS8))
          refine bodyPost_ret (results_cell_tmp Try.results17 _ _ (w.heap.size + 1 + 1) 26 ((Cr.mk x.f x.d (x.o - 1) x.h x.m).cells) _ rfl (hS8.get 0 rfl) Try.underlying26 rfl (by kernel_rfl)) rfl ?_
          exact ⟨ret_ce HT.out.symm HE.out.symm, hS8.below⟩

set_option maxRecDepth 100000 in
set_option maxHeartbeats 2000000 in
theorem go_any (c : Nat → Int) (s : Int) (x : Cr) (dir : Int) (w : World) :
    Calls Try.prog 13 #[.agg (cfgCells c s), .agg x.cells, .int .i64 dir] w fun e w' => e = .returned (.tuple #[.agg (goV c x dir).cells, .int .i64 (goE c x dir)]) ∧ Below w.heap.size w w' := by
  have hS := xstart c s x w
  have HL := St.loadC (L := LX c s x w) (w0 := w) 2 rfl
  have Q0 := St.cell (L := LX c s x w) (w0 := w) 1 rfl 0 rfl
  have F0 := St.froz (L := LX c s x w) (w0 := w) 1 rfl 0
  have Q1 := St.cell (L := LX c s x w) (w0 := w) 1 rfl 1 rfl
  have F1 := St.froz (L := LX c s x w) (w0 := w) 1 rfl 1
  have Q2 := St.cell (L := LX c s x w) (w0 := w) 1 rfl 2 rfl
  have F2 := St.froz (L := LX c s x w) (w0 := w) 1 rfl 2
  have Q3 := St.cell (L := LX c s x w) (w0 := w) 1 rfl 3 rfl
  have F3 := St.froz (L := LX c s x w) (w0 := w) 1 rfl 3
  have Q4 := St.cell (L := LX c s x w) (w0 := w) 1 rfl 4 rfl
  have F4 := St.froz (L := LX c s x w) (w0 := w) 1 rfl 4
  have C15 := St.cell (L := LX c s x w) (w0 := w) 2 rfl 15 rfl
  have C16 := St.cell (L := LX c s x w) (w0 := w) 2 rfl 16 rfl
  obtain ⟨e0, he0⟩ : ∃ e0, faultV c x false = e0 := ⟨_, rfl⟩
  have HF := Lib.hid he0
  by_cases h0 : e0 = 0
  rotate_left
  · have HT := Lib.hid (show goV c x dir = Cr.zero by unfold goV; rw [he0, if_neg h0])
    have HE := Lib.hid (show goE c x dir = e0 by unfold goE; rw [he0, if_neg h0])
    have hb : ((e0 : Int) == 0) = false := by simpa using h0
    clear he0 h0
    go_enter Try.func13, Try.ntmps13
    go_wp2_with (first | (go_at_call 20; refine (fault_is s HF.out _).mono ?_; rintro e w1 ⟨rfl, hB⟩; replace hS := hS.step hB; clear hB) | ((with_reducible show wpList _ _ _ (⟨none, .store 26 _ _, _, _, _, _⟩ :: _) _ _); refine store_at (hS) rfl rfl 26 _ _ rfl 0 (w.heap.size + 1 + 1) 26 _ (zcells) rfl rfl rfl (by kernel_rfl) rfl (by simp [Value.oneCell']) ?_; intro w8 hS8))
    refine bodyPost_ret (results_cell_tmp Try.results13 _ _ (w.heap.size + 1 + 1) 26 (zcells) _ rfl (hS8.get 0 rfl) Try.underlying26 rfl (by kernel_rfl)) rfl ?_
    exact ⟨ret_ce HT.out.symm HE.out.symm, hS8.below⟩
  · subst h0
    obtain ⟨hk, ho⟩ := fault_no he0
    obtain ⟨hg, ⟨f1, f2⟩, ⟨d1, d2⟩, ⟨o1, o2⟩, ⟨i1, i2⟩, hoh⟩ := cok_true hk
    obtain ⟨hg0, _, _, _, _, hg15, hg16⟩ := good_nums hg
    have HH := Lib.hid hoh
    have HO := Lib.hid ho
    have HG := Lib.hid hg
    clear hk hoh hg ho
    by_cases hd : dir = 1 ∨ dir = -1
    · rcases hd with rfl | rfl
      · obtain ⟨b, hfl⟩ : ∃ b, floorV c (x.f + 1) = b := ⟨_, rfl⟩
        have HB := Lib.hid hfl
        have hst : stepB c x 1 = b := by unfold stepB; rw [hfl]; simp
        cases b
        · have HT := Lib.hid (show goV c x 1 = Cr.zero by unfold goV; rw [he0, if_pos rfl, hst]; rfl)
          have HE := Lib.hid (show goE c x 1 = 3 by unfold goE; rw [he0, if_pos rfl, hst]; rfl)
          clear he0 hfl hst
          go_enter Try.func13, Try.ntmps13
          go_wp2_with (first | (go_at_call 20; refine (fault_is s HF.out _).mono ?_; rintro e w1 ⟨rfl, hB⟩; replace hS := hS.step hB; clear hB) | (go_at_call 18; (with_reducible refine (floor_is s HB.out _).mono ?_); rintro e w2 ⟨rfl, hB⟩; replace hS := hS.step hB; clear hB) | ((with_reducible show wpList _ _ _ (⟨none, .store 26 _ _, _, _, _, _⟩ :: _) _ _); refine store_at (hS) rfl rfl 26 _ _ rfl 0 (w.heap.size + 1 + 1) 26 _ (zcells) rfl rfl rfl (by kernel_rfl) rfl (by simp [Value.oneCell']) ?_; intro w8 hS8))
          refine bodyPost_ret (results_cell_tmp Try.results13 _ _ (w.heap.size + 1 + 1) 26 (zcells) _ rfl (hS8.get 0 rfl) Try.underlying26 rfl (by kernel_rfl)) rfl ?_
          exact ⟨ret_ce HT.out.symm HE.out.symm, hS8.below⟩
        · have HT := Lib.hid (show goV c x 1 = ⟨x.f + 1, 1, x.o, x.h, true⟩ by unfold goV; rw [he0, if_pos rfl, hst]; rfl)
          have HE := Lib.hid (show goE c x 1 = 0 by unfold goE; rw [he0, if_pos rfl, hst]; rfl)
          clear he0 hfl hst
          go_enter Try.func13, Try.ntmps13
          go_wp2_with (first | (go_at_call 20; refine (fault_is s HF.out _).mono ?_; rintro e w1 ⟨rfl, hB⟩; replace hS := hS.step hB; clear hB) | (go_at_call 18; (with_reducible refine (floor_is s HB.out _).mono ?_); rintro e w2 ⟨rfl, hB⟩; replace hS := hS.step hB; clear hB) | ((with_reducible show wpList _ _ _ (⟨none, .store 26 _ _, _, _, _, _⟩ :: _) _ _); refine store_at (St.setCellAt (St.setCellAt (St.setCellAt (hS) 1 rfl 0 (.int .i64 (x.f + 1))) 1 rfl 1 (.int .i64 1)) 1 rfl 4 (.bool true)) rfl rfl 26 _ _ rfl 0 (w.heap.size + 1 + 1) 26 _ ((Cr.mk (x.f + 1) 1 x.o x.h true).cells) rfl rfl rfl (by kernel_rfl) rfl (by simp [Value.oneCell']) ?_; intro w8 hS8))
          refine bodyPost_ret (results_cell_tmp Try.results13 _ _ (w.heap.size + 1 + 1) 26 ((Cr.mk (x.f + 1) 1 x.o x.h true).cells) _ rfl (hS8.get 0 rfl) Try.underlying26 rfl (by kernel_rfl)) rfl ?_
          exact ⟨ret_ce HT.out.symm HE.out.symm, hS8.below⟩
      · obtain ⟨b, hfl⟩ : ∃ b, floorV c (x.f + (-1)) = b := ⟨_, rfl⟩
        have HB := Lib.hid hfl
        have hst : stepB c x (-1) = b := by unfold stepB; rw [hfl]; simp
        cases b
        · have HT := Lib.hid (show goV c x (-1) = Cr.zero by unfold goV; rw [he0, if_pos rfl, hst]; rfl)
          have HE := Lib.hid (show goE c x (-1) = 3 by unfold goE; rw [he0, if_pos rfl, hst]; rfl)
          clear he0 hfl hst
          go_enter Try.func13, Try.ntmps13
          go_wp2_with (first | (go_at_call 20; refine (fault_is s HF.out _).mono ?_; rintro e w1 ⟨rfl, hB⟩; replace hS := hS.step hB; clear hB) | (go_at_call 18; (with_reducible refine (floor_is s HB.out _).mono ?_); rintro e w2 ⟨rfl, hB⟩; replace hS := hS.step hB; clear hB) | ((with_reducible show wpList _ _ _ (⟨none, .store 26 _ _, _, _, _, _⟩ :: _) _ _); refine store_at (hS) rfl rfl 26 _ _ rfl 0 (w.heap.size + 1 + 1) 26 _ (zcells) rfl rfl rfl (by kernel_rfl) rfl (by simp [Value.oneCell']) ?_; intro w8 hS8))
          refine bodyPost_ret (results_cell_tmp Try.results13 _ _ (w.heap.size + 1 + 1) 26 (zcells) _ rfl (hS8.get 0 rfl) Try.underlying26 rfl (by kernel_rfl)) rfl ?_
          exact ⟨ret_ce HT.out.symm HE.out.symm, hS8.below⟩
        · have HT := Lib.hid (show goV c x (-1) = ⟨x.f + (-1), (-1), x.o, x.h, true⟩ by unfold goV; rw [he0, if_pos rfl, hst]; rfl)
          have HE := Lib.hid (show goE c x (-1) = 0 by unfold goE; rw [he0, if_pos rfl, hst]; rfl)
          clear he0 hfl hst
          go_enter Try.func13, Try.ntmps13
          go_wp2_with (first | (go_at_call 20; refine (fault_is s HF.out _).mono ?_; rintro e w1 ⟨rfl, hB⟩; replace hS := hS.step hB; clear hB) | (go_at_call 18; (with_reducible refine (floor_is s HB.out _).mono ?_); rintro e w2 ⟨rfl, hB⟩; replace hS := hS.step hB; clear hB) | ((with_reducible show wpList _ _ _ (⟨none, .store 26 _ _, _, _, _, _⟩ :: _) _ _); refine store_at (St.setCellAt (St.setCellAt (St.setCellAt (hS) 1 rfl 0 (.int .i64 (x.f + (-1)))) 1 rfl 1 (.int .i64 (-1))) 1 rfl 4 (.bool true)) rfl rfl 26 _ _ rfl 0 (w.heap.size + 1 + 1) 26 _ ((Cr.mk (x.f + (-1)) (-1) x.o x.h true).cells) rfl rfl rfl (by kernel_rfl) rfl (by simp [Value.oneCell']) ?_; intro w8 hS8))
          refine bodyPost_ret (results_cell_tmp Try.results13 _ _ (w.heap.size + 1 + 1) 26 ((Cr.mk (x.f + (-1)) (-1) x.o x.h true).cells) _ rfl (hS8.get 0 rfl) Try.underlying26 rfl (by kernel_rfl)) rfl ?_
          exact ⟨ret_ce HT.out.symm HE.out.symm, hS8.below⟩
    · have hst : stepB c x dir = false := by
        unfold stepB
        rw [decide_eq_false (fun e => hd (.inl e)), decide_eq_false (fun e => hd (.inr e))]
        rfl
      have HT := Lib.hid (show goV c x dir = Cr.zero by unfold goV; rw [he0, if_pos rfl, hst]; rfl)
      have HE := Lib.hid (show goE c x dir = 3 by unfold goE; rw [he0, if_pos rfl, hst]; rfl)
      have n1 : ((dir : Int) == 1) = false := by simp; omega
      have n2 : ((dir : Int) == -1) = false := by simp; omega
      have n3 : ((dir : Int) != 1) = true := by simp; omega
      have n4 : ((dir : Int) != -1) = true := by simp; omega
      clear he0 hst hd
      go_enter Try.func13, Try.ntmps13
      go_wp2_with (first | (go_at_call 20; refine (fault_is s HF.out _).mono ?_; rintro e w1 ⟨rfl, hB⟩; replace hS := hS.step hB; clear hB) | (go_at_call 18; (with_reducible refine (floor_is s HB.out _).mono ?_); rintro e w2 ⟨rfl, hB⟩; replace hS := hS.step hB; clear hB) | ((with_reducible show wpList _ _ _ (⟨none, .store 26 _ _, _, _, _, _⟩ :: _) _ _); refine store_at (hS) rfl rfl 26 _ _ rfl 0 (w.heap.size + 1 + 1) 26 _ (zcells) rfl rfl rfl (by kernel_rfl) rfl (by simp [Value.oneCell']) ?_; intro w8 hS8))
      refine bodyPost_ret (results_cell_tmp Try.results13 _ _ (w.heap.size + 1 + 1) 26 (zcells) _ rfl (hS8.get 0 rfl) Try.underlying26 rfl (by kernel_rfl)) rfl ?_
      exact ⟨ret_ce HT.out.symm HE.out.symm, hS8.below⟩
end Go.Proofs.Ytejepddoindnlaa
