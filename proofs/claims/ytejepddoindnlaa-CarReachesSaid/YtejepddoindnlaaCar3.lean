/- Layer 16: the Go law's deeds, by the program and by the document: one and the same. For every configuration and car; nothing that was in memory is changed. No condition. -/
import Derived.Test.YtejepddoindnlaaCar2
namespace Go.Proofs.Ytejepddoindnlaa
open Go.RowKit
set_option linter.unusedVariables false

/-- What a deed makes of a car: 1 Open, 2 Wait held, 3 Wait, 4 Go by dir, 5 Rest. -/
def doV (c : Nat → Int) (x : Cr) (k : Nat) (dir : Int) : Cr := if k = 1 then openV c x else if k = 2 then waitV c x true else if k = 3 then waitV c x false else if k = 4 then goV c x dir else restV c x
def doE (c : Nat → Int) (x : Cr) (k : Nat) (dir : Int) : Int := if k = 2 ∨ k = 3 then faultV c x true else if k = 4 then goE c x dir else faultV c x false

theorem form_any (x : Cr) (w : World) : Calls Try.prog 9 #[.agg x.cells] w fun e w' => e = .returned (.agg x.cells) ∧ Below w.heap.size w w' := by
  go_enter Try.func9, Try.ntmps9
  go_wp2_with fail
  have hE := ((St.nil w).alloc 26 x.cells).alloc' (w.heap.size + 1) (by simp) 30 x.cells
  refine bodyPost_ret (results_cell_row Try.results9 _ _ (w.heap.size + 1) 30 x.cells (0, 0) _ rfl (hE.get 0 rfl) Try.underlying30 rfl (by kernel_rfl)) rfl ?_
  exact ⟨rfl, hE.below⟩

set_option maxRecDepth 100000 in
set_option maxHeartbeats 2000000 in
theorem does1 (c : Nat → Int) (s : Int) (x : Cr) (dir : Int) (w : World) :
    Calls Try.prog 11 #[.agg (cfgCells c s), .agg x.cells, .int .i64 1, .int .i64 dir] w fun e w' => e = .returned (.tuple #[.agg (doV c x 1 dir).cells, .int .i64 (doE c x 1 dir)]) ∧ Below w.heap.size w w' := by
  have hS := xstart c s x w
  have HL := St.loadC (L := LX c s x w) (w0 := w) 2 rfl
  have Q0 := St.cell (L := LX c s x w) (w0 := w) 1 rfl 0 rfl
  have Q1 := St.cell (L := LX c s x w) (w0 := w) 1 rfl 1 rfl
  have Q2 := St.cell (L := LX c s x w) (w0 := w) 1 rfl 2 rfl
  have Q3 := St.cell (L := LX c s x w) (w0 := w) 1 rfl 3 rfl
  have Q4 := St.cell (L := LX c s x w) (w0 := w) 1 rfl 4 rfl
  have HT := Lib.hid (show doV c x 1 dir = openV c x from rfl)
  have HE := Lib.hid (show doE c x 1 dir = faultV c x false from rfl)
  go_enter Try.func11, Try.ntmps11
  go_wp2_with (first | (go_at_call 16; refine (open_any _ _ _ _).mono ?_; rintro e w1 ⟨rfl, hB⟩; replace hS := hS.step hB; clear hB) | ((with_reducible show wpList _ _ _ (⟨none, .store 26 _ _, _, _, _, _⟩ :: _) _ _); refine store_at hS rfl rfl 26 _ _ rfl 0 (w.heap.size + 1 + 1) 26 _ (openV c x).cells rfl rfl rfl (by kernel_rfl) rfl (by simp [Value.oneCell']) ?_; intro w8 hS8))
  refine bodyPost_ret (results_cell_tmp Try.results11 _ _ (w.heap.size + 1 + 1) 26 (openV c x).cells _ rfl (hS8.get 0 rfl) Try.underlying26 rfl (by kernel_rfl)) rfl ?_
  exact ⟨ret_ce HT.out.symm HE.out.symm, hS8.below⟩

set_option maxRecDepth 100000 in
set_option maxHeartbeats 2000000 in
theorem does2 (c : Nat → Int) (s : Int) (x : Cr) (dir : Int) (w : World) :
    Calls Try.prog 11 #[.agg (cfgCells c s), .agg x.cells, .int .i64 2, .int .i64 dir] w fun e w' => e = .returned (.tuple #[.agg (doV c x 2 dir).cells, .int .i64 (doE c x 2 dir)]) ∧ Below w.heap.size w w' := by
  have hS := xstart c s x w
  have HL := St.loadC (L := LX c s x w) (w0 := w) 2 rfl
  have Q0 := St.cell (L := LX c s x w) (w0 := w) 1 rfl 0 rfl
  have Q1 := St.cell (L := LX c s x w) (w0 := w) 1 rfl 1 rfl
  have Q2 := St.cell (L := LX c s x w) (w0 := w) 1 rfl 2 rfl
  have Q3 := St.cell (L := LX c s x w) (w0 := w) 1 rfl 3 rfl
  have Q4 := St.cell (L := LX c s x w) (w0 := w) 1 rfl 4 rfl
  have HT := Lib.hid (show doV c x 2 dir = waitV c x true from rfl)
  have HE := Lib.hid (show doE c x 2 dir = faultV c x true from rfl)
  go_enter Try.func11, Try.ntmps11
  go_wp2_with (first | (go_at_call 17; refine (wait_any _ _ _ _ _).mono ?_; rintro e w1 ⟨rfl, hB⟩; replace hS := hS.step hB; clear hB) | ((with_reducible show wpList _ _ _ (⟨none, .store 26 _ _, _, _, _, _⟩ :: _) _ _); refine store_at hS rfl rfl 26 _ _ rfl 0 (w.heap.size + 1 + 1) 26 _ (waitV c x true).cells rfl rfl rfl (by kernel_rfl) rfl (by simp [Value.oneCell']) ?_; intro w8 hS8))
  refine bodyPost_ret (results_cell_tmp Try.results11 _ _ (w.heap.size + 1 + 1) 26 (waitV c x true).cells _ rfl (hS8.get 0 rfl) Try.underlying26 rfl (by kernel_rfl)) rfl ?_
  exact ⟨ret_ce HT.out.symm HE.out.symm, hS8.below⟩

set_option maxRecDepth 100000 in
set_option maxHeartbeats 2000000 in
theorem does3 (c : Nat → Int) (s : Int) (x : Cr) (dir : Int) (w : World) :
    Calls Try.prog 11 #[.agg (cfgCells c s), .agg x.cells, .int .i64 3, .int .i64 dir] w fun e w' => e = .returned (.tuple #[.agg (doV c x 3 dir).cells, .int .i64 (doE c x 3 dir)]) ∧ Below w.heap.size w w' := by
  have hS := xstart c s x w
  have HL := St.loadC (L := LX c s x w) (w0 := w) 2 rfl
  have Q0 := St.cell (L := LX c s x w) (w0 := w) 1 rfl 0 rfl
  have Q1 := St.cell (L := LX c s x w) (w0 := w) 1 rfl 1 rfl
  have Q2 := St.cell (L := LX c s x w) (w0 := w) 1 rfl 2 rfl
  have Q3 := St.cell (L := LX c s x w) (w0 := w) 1 rfl 3 rfl
  have Q4 := St.cell (L := LX c s x w) (w0 := w) 1 rfl 4 rfl
  have HT := Lib.hid (show doV c x 3 dir = waitV c x false from rfl)
  have HE := Lib.hid (show doE c x 3 dir = faultV c x true from rfl)
  go_enter Try.func11, Try.ntmps11
  go_wp2_with (first | (go_at_call 17; refine (wait_any _ _ _ _ _).mono ?_; rintro e w1 ⟨rfl, hB⟩; replace hS := hS.step hB; clear hB) | ((with_reducible show wpList _ _ _ (⟨none, .store 26 _ _, _, _, _, _⟩ :: _) _ _); refine store_at hS rfl rfl 26 _ _ rfl 0 (w.heap.size + 1 + 1) 26 _ (waitV c x false).cells rfl rfl rfl (by kernel_rfl) rfl (by simp [Value.oneCell']) ?_; intro w8 hS8))
  refine bodyPost_ret (results_cell_tmp Try.results11 _ _ (w.heap.size + 1 + 1) 26 (waitV c x false).cells _ rfl (hS8.get 0 rfl) Try.underlying26 rfl (by kernel_rfl)) rfl ?_
  exact ⟨ret_ce HT.out.symm HE.out.symm, hS8.below⟩

set_option maxRecDepth 100000 in
set_option maxHeartbeats 2000000 in
theorem does4 (c : Nat → Int) (s : Int) (x : Cr) (dir : Int) (w : World) :
    Calls Try.prog 11 #[.agg (cfgCells c s), .agg x.cells, .int .i64 4, .int .i64 dir] w fun e w' => e = .returned (.tuple #[.agg (doV c x 4 dir).cells, .int .i64 (doE c x 4 dir)]) ∧ Below w.heap.size w w' := by
  have hS := xstart c s x w
  have HL := St.loadC (L := LX c s x w) (w0 := w) 2 rfl
  have Q0 := St.cell (L := LX c s x w) (w0 := w) 1 rfl 0 rfl
  have Q1 := St.cell (L := LX c s x w) (w0 := w) 1 rfl 1 rfl
  have Q2 := St.cell (L := LX c s x w) (w0 := w) 1 rfl 2 rfl
  have Q3 := St.cell (L := LX c s x w) (w0 := w) 1 rfl 3 rfl
  have Q4 := St.cell (L := LX c s x w) (w0 := w) 1 rfl 4 rfl
  have HT := Lib.hid (show doV c x 4 dir = goV c x dir from rfl)
  have HE := Lib.hid (show doE c x 4 dir = goE c x dir from rfl)
  go_enter Try.func11, Try.ntmps11
  go_wp2_with (first | (go_at_call 13; refine (go_any _ _ _ _ _).mono ?_; rintro e w1 ⟨rfl, hB⟩; replace hS := hS.step hB; clear hB) | ((with_reducible show wpList _ _ _ (⟨none, .store 26 _ _, _, _, _, _⟩ :: _) _ _); refine store_at hS rfl rfl 26 _ _ rfl 0 (w.heap.size + 1 + 1) 26 _ (goV c x dir).cells rfl rfl rfl (by kernel_rfl) rfl (by simp [Value.oneCell']) ?_; intro w8 hS8))
  refine bodyPost_ret (results_cell_tmp Try.results11 _ _ (w.heap.size + 1 + 1) 26 (goV c x dir).cells _ rfl (hS8.get 0 rfl) Try.underlying26 rfl (by kernel_rfl)) rfl ?_
  exact ⟨ret_ce HT.out.symm HE.out.symm, hS8.below⟩

set_option maxRecDepth 100000 in
set_option maxHeartbeats 2000000 in
theorem does5 (c : Nat → Int) (s : Int) (x : Cr) (dir : Int) (w : World) :
    Calls Try.prog 11 #[.agg (cfgCells c s), .agg x.cells, .int .i64 5, .int .i64 dir] w fun e w' => e = .returned (.tuple #[.agg (doV c x 5 dir).cells, .int .i64 (doE c x 5 dir)]) ∧ Below w.heap.size w w' := by
  have hS := xstart c s x w
  have HL := St.loadC (L := LX c s x w) (w0 := w) 2 rfl
  have Q0 := St.cell (L := LX c s x w) (w0 := w) 1 rfl 0 rfl
  have Q1 := St.cell (L := LX c s x w) (w0 := w) 1 rfl 1 rfl
  have Q2 := St.cell (L := LX c s x w) (w0 := w) 1 rfl 2 rfl
  have Q3 := St.cell (L := LX c s x w) (w0 := w) 1 rfl 3 rfl
  have Q4 := St.cell (L := LX c s x w) (w0 := w) 1 rfl 4 rfl
  have HT := Lib.hid (show doV c x 5 dir = restV c x from rfl)
  have HE := Lib.hid (show doE c x 5 dir = faultV c x false from rfl)
  go_enter Try.func11, Try.ntmps11
  go_wp2_with (first | (go_at_call 14; refine (rest_any _ _ _ _).mono ?_; rintro e w1 ⟨rfl, hB⟩; replace hS := hS.step hB; clear hB) | ((with_reducible show wpList _ _ _ (⟨none, .store 26 _ _, _, _, _, _⟩ :: _) _ _); refine store_at hS rfl rfl 26 _ _ rfl 0 (w.heap.size + 1 + 1) 26 _ (restV c x).cells rfl rfl rfl (by kernel_rfl) rfl (by simp [Value.oneCell']) ?_; intro w8 hS8))
  refine bodyPost_ret (results_cell_tmp Try.results11 _ _ (w.heap.size + 1 + 1) 26 (restV c x).cells _ rfl (hS8.get 0 rfl) Try.underlying26 rfl (by kernel_rfl)) rfl ?_
  exact ⟨ret_ce HT.out.symm HE.out.symm, hS8.below⟩

theorem fault_bad {c : Nat → Int} {x : Cr} (h : cokV c x = false) : ∀ b, faultV c x b = 1 := fun b => by
  unfold faultV
  rw [h]
  rfl
theorem fault_z {c : Nat → Int} {x : Cr} {b : Bool} (h : cokV c x = true) (h' : decide (0 < x.o) = b) : faultV c x b = 0 := by rw [fault_of h, if_pos h']
theorem fault_7 {c : Nat → Int} {x : Cr} {b : Bool} (h : cokV c x = true) (h' : decide (0 < x.o) = !b) : faultV c x b = 7 := by
  rw [fault_of h, if_neg]
  rw [h']
  cases b <;> simp
abbrev LD (c : Nat → Int) (s : Int) (x : Cr) (w : World) : List (Nat × TypeId × Array Value) := [(w.heap.size + 1 + 1, 30, zcells), (w.heap.size + 1, 30, x.cells), (w.heap.size, 24, cfgCells c s)]
theorem dstart (c : Nat → Int) (s : Int) (x : Cr) (w : World) : St w (LD c s x w) (((w.alloc (.cells (cfgCells c s) 24)).alloc (.cells x.cells 30)).alloc (.cells zcells 30)) :=
  (kstart c s 30 x w).alloc' (w.heap.size + 1 + 1) (by simp) 30 zcells

set_option maxRecDepth 100000 in
set_option maxHeartbeats 2000000 in
theorem do1_bad (c : Nat → Int) (s f d o h dir : Int) (m : Bool) (w : World) (hk : cokV c ⟨f, d, o, h, m⟩ = false)  (hT : doV c ⟨f, d, o, h, m⟩ 1 dir = Cr.zero) (hE : doE c ⟨f, d, o, h, m⟩ 1 dir = 1) :
    Calls Try.prog 12 #[.agg (cfgCells c s), .agg (Cr.cells ⟨f, d, o, h, m⟩), .int .i64 1, .int .i64 dir] w fun e w' => e = .returned (.tuple #[.agg (doV c ⟨f, d, o, h, m⟩ 1 dir).cells, .int .i64 (doE c ⟨f, d, o, h, m⟩ 1 dir)]) ∧ Below w.heap.size w w' := by
  have hS := dstart c s ⟨f, d, o, h, m⟩ w
  have HL := St.loadC (L := LD c s ⟨f, d, o, h, m⟩ w) (w0 := w) 2 rfl
  have Q0 := St.cell (L := LD c s ⟨f, d, o, h, m⟩ w) (w0 := w) 1 rfl 0 rfl
  have Q1 := St.cell (L := LD c s ⟨f, d, o, h, m⟩ w) (w0 := w) 1 rfl 1 rfl
  have Q2 := St.cell (L := LD c s ⟨f, d, o, h, m⟩ w) (w0 := w) 1 rfl 2 rfl
  have Q3 := St.cell (L := LD c s ⟨f, d, o, h, m⟩ w) (w0 := w) 1 rfl 3 rfl
  have Q4 := St.cell (L := LD c s ⟨f, d, o, h, m⟩ w) (w0 := w) 1 rfl 4 rfl
  have C0 := St.cell (L := LD c s ⟨f, d, o, h, m⟩ w) (w0 := w) 2 rfl 0 rfl
  have C15 := St.cell (L := LD c s ⟨f, d, o, h, m⟩ w) (w0 := w) 2 rfl 15 rfl
  have C16 := St.cell (L := LD c s ⟨f, d, o, h, m⟩ w) (w0 := w) 2 rfl 16 rfl
  have HT := Lib.hid (show doV c ⟨f, d, o, h, m⟩ 1 dir = Cr.zero from hT)
  have HE := Lib.hid (show doE c ⟨f, d, o, h, m⟩ 1 dir = 1 from hE)
  have HK := Lib.hid hk
  clear hT hE hk
  go_enter Try.func12, Try.ntmps12
  go_wp2_with (first | (go_at_call 8; refine (rgood16_is s HK.out _).mono ?_; rintro e w1 ⟨rfl, hB⟩; replace hS := hS.step hB; clear hB) | ((with_reducible show wpList _ _ _ (⟨none, .store 30 _ _, _, _, _, _⟩ :: _) _ _); refine store_at hS rfl rfl 30 _ _ rfl 0 (w.heap.size + 1 + 1) 30 _ (zcells) rfl rfl rfl (by kernel_rfl) rfl (by simp [Value.oneCell']) ?_; intro w8 hS8))
  refine bodyPost_ret (results_cell_tmp Try.results12 _ _ (w.heap.size + 1 + 1) 30 (zcells) _ rfl (hS8.get 0 rfl) Try.underlying30 rfl (by kernel_rfl)) rfl ?_
  exact ⟨ret_ce HT.out.symm HE.out.symm, hS8.below⟩

set_option maxRecDepth 100000 in
set_option maxHeartbeats 2000000 in
theorem do1_door (c : Nat → Int) (s f d o h dir : Int) (m : Bool) (w : World) (hk : cokV c ⟨f, d, o, h, m⟩ = true) (ho : decide (0 < o) = true) (hT : doV c ⟨f, d, o, h, m⟩ 1 dir = Cr.zero) (hE : doE c ⟨f, d, o, h, m⟩ 1 dir = 7) :
    Calls Try.prog 12 #[.agg (cfgCells c s), .agg (Cr.cells ⟨f, d, o, h, m⟩), .int .i64 1, .int .i64 dir] w fun e w' => e = .returned (.tuple #[.agg (doV c ⟨f, d, o, h, m⟩ 1 dir).cells, .int .i64 (doE c ⟨f, d, o, h, m⟩ 1 dir)]) ∧ Below w.heap.size w w' := by
  have hS := dstart c s ⟨f, d, o, h, m⟩ w
  have HL := St.loadC (L := LD c s ⟨f, d, o, h, m⟩ w) (w0 := w) 2 rfl
  have Q0 := St.cell (L := LD c s ⟨f, d, o, h, m⟩ w) (w0 := w) 1 rfl 0 rfl
  have Q1 := St.cell (L := LD c s ⟨f, d, o, h, m⟩ w) (w0 := w) 1 rfl 1 rfl
  have Q2 := St.cell (L := LD c s ⟨f, d, o, h, m⟩ w) (w0 := w) 1 rfl 2 rfl
  have Q3 := St.cell (L := LD c s ⟨f, d, o, h, m⟩ w) (w0 := w) 1 rfl 3 rfl
  have Q4 := St.cell (L := LD c s ⟨f, d, o, h, m⟩ w) (w0 := w) 1 rfl 4 rfl
  have C0 := St.cell (L := LD c s ⟨f, d, o, h, m⟩ w) (w0 := w) 2 rfl 0 rfl
  have C15 := St.cell (L := LD c s ⟨f, d, o, h, m⟩ w) (w0 := w) 2 rfl 15 rfl
  have C16 := St.cell (L := LD c s ⟨f, d, o, h, m⟩ w) (w0 := w) 2 rfl 16 rfl
  have HT := Lib.hid (show doV c ⟨f, d, o, h, m⟩ 1 dir = Cr.zero from hT)
  have HE := Lib.hid (show doE c ⟨f, d, o, h, m⟩ 1 dir = 7 from hE)
  have HK := Lib.hid hk
  clear hT hE hk
  go_enter Try.func12, Try.ntmps12
  go_wp2_with (first | (go_at_call 8; refine (rgood16_is s HK.out _).mono ?_; rintro e w1 ⟨rfl, hB⟩; replace hS := hS.step hB; clear hB) | ((with_reducible show wpList _ _ _ (⟨none, .store 30 _ _, _, _, _, _⟩ :: _) _ _); refine store_at hS rfl rfl 30 _ _ rfl 0 (w.heap.size + 1 + 1) 30 _ (zcells) rfl rfl rfl (by kernel_rfl) rfl (by simp [Value.oneCell']) ?_; intro w8 hS8))
  refine bodyPost_ret (results_cell_tmp Try.results12 _ _ (w.heap.size + 1 + 1) 30 (zcells) _ rfl (hS8.get 0 rfl) Try.underlying30 rfl (by kernel_rfl)) rfl ?_
  exact ⟨ret_ce HT.out.symm HE.out.symm, hS8.below⟩

set_option maxRecDepth 100000 in
set_option maxHeartbeats 2000000 in
theorem do2_bad (c : Nat → Int) (s f d o h dir : Int) (m : Bool) (w : World) (hk : cokV c ⟨f, d, o, h, m⟩ = false)  (hT : doV c ⟨f, d, o, h, m⟩ 2 dir = Cr.zero) (hE : doE c ⟨f, d, o, h, m⟩ 2 dir = 1) :
    Calls Try.prog 12 #[.agg (cfgCells c s), .agg (Cr.cells ⟨f, d, o, h, m⟩), .int .i64 2, .int .i64 dir] w fun e w' => e = .returned (.tuple #[.agg (doV c ⟨f, d, o, h, m⟩ 2 dir).cells, .int .i64 (doE c ⟨f, d, o, h, m⟩ 2 dir)]) ∧ Below w.heap.size w w' := by
  have hS := dstart c s ⟨f, d, o, h, m⟩ w
  have HL := St.loadC (L := LD c s ⟨f, d, o, h, m⟩ w) (w0 := w) 2 rfl
  have Q0 := St.cell (L := LD c s ⟨f, d, o, h, m⟩ w) (w0 := w) 1 rfl 0 rfl
  have Q1 := St.cell (L := LD c s ⟨f, d, o, h, m⟩ w) (w0 := w) 1 rfl 1 rfl
  have Q2 := St.cell (L := LD c s ⟨f, d, o, h, m⟩ w) (w0 := w) 1 rfl 2 rfl
  have Q3 := St.cell (L := LD c s ⟨f, d, o, h, m⟩ w) (w0 := w) 1 rfl 3 rfl
  have Q4 := St.cell (L := LD c s ⟨f, d, o, h, m⟩ w) (w0 := w) 1 rfl 4 rfl
  have C0 := St.cell (L := LD c s ⟨f, d, o, h, m⟩ w) (w0 := w) 2 rfl 0 rfl
  have C15 := St.cell (L := LD c s ⟨f, d, o, h, m⟩ w) (w0 := w) 2 rfl 15 rfl
  have C16 := St.cell (L := LD c s ⟨f, d, o, h, m⟩ w) (w0 := w) 2 rfl 16 rfl
  have HT := Lib.hid (show doV c ⟨f, d, o, h, m⟩ 2 dir = Cr.zero from hT)
  have HE := Lib.hid (show doE c ⟨f, d, o, h, m⟩ 2 dir = 1 from hE)
  have HK := Lib.hid hk
  clear hT hE hk
  go_enter Try.func12, Try.ntmps12
  go_wp2_with (first | (go_at_call 8; refine (rgood16_is s HK.out _).mono ?_; rintro e w1 ⟨rfl, hB⟩; replace hS := hS.step hB; clear hB) | ((with_reducible show wpList _ _ _ (⟨none, .store 30 _ _, _, _, _, _⟩ :: _) _ _); refine store_at hS rfl rfl 30 _ _ rfl 0 (w.heap.size + 1 + 1) 30 _ (zcells) rfl rfl rfl (by kernel_rfl) rfl (by simp [Value.oneCell']) ?_; intro w8 hS8))
  refine bodyPost_ret (results_cell_tmp Try.results12 _ _ (w.heap.size + 1 + 1) 30 (zcells) _ rfl (hS8.get 0 rfl) Try.underlying30 rfl (by kernel_rfl)) rfl ?_
  exact ⟨ret_ce HT.out.symm HE.out.symm, hS8.below⟩

set_option maxRecDepth 100000 in
set_option maxHeartbeats 2000000 in
theorem do2_door (c : Nat → Int) (s f d o h dir : Int) (m : Bool) (w : World) (hk : cokV c ⟨f, d, o, h, m⟩ = true) (ho : decide (0 < o) = false) (hT : doV c ⟨f, d, o, h, m⟩ 2 dir = Cr.zero) (hE : doE c ⟨f, d, o, h, m⟩ 2 dir = 7) :
    Calls Try.prog 12 #[.agg (cfgCells c s), .agg (Cr.cells ⟨f, d, o, h, m⟩), .int .i64 2, .int .i64 dir] w fun e w' => e = .returned (.tuple #[.agg (doV c ⟨f, d, o, h, m⟩ 2 dir).cells, .int .i64 (doE c ⟨f, d, o, h, m⟩ 2 dir)]) ∧ Below w.heap.size w w' := by
  have hS := dstart c s ⟨f, d, o, h, m⟩ w
  have HL := St.loadC (L := LD c s ⟨f, d, o, h, m⟩ w) (w0 := w) 2 rfl
  have Q0 := St.cell (L := LD c s ⟨f, d, o, h, m⟩ w) (w0 := w) 1 rfl 0 rfl
  have Q1 := St.cell (L := LD c s ⟨f, d, o, h, m⟩ w) (w0 := w) 1 rfl 1 rfl
  have Q2 := St.cell (L := LD c s ⟨f, d, o, h, m⟩ w) (w0 := w) 1 rfl 2 rfl
  have Q3 := St.cell (L := LD c s ⟨f, d, o, h, m⟩ w) (w0 := w) 1 rfl 3 rfl
  have Q4 := St.cell (L := LD c s ⟨f, d, o, h, m⟩ w) (w0 := w) 1 rfl 4 rfl
  have C0 := St.cell (L := LD c s ⟨f, d, o, h, m⟩ w) (w0 := w) 2 rfl 0 rfl
  have C15 := St.cell (L := LD c s ⟨f, d, o, h, m⟩ w) (w0 := w) 2 rfl 15 rfl
  have C16 := St.cell (L := LD c s ⟨f, d, o, h, m⟩ w) (w0 := w) 2 rfl 16 rfl
  have HT := Lib.hid (show doV c ⟨f, d, o, h, m⟩ 2 dir = Cr.zero from hT)
  have HE := Lib.hid (show doE c ⟨f, d, o, h, m⟩ 2 dir = 7 from hE)
  have HK := Lib.hid hk
  clear hT hE hk
  go_enter Try.func12, Try.ntmps12
  go_wp2_with (first | (go_at_call 8; refine (rgood16_is s HK.out _).mono ?_; rintro e w1 ⟨rfl, hB⟩; replace hS := hS.step hB; clear hB) | ((with_reducible show wpList _ _ _ (⟨none, .store 30 _ _, _, _, _, _⟩ :: _) _ _); refine store_at hS rfl rfl 30 _ _ rfl 0 (w.heap.size + 1 + 1) 30 _ (zcells) rfl rfl rfl (by kernel_rfl) rfl (by simp [Value.oneCell']) ?_; intro w8 hS8))
  refine bodyPost_ret (results_cell_tmp Try.results12 _ _ (w.heap.size + 1 + 1) 30 (zcells) _ rfl (hS8.get 0 rfl) Try.underlying30 rfl (by kernel_rfl)) rfl ?_
  exact ⟨ret_ce HT.out.symm HE.out.symm, hS8.below⟩

set_option maxRecDepth 100000 in
set_option maxHeartbeats 2000000 in
theorem do3_bad (c : Nat → Int) (s f d o h dir : Int) (m : Bool) (w : World) (hk : cokV c ⟨f, d, o, h, m⟩ = false)  (hT : doV c ⟨f, d, o, h, m⟩ 3 dir = Cr.zero) (hE : doE c ⟨f, d, o, h, m⟩ 3 dir = 1) :
    Calls Try.prog 12 #[.agg (cfgCells c s), .agg (Cr.cells ⟨f, d, o, h, m⟩), .int .i64 3, .int .i64 dir] w fun e w' => e = .returned (.tuple #[.agg (doV c ⟨f, d, o, h, m⟩ 3 dir).cells, .int .i64 (doE c ⟨f, d, o, h, m⟩ 3 dir)]) ∧ Below w.heap.size w w' := by
  have hS := dstart c s ⟨f, d, o, h, m⟩ w
  have HL := St.loadC (L := LD c s ⟨f, d, o, h, m⟩ w) (w0 := w) 2 rfl
  have Q0 := St.cell (L := LD c s ⟨f, d, o, h, m⟩ w) (w0 := w) 1 rfl 0 rfl
  have Q1 := St.cell (L := LD c s ⟨f, d, o, h, m⟩ w) (w0 := w) 1 rfl 1 rfl
  have Q2 := St.cell (L := LD c s ⟨f, d, o, h, m⟩ w) (w0 := w) 1 rfl 2 rfl
  have Q3 := St.cell (L := LD c s ⟨f, d, o, h, m⟩ w) (w0 := w) 1 rfl 3 rfl
  have Q4 := St.cell (L := LD c s ⟨f, d, o, h, m⟩ w) (w0 := w) 1 rfl 4 rfl
  have C0 := St.cell (L := LD c s ⟨f, d, o, h, m⟩ w) (w0 := w) 2 rfl 0 rfl
  have C15 := St.cell (L := LD c s ⟨f, d, o, h, m⟩ w) (w0 := w) 2 rfl 15 rfl
  have C16 := St.cell (L := LD c s ⟨f, d, o, h, m⟩ w) (w0 := w) 2 rfl 16 rfl
  have HT := Lib.hid (show doV c ⟨f, d, o, h, m⟩ 3 dir = Cr.zero from hT)
  have HE := Lib.hid (show doE c ⟨f, d, o, h, m⟩ 3 dir = 1 from hE)
  have HK := Lib.hid hk
  clear hT hE hk
  go_enter Try.func12, Try.ntmps12
  go_wp2_with (first | (go_at_call 8; refine (rgood16_is s HK.out _).mono ?_; rintro e w1 ⟨rfl, hB⟩; replace hS := hS.step hB; clear hB) | ((with_reducible show wpList _ _ _ (⟨none, .store 30 _ _, _, _, _, _⟩ :: _) _ _); refine store_at hS rfl rfl 30 _ _ rfl 0 (w.heap.size + 1 + 1) 30 _ (zcells) rfl rfl rfl (by kernel_rfl) rfl (by simp [Value.oneCell']) ?_; intro w8 hS8))
  refine bodyPost_ret (results_cell_tmp Try.results12 _ _ (w.heap.size + 1 + 1) 30 (zcells) _ rfl (hS8.get 0 rfl) Try.underlying30 rfl (by kernel_rfl)) rfl ?_
  exact ⟨ret_ce HT.out.symm HE.out.symm, hS8.below⟩

set_option maxRecDepth 100000 in
set_option maxHeartbeats 2000000 in
theorem do3_door (c : Nat → Int) (s f d o h dir : Int) (m : Bool) (w : World) (hk : cokV c ⟨f, d, o, h, m⟩ = true) (ho : decide (0 < o) = false) (hT : doV c ⟨f, d, o, h, m⟩ 3 dir = Cr.zero) (hE : doE c ⟨f, d, o, h, m⟩ 3 dir = 7) :
    Calls Try.prog 12 #[.agg (cfgCells c s), .agg (Cr.cells ⟨f, d, o, h, m⟩), .int .i64 3, .int .i64 dir] w fun e w' => e = .returned (.tuple #[.agg (doV c ⟨f, d, o, h, m⟩ 3 dir).cells, .int .i64 (doE c ⟨f, d, o, h, m⟩ 3 dir)]) ∧ Below w.heap.size w w' := by
  have hS := dstart c s ⟨f, d, o, h, m⟩ w
  have HL := St.loadC (L := LD c s ⟨f, d, o, h, m⟩ w) (w0 := w) 2 rfl
  have Q0 := St.cell (L := LD c s ⟨f, d, o, h, m⟩ w) (w0 := w) 1 rfl 0 rfl
  have Q1 := St.cell (L := LD c s ⟨f, d, o, h, m⟩ w) (w0 := w) 1 rfl 1 rfl
  have Q2 := St.cell (L := LD c s ⟨f, d, o, h, m⟩ w) (w0 := w) 1 rfl 2 rfl
  have Q3 := St.cell (L := LD c s ⟨f, d, o, h, m⟩ w) (w0 := w) 1 rfl 3 rfl
  have Q4 := St.cell (L := LD c s ⟨f, d, o, h, m⟩ w) (w0 := w) 1 rfl 4 rfl
  have C0 := St.cell (L := LD c s ⟨f, d, o, h, m⟩ w) (w0 := w) 2 rfl 0 rfl
  have C15 := St.cell (L := LD c s ⟨f, d, o, h, m⟩ w) (w0 := w) 2 rfl 15 rfl
  have C16 := St.cell (L := LD c s ⟨f, d, o, h, m⟩ w) (w0 := w) 2 rfl 16 rfl
  have HT := Lib.hid (show doV c ⟨f, d, o, h, m⟩ 3 dir = Cr.zero from hT)
  have HE := Lib.hid (show doE c ⟨f, d, o, h, m⟩ 3 dir = 7 from hE)
  have HK := Lib.hid hk
  clear hT hE hk
  go_enter Try.func12, Try.ntmps12
  go_wp2_with (first | (go_at_call 8; refine (rgood16_is s HK.out _).mono ?_; rintro e w1 ⟨rfl, hB⟩; replace hS := hS.step hB; clear hB) | ((with_reducible show wpList _ _ _ (⟨none, .store 30 _ _, _, _, _, _⟩ :: _) _ _); refine store_at hS rfl rfl 30 _ _ rfl 0 (w.heap.size + 1 + 1) 30 _ (zcells) rfl rfl rfl (by kernel_rfl) rfl (by simp [Value.oneCell']) ?_; intro w8 hS8))
  refine bodyPost_ret (results_cell_tmp Try.results12 _ _ (w.heap.size + 1 + 1) 30 (zcells) _ rfl (hS8.get 0 rfl) Try.underlying30 rfl (by kernel_rfl)) rfl ?_
  exact ⟨ret_ce HT.out.symm HE.out.symm, hS8.below⟩

set_option maxRecDepth 100000 in
set_option maxHeartbeats 2000000 in
theorem do4_bad (c : Nat → Int) (s f d o h dir : Int) (m : Bool) (w : World) (hk : cokV c ⟨f, d, o, h, m⟩ = false)  (hT : doV c ⟨f, d, o, h, m⟩ 4 dir = Cr.zero) (hE : doE c ⟨f, d, o, h, m⟩ 4 dir = 1) :
    Calls Try.prog 12 #[.agg (cfgCells c s), .agg (Cr.cells ⟨f, d, o, h, m⟩), .int .i64 4, .int .i64 dir] w fun e w' => e = .returned (.tuple #[.agg (doV c ⟨f, d, o, h, m⟩ 4 dir).cells, .int .i64 (doE c ⟨f, d, o, h, m⟩ 4 dir)]) ∧ Below w.heap.size w w' := by
  have hS := dstart c s ⟨f, d, o, h, m⟩ w
  have HL := St.loadC (L := LD c s ⟨f, d, o, h, m⟩ w) (w0 := w) 2 rfl
  have Q0 := St.cell (L := LD c s ⟨f, d, o, h, m⟩ w) (w0 := w) 1 rfl 0 rfl
  have Q1 := St.cell (L := LD c s ⟨f, d, o, h, m⟩ w) (w0 := w) 1 rfl 1 rfl
  have Q2 := St.cell (L := LD c s ⟨f, d, o, h, m⟩ w) (w0 := w) 1 rfl 2 rfl
  have Q3 := St.cell (L := LD c s ⟨f, d, o, h, m⟩ w) (w0 := w) 1 rfl 3 rfl
  have Q4 := St.cell (L := LD c s ⟨f, d, o, h, m⟩ w) (w0 := w) 1 rfl 4 rfl
  have C0 := St.cell (L := LD c s ⟨f, d, o, h, m⟩ w) (w0 := w) 2 rfl 0 rfl
  have C15 := St.cell (L := LD c s ⟨f, d, o, h, m⟩ w) (w0 := w) 2 rfl 15 rfl
  have C16 := St.cell (L := LD c s ⟨f, d, o, h, m⟩ w) (w0 := w) 2 rfl 16 rfl
  have HT := Lib.hid (show doV c ⟨f, d, o, h, m⟩ 4 dir = Cr.zero from hT)
  have HE := Lib.hid (show doE c ⟨f, d, o, h, m⟩ 4 dir = 1 from hE)
  have HK := Lib.hid hk
  clear hT hE hk
  go_enter Try.func12, Try.ntmps12
  go_wp2_with (first | (go_at_call 8; refine (rgood16_is s HK.out _).mono ?_; rintro e w1 ⟨rfl, hB⟩; replace hS := hS.step hB; clear hB) | ((with_reducible show wpList _ _ _ (⟨none, .store 30 _ _, _, _, _, _⟩ :: _) _ _); refine store_at hS rfl rfl 30 _ _ rfl 0 (w.heap.size + 1 + 1) 30 _ (zcells) rfl rfl rfl (by kernel_rfl) rfl (by simp [Value.oneCell']) ?_; intro w8 hS8))
  refine bodyPost_ret (results_cell_tmp Try.results12 _ _ (w.heap.size + 1 + 1) 30 (zcells) _ rfl (hS8.get 0 rfl) Try.underlying30 rfl (by kernel_rfl)) rfl ?_
  exact ⟨ret_ce HT.out.symm HE.out.symm, hS8.below⟩

set_option maxRecDepth 100000 in
set_option maxHeartbeats 2000000 in
theorem do4_door (c : Nat → Int) (s f d o h dir : Int) (m : Bool) (w : World) (hk : cokV c ⟨f, d, o, h, m⟩ = true) (ho : decide (0 < o) = true) (hT : doV c ⟨f, d, o, h, m⟩ 4 dir = Cr.zero) (hE : doE c ⟨f, d, o, h, m⟩ 4 dir = 7) :
    Calls Try.prog 12 #[.agg (cfgCells c s), .agg (Cr.cells ⟨f, d, o, h, m⟩), .int .i64 4, .int .i64 dir] w fun e w' => e = .returned (.tuple #[.agg (doV c ⟨f, d, o, h, m⟩ 4 dir).cells, .int .i64 (doE c ⟨f, d, o, h, m⟩ 4 dir)]) ∧ Below w.heap.size w w' := by
  have hS := dstart c s ⟨f, d, o, h, m⟩ w
  have HL := St.loadC (L := LD c s ⟨f, d, o, h, m⟩ w) (w0 := w) 2 rfl
  have Q0 := St.cell (L := LD c s ⟨f, d, o, h, m⟩ w) (w0 := w) 1 rfl 0 rfl
  have Q1 := St.cell (L := LD c s ⟨f, d, o, h, m⟩ w) (w0 := w) 1 rfl 1 rfl
  have Q2 := St.cell (L := LD c s ⟨f, d, o, h, m⟩ w) (w0 := w) 1 rfl 2 rfl
  have Q3 := St.cell (L := LD c s ⟨f, d, o, h, m⟩ w) (w0 := w) 1 rfl 3 rfl
  have Q4 := St.cell (L := LD c s ⟨f, d, o, h, m⟩ w) (w0 := w) 1 rfl 4 rfl
  have C0 := St.cell (L := LD c s ⟨f, d, o, h, m⟩ w) (w0 := w) 2 rfl 0 rfl
  have C15 := St.cell (L := LD c s ⟨f, d, o, h, m⟩ w) (w0 := w) 2 rfl 15 rfl
  have C16 := St.cell (L := LD c s ⟨f, d, o, h, m⟩ w) (w0 := w) 2 rfl 16 rfl
  have HT := Lib.hid (show doV c ⟨f, d, o, h, m⟩ 4 dir = Cr.zero from hT)
  have HE := Lib.hid (show doE c ⟨f, d, o, h, m⟩ 4 dir = 7 from hE)
  have HK := Lib.hid hk
  clear hT hE hk
  go_enter Try.func12, Try.ntmps12
  go_wp2_with (first | (go_at_call 8; refine (rgood16_is s HK.out _).mono ?_; rintro e w1 ⟨rfl, hB⟩; replace hS := hS.step hB; clear hB) | ((with_reducible show wpList _ _ _ (⟨none, .store 30 _ _, _, _, _, _⟩ :: _) _ _); refine store_at hS rfl rfl 30 _ _ rfl 0 (w.heap.size + 1 + 1) 30 _ (zcells) rfl rfl rfl (by kernel_rfl) rfl (by simp [Value.oneCell']) ?_; intro w8 hS8))
  refine bodyPost_ret (results_cell_tmp Try.results12 _ _ (w.heap.size + 1 + 1) 30 (zcells) _ rfl (hS8.get 0 rfl) Try.underlying30 rfl (by kernel_rfl)) rfl ?_
  exact ⟨ret_ce HT.out.symm HE.out.symm, hS8.below⟩

set_option maxRecDepth 100000 in
set_option maxHeartbeats 2000000 in
theorem do5_bad (c : Nat → Int) (s f d o h dir : Int) (m : Bool) (w : World) (hk : cokV c ⟨f, d, o, h, m⟩ = false)  (hT : doV c ⟨f, d, o, h, m⟩ 5 dir = Cr.zero) (hE : doE c ⟨f, d, o, h, m⟩ 5 dir = 1) :
    Calls Try.prog 12 #[.agg (cfgCells c s), .agg (Cr.cells ⟨f, d, o, h, m⟩), .int .i64 5, .int .i64 dir] w fun e w' => e = .returned (.tuple #[.agg (doV c ⟨f, d, o, h, m⟩ 5 dir).cells, .int .i64 (doE c ⟨f, d, o, h, m⟩ 5 dir)]) ∧ Below w.heap.size w w' := by
  have hS := dstart c s ⟨f, d, o, h, m⟩ w
  have HL := St.loadC (L := LD c s ⟨f, d, o, h, m⟩ w) (w0 := w) 2 rfl
  have Q0 := St.cell (L := LD c s ⟨f, d, o, h, m⟩ w) (w0 := w) 1 rfl 0 rfl
  have Q1 := St.cell (L := LD c s ⟨f, d, o, h, m⟩ w) (w0 := w) 1 rfl 1 rfl
  have Q2 := St.cell (L := LD c s ⟨f, d, o, h, m⟩ w) (w0 := w) 1 rfl 2 rfl
  have Q3 := St.cell (L := LD c s ⟨f, d, o, h, m⟩ w) (w0 := w) 1 rfl 3 rfl
  have Q4 := St.cell (L := LD c s ⟨f, d, o, h, m⟩ w) (w0 := w) 1 rfl 4 rfl
  have C0 := St.cell (L := LD c s ⟨f, d, o, h, m⟩ w) (w0 := w) 2 rfl 0 rfl
  have C15 := St.cell (L := LD c s ⟨f, d, o, h, m⟩ w) (w0 := w) 2 rfl 15 rfl
  have C16 := St.cell (L := LD c s ⟨f, d, o, h, m⟩ w) (w0 := w) 2 rfl 16 rfl
  have HT := Lib.hid (show doV c ⟨f, d, o, h, m⟩ 5 dir = Cr.zero from hT)
  have HE := Lib.hid (show doE c ⟨f, d, o, h, m⟩ 5 dir = 1 from hE)
  have HK := Lib.hid hk
  clear hT hE hk
  go_enter Try.func12, Try.ntmps12
  go_wp2_with (first | (go_at_call 8; refine (rgood16_is s HK.out _).mono ?_; rintro e w1 ⟨rfl, hB⟩; replace hS := hS.step hB; clear hB) | ((with_reducible show wpList _ _ _ (⟨none, .store 30 _ _, _, _, _, _⟩ :: _) _ _); refine store_at hS rfl rfl 30 _ _ rfl 0 (w.heap.size + 1 + 1) 30 _ (zcells) rfl rfl rfl (by kernel_rfl) rfl (by simp [Value.oneCell']) ?_; intro w8 hS8))
  refine bodyPost_ret (results_cell_tmp Try.results12 _ _ (w.heap.size + 1 + 1) 30 (zcells) _ rfl (hS8.get 0 rfl) Try.underlying30 rfl (by kernel_rfl)) rfl ?_
  exact ⟨ret_ce HT.out.symm HE.out.symm, hS8.below⟩

set_option maxRecDepth 100000 in
set_option maxHeartbeats 2000000 in
theorem do5_door (c : Nat → Int) (s f d o h dir : Int) (m : Bool) (w : World) (hk : cokV c ⟨f, d, o, h, m⟩ = true) (ho : decide (0 < o) = true) (hT : doV c ⟨f, d, o, h, m⟩ 5 dir = Cr.zero) (hE : doE c ⟨f, d, o, h, m⟩ 5 dir = 7) :
    Calls Try.prog 12 #[.agg (cfgCells c s), .agg (Cr.cells ⟨f, d, o, h, m⟩), .int .i64 5, .int .i64 dir] w fun e w' => e = .returned (.tuple #[.agg (doV c ⟨f, d, o, h, m⟩ 5 dir).cells, .int .i64 (doE c ⟨f, d, o, h, m⟩ 5 dir)]) ∧ Below w.heap.size w w' := by
  have hS := dstart c s ⟨f, d, o, h, m⟩ w
  have HL := St.loadC (L := LD c s ⟨f, d, o, h, m⟩ w) (w0 := w) 2 rfl
  have Q0 := St.cell (L := LD c s ⟨f, d, o, h, m⟩ w) (w0 := w) 1 rfl 0 rfl
  have Q1 := St.cell (L := LD c s ⟨f, d, o, h, m⟩ w) (w0 := w) 1 rfl 1 rfl
  have Q2 := St.cell (L := LD c s ⟨f, d, o, h, m⟩ w) (w0 := w) 1 rfl 2 rfl
  have Q3 := St.cell (L := LD c s ⟨f, d, o, h, m⟩ w) (w0 := w) 1 rfl 3 rfl
  have Q4 := St.cell (L := LD c s ⟨f, d, o, h, m⟩ w) (w0 := w) 1 rfl 4 rfl
  have C0 := St.cell (L := LD c s ⟨f, d, o, h, m⟩ w) (w0 := w) 2 rfl 0 rfl
  have C15 := St.cell (L := LD c s ⟨f, d, o, h, m⟩ w) (w0 := w) 2 rfl 15 rfl
  have C16 := St.cell (L := LD c s ⟨f, d, o, h, m⟩ w) (w0 := w) 2 rfl 16 rfl
  have HT := Lib.hid (show doV c ⟨f, d, o, h, m⟩ 5 dir = Cr.zero from hT)
  have HE := Lib.hid (show doE c ⟨f, d, o, h, m⟩ 5 dir = 7 from hE)
  have HK := Lib.hid hk
  clear hT hE hk
  go_enter Try.func12, Try.ntmps12
  go_wp2_with (first | (go_at_call 8; refine (rgood16_is s HK.out _).mono ?_; rintro e w1 ⟨rfl, hB⟩; replace hS := hS.step hB; clear hB) | ((with_reducible show wpList _ _ _ (⟨none, .store 30 _ _, _, _, _, _⟩ :: _) _ _); refine store_at hS rfl rfl 30 _ _ rfl 0 (w.heap.size + 1 + 1) 30 _ (zcells) rfl rfl rfl (by kernel_rfl) rfl (by simp [Value.oneCell']) ?_; intro w8 hS8))
  refine bodyPost_ret (results_cell_tmp Try.results12 _ _ (w.heap.size + 1 + 1) 30 (zcells) _ rfl (hS8.get 0 rfl) Try.underlying30 rfl (by kernel_rfl)) rfl ?_
  exact ⟨ret_ce HT.out.symm HE.out.symm, hS8.below⟩

set_option maxRecDepth 100000 in
set_option maxHeartbeats 2000000 in
theorem do1_ok (c : Nat → Int) (s f d dir : Int) (m : Bool) (w : World) (hk : cokV c ⟨f, d, 0, 0, m⟩ = true)  (hT : doV c ⟨f, d, 0, 0, m⟩ 1 dir = ⟨f, d, c 15, 0, false⟩) (hE : doE c ⟨f, d, 0, 0, m⟩ 1 dir = 0) :
    Calls Try.prog 12 #[.agg (cfgCells c s), .agg (Cr.cells ⟨f, d, 0, 0, m⟩), .int .i64 1, .int .i64 dir] w fun e w' => e = .returned (.tuple #[.agg (doV c ⟨f, d, 0, 0, m⟩ 1 dir).cells, .int .i64 (doE c ⟨f, d, 0, 0, m⟩ 1 dir)]) ∧ Below w.heap.size w w' := by
  have hS := dstart c s ⟨f, d, 0, 0, m⟩ w
  have HL := St.loadC (L := LD c s ⟨f, d, 0, 0, m⟩ w) (w0 := w) 2 rfl
  have Q0 := St.cell (L := LD c s ⟨f, d, 0, 0, m⟩ w) (w0 := w) 1 rfl 0 rfl
  have Q1 := St.cell (L := LD c s ⟨f, d, 0, 0, m⟩ w) (w0 := w) 1 rfl 1 rfl
  have Q2 := St.cell (L := LD c s ⟨f, d, 0, 0, m⟩ w) (w0 := w) 1 rfl 2 rfl
  have Q3 := St.cell (L := LD c s ⟨f, d, 0, 0, m⟩ w) (w0 := w) 1 rfl 3 rfl
  have Q4 := St.cell (L := LD c s ⟨f, d, 0, 0, m⟩ w) (w0 := w) 1 rfl 4 rfl
  have C0 := St.cell (L := LD c s ⟨f, d, 0, 0, m⟩ w) (w0 := w) 2 rfl 0 rfl
  have C15 := St.cell (L := LD c s ⟨f, d, 0, 0, m⟩ w) (w0 := w) 2 rfl 15 rfl
  have C16 := St.cell (L := LD c s ⟨f, d, 0, 0, m⟩ w) (w0 := w) 2 rfl 16 rfl
  have HT := Lib.hid (show doV c ⟨f, d, 0, 0, m⟩ 1 dir = ⟨f, d, c 15, 0, false⟩ from hT)
  have HE := Lib.hid (show doE c ⟨f, d, 0, 0, m⟩ 1 dir = 0 from hE)
  have HK := Lib.hid hk
  clear hT hE hk
  go_enter Try.func12, Try.ntmps12
  go_wp2_with (first | (go_at_call 8; refine (rgood16_is s HK.out _).mono ?_; rintro e w1 ⟨rfl, hB⟩; replace hS := hS.step hB; clear hB) | ((with_reducible show wpList _ _ _ (⟨none, .store 30 _ _, _, _, _, _⟩ :: _) _ _); refine store_at hS rfl rfl 30 _ _ rfl 0 (w.heap.size + 1 + 1) 30 _ (Cr.cells ⟨f, d, c 15, 0, false⟩) rfl rfl rfl (by kernel_rfl) rfl (by simp [Value.oneCell']) ?_; intro w8 hS8))
  refine bodyPost_ret (results_cell_tmp Try.results12 _ _ (w.heap.size + 1 + 1) 30 (Cr.cells ⟨f, d, c 15, 0, false⟩) _ rfl (hS8.get 0 rfl) Try.underlying30 rfl (by kernel_rfl)) rfl ?_
  exact ⟨ret_ce HT.out.symm HE.out.symm, hS8.below⟩

set_option maxRecDepth 100000 in
set_option maxHeartbeats 2000000 in
theorem do5_ok (c : Nat → Int) (s f d dir : Int) (m : Bool) (w : World) (hk : cokV c ⟨f, d, 0, 0, m⟩ = true)  (hT : doV c ⟨f, d, 0, 0, m⟩ 5 dir = ⟨f, 0, 0, 0, m⟩) (hE : doE c ⟨f, d, 0, 0, m⟩ 5 dir = 0) :
    Calls Try.prog 12 #[.agg (cfgCells c s), .agg (Cr.cells ⟨f, d, 0, 0, m⟩), .int .i64 5, .int .i64 dir] w fun e w' => e = .returned (.tuple #[.agg (doV c ⟨f, d, 0, 0, m⟩ 5 dir).cells, .int .i64 (doE c ⟨f, d, 0, 0, m⟩ 5 dir)]) ∧ Below w.heap.size w w' := by
  have hS := dstart c s ⟨f, d, 0, 0, m⟩ w
  have HL := St.loadC (L := LD c s ⟨f, d, 0, 0, m⟩ w) (w0 := w) 2 rfl
  have Q0 := St.cell (L := LD c s ⟨f, d, 0, 0, m⟩ w) (w0 := w) 1 rfl 0 rfl
  have Q1 := St.cell (L := LD c s ⟨f, d, 0, 0, m⟩ w) (w0 := w) 1 rfl 1 rfl
  have Q2 := St.cell (L := LD c s ⟨f, d, 0, 0, m⟩ w) (w0 := w) 1 rfl 2 rfl
  have Q3 := St.cell (L := LD c s ⟨f, d, 0, 0, m⟩ w) (w0 := w) 1 rfl 3 rfl
  have Q4 := St.cell (L := LD c s ⟨f, d, 0, 0, m⟩ w) (w0 := w) 1 rfl 4 rfl
  have C0 := St.cell (L := LD c s ⟨f, d, 0, 0, m⟩ w) (w0 := w) 2 rfl 0 rfl
  have C15 := St.cell (L := LD c s ⟨f, d, 0, 0, m⟩ w) (w0 := w) 2 rfl 15 rfl
  have C16 := St.cell (L := LD c s ⟨f, d, 0, 0, m⟩ w) (w0 := w) 2 rfl 16 rfl
  have HT := Lib.hid (show doV c ⟨f, d, 0, 0, m⟩ 5 dir = ⟨f, 0, 0, 0, m⟩ from hT)
  have HE := Lib.hid (show doE c ⟨f, d, 0, 0, m⟩ 5 dir = 0 from hE)
  have HK := Lib.hid hk
  clear hT hE hk
  go_enter Try.func12, Try.ntmps12
  go_wp2_with (first | (go_at_call 8; refine (rgood16_is s HK.out _).mono ?_; rintro e w1 ⟨rfl, hB⟩; replace hS := hS.step hB; clear hB) | ((with_reducible show wpList _ _ _ (⟨none, .store 30 _ _, _, _, _, _⟩ :: _) _ _); refine store_at hS rfl rfl 30 _ _ rfl 0 (w.heap.size + 1 + 1) 30 _ (Cr.cells ⟨f, 0, 0, 0, m⟩) rfl rfl rfl (by kernel_rfl) rfl (by simp [Value.oneCell']) ?_; intro w8 hS8))
  refine bodyPost_ret (results_cell_tmp Try.results12 _ _ (w.heap.size + 1 + 1) 30 (Cr.cells ⟨f, 0, 0, 0, m⟩) _ rfl (hS8.get 0 rfl) Try.underlying30 rfl (by kernel_rfl)) rfl ?_
  exact ⟨ret_ce HT.out.symm HE.out.symm, hS8.below⟩

set_option maxRecDepth 100000 in
set_option maxHeartbeats 2000000 in
theorem do2_hold (c : Nat → Int) (s f d o h dir : Int) (m : Bool) (w : World) (hk : cokV c ⟨f, d, o, h, m⟩ = true) (b1 : 1 ≤ o) (b2 : o ≤ 4) (b3 : 0 ≤ h) (b4 : h ≤ 4) (hh : h < c 16) (hT : doV c ⟨f, d, o, h, m⟩ 2 dir = ⟨f, d, o, h + 1, m⟩) (hE : doE c ⟨f, d, o, h, m⟩ 2 dir = 0) :
    Calls Try.prog 12 #[.agg (cfgCells c s), .agg (Cr.cells ⟨f, d, o, h, m⟩), .int .i64 2, .int .i64 dir] w fun e w' => e = .returned (.tuple #[.agg (doV c ⟨f, d, o, h, m⟩ 2 dir).cells, .int .i64 (doE c ⟨f, d, o, h, m⟩ 2 dir)]) ∧ Below w.heap.size w w' := by
  have hS := dstart c s ⟨f, d, o, h, m⟩ w
  have HL := St.loadC (L := LD c s ⟨f, d, o, h, m⟩ w) (w0 := w) 2 rfl
  have Q0 := St.cell (L := LD c s ⟨f, d, o, h, m⟩ w) (w0 := w) 1 rfl 0 rfl
  have Q1 := St.cell (L := LD c s ⟨f, d, o, h, m⟩ w) (w0 := w) 1 rfl 1 rfl
  have Q2 := St.cell (L := LD c s ⟨f, d, o, h, m⟩ w) (w0 := w) 1 rfl 2 rfl
  have Q3 := St.cell (L := LD c s ⟨f, d, o, h, m⟩ w) (w0 := w) 1 rfl 3 rfl
  have Q4 := St.cell (L := LD c s ⟨f, d, o, h, m⟩ w) (w0 := w) 1 rfl 4 rfl
  have C0 := St.cell (L := LD c s ⟨f, d, o, h, m⟩ w) (w0 := w) 2 rfl 0 rfl
  have C15 := St.cell (L := LD c s ⟨f, d, o, h, m⟩ w) (w0 := w) 2 rfl 15 rfl
  have C16 := St.cell (L := LD c s ⟨f, d, o, h, m⟩ w) (w0 := w) 2 rfl 16 rfl
  have ho : decide (0 < o) = true := decide_eq_true (by omega)
  have HT := Lib.hid (show doV c ⟨f, d, o, h, m⟩ 2 dir = ⟨f, d, o, h + 1, m⟩ from hT)
  have HE := Lib.hid (show doE c ⟨f, d, o, h, m⟩ 2 dir = 0 from hE)
  have HK := Lib.hid hk
  clear hT hE hk
  go_enter Try.func12, Try.ntmps12
  go_wp2_with (first | (go_at_call 8; refine (rgood16_is s HK.out _).mono ?_; rintro e w1 ⟨rfl, hB⟩; replace hS := hS.step hB; clear hB) | ((with_reducible show wpList _ _ _ (⟨none, .store 30 _ _, _, _, _, _⟩ :: _) _ _); refine store_at hS rfl rfl 30 _ _ rfl 0 (w.heap.size + 1 + 1) 30 _ (Cr.cells ⟨f, d, o, h + 1, m⟩) rfl rfl rfl (by kernel_rfl) rfl (by simp [Value.oneCell']) ?_; intro w8 hS8))
  refine bodyPost_ret (results_cell_tmp Try.results12 _ _ (w.heap.size + 1 + 1) 30 (Cr.cells ⟨f, d, o, h + 1, m⟩) _ rfl (hS8.get 0 rfl) Try.underlying30 rfl (by kernel_rfl)) rfl ?_
  exact ⟨ret_ce HT.out.symm HE.out.symm, hS8.below⟩

set_option maxRecDepth 100000 in
set_option maxHeartbeats 2000000 in
theorem do2_shut (c : Nat → Int) (s f d h dir : Int) (m : Bool) (w : World) (hk : cokV c ⟨f, d, 1, h, m⟩ = true) (b3 : 0 ≤ h) (b4 : h ≤ 4) (hh : c 16 ≤ h) (hT : doV c ⟨f, d, 1, h, m⟩ 2 dir = ⟨f, d, 0, 0, m⟩) (hE : doE c ⟨f, d, 1, h, m⟩ 2 dir = 0) :
    Calls Try.prog 12 #[.agg (cfgCells c s), .agg (Cr.cells ⟨f, d, 1, h, m⟩), .int .i64 2, .int .i64 dir] w fun e w' => e = .returned (.tuple #[.agg (doV c ⟨f, d, 1, h, m⟩ 2 dir).cells, .int .i64 (doE c ⟨f, d, 1, h, m⟩ 2 dir)]) ∧ Below w.heap.size w w' := by
  have hS := dstart c s ⟨f, d, 1, h, m⟩ w
  have HL := St.loadC (L := LD c s ⟨f, d, 1, h, m⟩ w) (w0 := w) 2 rfl
  have Q0 := St.cell (L := LD c s ⟨f, d, 1, h, m⟩ w) (w0 := w) 1 rfl 0 rfl
  have Q1 := St.cell (L := LD c s ⟨f, d, 1, h, m⟩ w) (w0 := w) 1 rfl 1 rfl
  have Q2 := St.cell (L := LD c s ⟨f, d, 1, h, m⟩ w) (w0 := w) 1 rfl 2 rfl
  have Q3 := St.cell (L := LD c s ⟨f, d, 1, h, m⟩ w) (w0 := w) 1 rfl 3 rfl
  have Q4 := St.cell (L := LD c s ⟨f, d, 1, h, m⟩ w) (w0 := w) 1 rfl 4 rfl
  have C0 := St.cell (L := LD c s ⟨f, d, 1, h, m⟩ w) (w0 := w) 2 rfl 0 rfl
  have C15 := St.cell (L := LD c s ⟨f, d, 1, h, m⟩ w) (w0 := w) 2 rfl 15 rfl
  have C16 := St.cell (L := LD c s ⟨f, d, 1, h, m⟩ w) (w0 := w) 2 rfl 16 rfl
  have HT := Lib.hid (show doV c ⟨f, d, 1, h, m⟩ 2 dir = ⟨f, d, 0, 0, m⟩ from hT)
  have HE := Lib.hid (show doE c ⟨f, d, 1, h, m⟩ 2 dir = 0 from hE)
  have HK := Lib.hid hk
  clear hT hE hk
  go_enter Try.func12, Try.ntmps12
  go_wp2_with (first | (go_at_call 8; refine (rgood16_is s HK.out _).mono ?_; rintro e w1 ⟨rfl, hB⟩; replace hS := hS.step hB; clear hB) | ((with_reducible show wpList _ _ _ (⟨none, .store 30 _ _, _, _, _, _⟩ :: _) _ _); refine store_at hS rfl rfl 30 _ _ rfl 0 (w.heap.size + 1 + 1) 30 _ (Cr.cells ⟨f, d, 0, 0, m⟩) rfl rfl rfl (by kernel_rfl) rfl (by simp [Value.oneCell']) ?_; intro w8 hS8))
  refine bodyPost_ret (results_cell_tmp Try.results12 _ _ (w.heap.size + 1 + 1) 30 (Cr.cells ⟨f, d, 0, 0, m⟩) _ rfl (hS8.get 0 rfl) Try.underlying30 rfl (by kernel_rfl)) rfl ?_
  exact ⟨ret_ce HT.out.symm HE.out.symm, hS8.below⟩

set_option maxRecDepth 100000 in
set_option maxHeartbeats 2000000 in
theorem do2_wait (c : Nat → Int) (s f d o h dir : Int) (m : Bool) (w : World) (hk : cokV c ⟨f, d, o, h, m⟩ = true) (b1 : 1 ≤ o) (b2 : o ≤ 4) (b3 : 0 ≤ h) (b4 : h ≤ 4) (b5 : 2 ≤ o) (hh : c 16 ≤ h) (hT : doV c ⟨f, d, o, h, m⟩ 2 dir = ⟨f, d, o - 1, h, m⟩) (hE : doE c ⟨f, d, o, h, m⟩ 2 dir = 0) :
    Calls Try.prog 12 #[.agg (cfgCells c s), .agg (Cr.cells ⟨f, d, o, h, m⟩), .int .i64 2, .int .i64 dir] w fun e w' => e = .returned (.tuple #[.agg (doV c ⟨f, d, o, h, m⟩ 2 dir).cells, .int .i64 (doE c ⟨f, d, o, h, m⟩ 2 dir)]) ∧ Below w.heap.size w w' := by
  have hS := dstart c s ⟨f, d, o, h, m⟩ w
  have HL := St.loadC (L := LD c s ⟨f, d, o, h, m⟩ w) (w0 := w) 2 rfl
  have Q0 := St.cell (L := LD c s ⟨f, d, o, h, m⟩ w) (w0 := w) 1 rfl 0 rfl
  have Q1 := St.cell (L := LD c s ⟨f, d, o, h, m⟩ w) (w0 := w) 1 rfl 1 rfl
  have Q2 := St.cell (L := LD c s ⟨f, d, o, h, m⟩ w) (w0 := w) 1 rfl 2 rfl
  have Q3 := St.cell (L := LD c s ⟨f, d, o, h, m⟩ w) (w0 := w) 1 rfl 3 rfl
  have Q4 := St.cell (L := LD c s ⟨f, d, o, h, m⟩ w) (w0 := w) 1 rfl 4 rfl
  have C0 := St.cell (L := LD c s ⟨f, d, o, h, m⟩ w) (w0 := w) 2 rfl 0 rfl
  have C15 := St.cell (L := LD c s ⟨f, d, o, h, m⟩ w) (w0 := w) 2 rfl 15 rfl
  have C16 := St.cell (L := LD c s ⟨f, d, o, h, m⟩ w) (w0 := w) 2 rfl 16 rfl
  have ho : decide (0 < o) = true := decide_eq_true (by omega)
  have h1 : ((o : Int) == 1) = false := by simp; omega
  have HT := Lib.hid (show doV c ⟨f, d, o, h, m⟩ 2 dir = ⟨f, d, o - 1, h, m⟩ from hT)
  have HE := Lib.hid (show doE c ⟨f, d, o, h, m⟩ 2 dir = 0 from hE)
  have HK := Lib.hid hk
  clear hT hE hk
  go_enter Try.func12, Try.ntmps12
  go_wp2_with (first | (go_at_call 8; refine (rgood16_is s HK.out _).mono ?_; rintro e w1 ⟨rfl, hB⟩; replace hS := hS.step hB; clear hB) | ((with_reducible show wpList _ _ _ (⟨none, .store 30 _ _, _, _, _, _⟩ :: _) _ _); refine store_at hS rfl rfl 30 _ _ rfl 0 (w.heap.size + 1 + 1) 30 _ (Cr.cells ⟨f, d, o - 1, h, m⟩) rfl rfl rfl (by kernel_rfl) rfl (by simp [Value.oneCell']) ?_; intro w8 hS8))
  refine bodyPost_ret (results_cell_tmp Try.results12 _ _ (w.heap.size + 1 + 1) 30 (Cr.cells ⟨f, d, o - 1, h, m⟩) _ rfl (hS8.get 0 rfl) Try.underlying30 rfl (by kernel_rfl)) rfl ?_
  exact ⟨ret_ce HT.out.symm HE.out.symm, hS8.below⟩

set_option maxRecDepth 100000 in
set_option maxHeartbeats 2000000 in
theorem do3_shut (c : Nat → Int) (s f d h dir : Int) (m : Bool) (w : World) (hk : cokV c ⟨f, d, 1, h, m⟩ = true) (b3 : 0 ≤ h) (b4 : h ≤ 4) (hT : doV c ⟨f, d, 1, h, m⟩ 3 dir = ⟨f, d, 0, 0, m⟩) (hE : doE c ⟨f, d, 1, h, m⟩ 3 dir = 0) :
    Calls Try.prog 12 #[.agg (cfgCells c s), .agg (Cr.cells ⟨f, d, 1, h, m⟩), .int .i64 3, .int .i64 dir] w fun e w' => e = .returned (.tuple #[.agg (doV c ⟨f, d, 1, h, m⟩ 3 dir).cells, .int .i64 (doE c ⟨f, d, 1, h, m⟩ 3 dir)]) ∧ Below w.heap.size w w' := by
  have hS := dstart c s ⟨f, d, 1, h, m⟩ w
  have HL := St.loadC (L := LD c s ⟨f, d, 1, h, m⟩ w) (w0 := w) 2 rfl
  have Q0 := St.cell (L := LD c s ⟨f, d, 1, h, m⟩ w) (w0 := w) 1 rfl 0 rfl
  have Q1 := St.cell (L := LD c s ⟨f, d, 1, h, m⟩ w) (w0 := w) 1 rfl 1 rfl
  have Q2 := St.cell (L := LD c s ⟨f, d, 1, h, m⟩ w) (w0 := w) 1 rfl 2 rfl
  have Q3 := St.cell (L := LD c s ⟨f, d, 1, h, m⟩ w) (w0 := w) 1 rfl 3 rfl
  have Q4 := St.cell (L := LD c s ⟨f, d, 1, h, m⟩ w) (w0 := w) 1 rfl 4 rfl
  have C0 := St.cell (L := LD c s ⟨f, d, 1, h, m⟩ w) (w0 := w) 2 rfl 0 rfl
  have C15 := St.cell (L := LD c s ⟨f, d, 1, h, m⟩ w) (w0 := w) 2 rfl 15 rfl
  have C16 := St.cell (L := LD c s ⟨f, d, 1, h, m⟩ w) (w0 := w) 2 rfl 16 rfl
  have HT := Lib.hid (show doV c ⟨f, d, 1, h, m⟩ 3 dir = ⟨f, d, 0, 0, m⟩ from hT)
  have HE := Lib.hid (show doE c ⟨f, d, 1, h, m⟩ 3 dir = 0 from hE)
  have HK := Lib.hid hk
  clear hT hE hk
  go_enter Try.func12, Try.ntmps12
  go_wp2_with (first | (go_at_call 8; refine (rgood16_is s HK.out _).mono ?_; rintro e w1 ⟨rfl, hB⟩; replace hS := hS.step hB; clear hB) | ((with_reducible show wpList _ _ _ (⟨none, .store 30 _ _, _, _, _, _⟩ :: _) _ _); refine store_at hS rfl rfl 30 _ _ rfl 0 (w.heap.size + 1 + 1) 30 _ (Cr.cells ⟨f, d, 0, 0, m⟩) rfl rfl rfl (by kernel_rfl) rfl (by simp [Value.oneCell']) ?_; intro w8 hS8))
  refine bodyPost_ret (results_cell_tmp Try.results12 _ _ (w.heap.size + 1 + 1) 30 (Cr.cells ⟨f, d, 0, 0, m⟩) _ rfl (hS8.get 0 rfl) Try.underlying30 rfl (by kernel_rfl)) rfl ?_
  exact ⟨ret_ce HT.out.symm HE.out.symm, hS8.below⟩

set_option maxRecDepth 100000 in
set_option maxHeartbeats 2000000 in
theorem do3_wait (c : Nat → Int) (s f d o h dir : Int) (m : Bool) (w : World) (hk : cokV c ⟨f, d, o, h, m⟩ = true) (b1 : 1 ≤ o) (b2 : o ≤ 4) (b3 : 0 ≤ h) (b4 : h ≤ 4) (b5 : 2 ≤ o) (hT : doV c ⟨f, d, o, h, m⟩ 3 dir = ⟨f, d, o - 1, h, m⟩) (hE : doE c ⟨f, d, o, h, m⟩ 3 dir = 0) :
    Calls Try.prog 12 #[.agg (cfgCells c s), .agg (Cr.cells ⟨f, d, o, h, m⟩), .int .i64 3, .int .i64 dir] w fun e w' => e = .returned (.tuple #[.agg (doV c ⟨f, d, o, h, m⟩ 3 dir).cells, .int .i64 (doE c ⟨f, d, o, h, m⟩ 3 dir)]) ∧ Below w.heap.size w w' := by
  have hS := dstart c s ⟨f, d, o, h, m⟩ w
  have HL := St.loadC (L := LD c s ⟨f, d, o, h, m⟩ w) (w0 := w) 2 rfl
  have Q0 := St.cell (L := LD c s ⟨f, d, o, h, m⟩ w) (w0 := w) 1 rfl 0 rfl
  have Q1 := St.cell (L := LD c s ⟨f, d, o, h, m⟩ w) (w0 := w) 1 rfl 1 rfl
  have Q2 := St.cell (L := LD c s ⟨f, d, o, h, m⟩ w) (w0 := w) 1 rfl 2 rfl
  have Q3 := St.cell (L := LD c s ⟨f, d, o, h, m⟩ w) (w0 := w) 1 rfl 3 rfl
  have Q4 := St.cell (L := LD c s ⟨f, d, o, h, m⟩ w) (w0 := w) 1 rfl 4 rfl
  have C0 := St.cell (L := LD c s ⟨f, d, o, h, m⟩ w) (w0 := w) 2 rfl 0 rfl
  have C15 := St.cell (L := LD c s ⟨f, d, o, h, m⟩ w) (w0 := w) 2 rfl 15 rfl
  have C16 := St.cell (L := LD c s ⟨f, d, o, h, m⟩ w) (w0 := w) 2 rfl 16 rfl
  have ho : decide (0 < o) = true := decide_eq_true (by omega)
  have h1 : ((o : Int) == 1) = false := by simp; omega
  have HT := Lib.hid (show doV c ⟨f, d, o, h, m⟩ 3 dir = ⟨f, d, o - 1, h, m⟩ from hT)
  have HE := Lib.hid (show doE c ⟨f, d, o, h, m⟩ 3 dir = 0 from hE)
  have HK := Lib.hid hk
  clear hT hE hk
  go_enter Try.func12, Try.ntmps12
  go_wp2_with (first | (go_at_call 8; refine (rgood16_is s HK.out _).mono ?_; rintro e w1 ⟨rfl, hB⟩; replace hS := hS.step hB; clear hB) | ((with_reducible show wpList _ _ _ (⟨none, .store 30 _ _, _, _, _, _⟩ :: _) _ _); refine store_at hS rfl rfl 30 _ _ rfl 0 (w.heap.size + 1 + 1) 30 _ (Cr.cells ⟨f, d, o - 1, h, m⟩) rfl rfl rfl (by kernel_rfl) rfl (by simp [Value.oneCell']) ?_; intro w8 hS8))
  refine bodyPost_ret (results_cell_tmp Try.results12 _ _ (w.heap.size + 1 + 1) 30 (Cr.cells ⟨f, d, o - 1, h, m⟩) _ rfl (hS8.get 0 rfl) Try.underlying30 rfl (by kernel_rfl)) rfl ?_
  exact ⟨ret_ce HT.out.symm HE.out.symm, hS8.below⟩

set_option maxRecDepth 100000 in
set_option maxHeartbeats 2000000 in
theorem do4_up (c : Nat → Int) (s f d : Int) (m : Bool) (w : World) (hk : cokV c ⟨f, d, 0, 0, m⟩ = true) (b1 : 1 ≤ f) (b2 : f ≤ c 0) (b3 : c 0 ≤ 32) (hf : f < c 0) (hT : doV c ⟨f, d, 0, 0, m⟩ 4 (1) = ⟨f + 1, 1, 0, 0, true⟩) (hE : doE c ⟨f, d, 0, 0, m⟩ 4 (1) = 0) :
    Calls Try.prog 12 #[.agg (cfgCells c s), .agg (Cr.cells ⟨f, d, 0, 0, m⟩), .int .i64 4, .int .i64 (1)] w fun e w' => e = .returned (.tuple #[.agg (doV c ⟨f, d, 0, 0, m⟩ 4 (1)).cells, .int .i64 (doE c ⟨f, d, 0, 0, m⟩ 4 (1))]) ∧ Below w.heap.size w w' := by
  have hS := dstart c s ⟨f, d, 0, 0, m⟩ w
  have HL := St.loadC (L := LD c s ⟨f, d, 0, 0, m⟩ w) (w0 := w) 2 rfl
  have Q0 := St.cell (L := LD c s ⟨f, d, 0, 0, m⟩ w) (w0 := w) 1 rfl 0 rfl
  have Q1 := St.cell (L := LD c s ⟨f, d, 0, 0, m⟩ w) (w0 := w) 1 rfl 1 rfl
  have Q2 := St.cell (L := LD c s ⟨f, d, 0, 0, m⟩ w) (w0 := w) 1 rfl 2 rfl
  have Q3 := St.cell (L := LD c s ⟨f, d, 0, 0, m⟩ w) (w0 := w) 1 rfl 3 rfl
  have Q4 := St.cell (L := LD c s ⟨f, d, 0, 0, m⟩ w) (w0 := w) 1 rfl 4 rfl
  have C0 := St.cell (L := LD c s ⟨f, d, 0, 0, m⟩ w) (w0 := w) 2 rfl 0 rfl
  have C15 := St.cell (L := LD c s ⟨f, d, 0, 0, m⟩ w) (w0 := w) 2 rfl 15 rfl
  have C16 := St.cell (L := LD c s ⟨f, d, 0, 0, m⟩ w) (w0 := w) 2 rfl 16 rfl
  have HT := Lib.hid (show doV c ⟨f, d, 0, 0, m⟩ 4 (1) = ⟨f + 1, 1, 0, 0, true⟩ from hT)
  have HE := Lib.hid (show doE c ⟨f, d, 0, 0, m⟩ 4 (1) = 0 from hE)
  have HK := Lib.hid hk
  clear hT hE hk
  go_enter Try.func12, Try.ntmps12
  go_wp2_with (first | (go_at_call 8; refine (rgood16_is s HK.out _).mono ?_; rintro e w1 ⟨rfl, hB⟩; replace hS := hS.step hB; clear hB) | ((with_reducible show wpList _ _ _ (⟨none, .store 30 _ _, _, _, _, _⟩ :: _) _ _); refine store_at hS rfl rfl 30 _ _ rfl 0 (w.heap.size + 1 + 1) 30 _ (Cr.cells ⟨f + 1, 1, 0, 0, true⟩) rfl rfl rfl (by kernel_rfl) rfl (by simp [Value.oneCell']) ?_; intro w8 hS8))
  refine bodyPost_ret (results_cell_tmp Try.results12 _ _ (w.heap.size + 1 + 1) 30 (Cr.cells ⟨f + 1, 1, 0, 0, true⟩) _ rfl (hS8.get 0 rfl) Try.underlying30 rfl (by kernel_rfl)) rfl ?_
  exact ⟨ret_ce HT.out.symm HE.out.symm, hS8.below⟩

set_option maxRecDepth 100000 in
set_option maxHeartbeats 2000000 in
theorem do4_top (c : Nat → Int) (s f d : Int) (m : Bool) (w : World) (hk : cokV c ⟨f, d, 0, 0, m⟩ = true) (b1 : 1 ≤ f) (b2 : f ≤ c 0) (b3 : c 0 ≤ 32) (hf : c 0 ≤ f) (hT : doV c ⟨f, d, 0, 0, m⟩ 4 (1) = Cr.zero) (hE : doE c ⟨f, d, 0, 0, m⟩ 4 (1) = 3) :
    Calls Try.prog 12 #[.agg (cfgCells c s), .agg (Cr.cells ⟨f, d, 0, 0, m⟩), .int .i64 4, .int .i64 (1)] w fun e w' => e = .returned (.tuple #[.agg (doV c ⟨f, d, 0, 0, m⟩ 4 (1)).cells, .int .i64 (doE c ⟨f, d, 0, 0, m⟩ 4 (1))]) ∧ Below w.heap.size w w' := by
  have hS := dstart c s ⟨f, d, 0, 0, m⟩ w
  have HL := St.loadC (L := LD c s ⟨f, d, 0, 0, m⟩ w) (w0 := w) 2 rfl
  have Q0 := St.cell (L := LD c s ⟨f, d, 0, 0, m⟩ w) (w0 := w) 1 rfl 0 rfl
  have Q1 := St.cell (L := LD c s ⟨f, d, 0, 0, m⟩ w) (w0 := w) 1 rfl 1 rfl
  have Q2 := St.cell (L := LD c s ⟨f, d, 0, 0, m⟩ w) (w0 := w) 1 rfl 2 rfl
  have Q3 := St.cell (L := LD c s ⟨f, d, 0, 0, m⟩ w) (w0 := w) 1 rfl 3 rfl
  have Q4 := St.cell (L := LD c s ⟨f, d, 0, 0, m⟩ w) (w0 := w) 1 rfl 4 rfl
  have C0 := St.cell (L := LD c s ⟨f, d, 0, 0, m⟩ w) (w0 := w) 2 rfl 0 rfl
  have C15 := St.cell (L := LD c s ⟨f, d, 0, 0, m⟩ w) (w0 := w) 2 rfl 15 rfl
  have C16 := St.cell (L := LD c s ⟨f, d, 0, 0, m⟩ w) (w0 := w) 2 rfl 16 rfl
  have HT := Lib.hid (show doV c ⟨f, d, 0, 0, m⟩ 4 (1) = Cr.zero from hT)
  have HE := Lib.hid (show doE c ⟨f, d, 0, 0, m⟩ 4 (1) = 3 from hE)
  have HK := Lib.hid hk
  clear hT hE hk
  go_enter Try.func12, Try.ntmps12
  go_wp2_with (first | (go_at_call 8; refine (rgood16_is s HK.out _).mono ?_; rintro e w1 ⟨rfl, hB⟩; replace hS := hS.step hB; clear hB) | ((with_reducible show wpList _ _ _ (⟨none, .store 30 _ _, _, _, _, _⟩ :: _) _ _); refine store_at hS rfl rfl 30 _ _ rfl 0 (w.heap.size + 1 + 1) 30 _ (zcells) rfl rfl rfl (by kernel_rfl) rfl (by simp [Value.oneCell']) ?_; intro w8 hS8))
  refine bodyPost_ret (results_cell_tmp Try.results12 _ _ (w.heap.size + 1 + 1) 30 (zcells) _ rfl (hS8.get 0 rfl) Try.underlying30 rfl (by kernel_rfl)) rfl ?_
  exact ⟨ret_ce HT.out.symm HE.out.symm, hS8.below⟩

set_option maxRecDepth 100000 in
set_option maxHeartbeats 2000000 in
theorem do4_down (c : Nat → Int) (s f d : Int) (m : Bool) (w : World) (hk : cokV c ⟨f, d, 0, 0, m⟩ = true) (b1 : 1 ≤ f) (b2 : f ≤ c 0) (b3 : c 0 ≤ 32) (hf : 1 < f) (hT : doV c ⟨f, d, 0, 0, m⟩ 4 (-1) = ⟨f + (-1), (-1), 0, 0, true⟩) (hE : doE c ⟨f, d, 0, 0, m⟩ 4 (-1) = 0) :
    Calls Try.prog 12 #[.agg (cfgCells c s), .agg (Cr.cells ⟨f, d, 0, 0, m⟩), .int .i64 4, .int .i64 (-1)] w fun e w' => e = .returned (.tuple #[.agg (doV c ⟨f, d, 0, 0, m⟩ 4 (-1)).cells, .int .i64 (doE c ⟨f, d, 0, 0, m⟩ 4 (-1))]) ∧ Below w.heap.size w w' := by
  have hS := dstart c s ⟨f, d, 0, 0, m⟩ w
  have HL := St.loadC (L := LD c s ⟨f, d, 0, 0, m⟩ w) (w0 := w) 2 rfl
  have Q0 := St.cell (L := LD c s ⟨f, d, 0, 0, m⟩ w) (w0 := w) 1 rfl 0 rfl
  have Q1 := St.cell (L := LD c s ⟨f, d, 0, 0, m⟩ w) (w0 := w) 1 rfl 1 rfl
  have Q2 := St.cell (L := LD c s ⟨f, d, 0, 0, m⟩ w) (w0 := w) 1 rfl 2 rfl
  have Q3 := St.cell (L := LD c s ⟨f, d, 0, 0, m⟩ w) (w0 := w) 1 rfl 3 rfl
  have Q4 := St.cell (L := LD c s ⟨f, d, 0, 0, m⟩ w) (w0 := w) 1 rfl 4 rfl
  have C0 := St.cell (L := LD c s ⟨f, d, 0, 0, m⟩ w) (w0 := w) 2 rfl 0 rfl
  have C15 := St.cell (L := LD c s ⟨f, d, 0, 0, m⟩ w) (w0 := w) 2 rfl 15 rfl
  have C16 := St.cell (L := LD c s ⟨f, d, 0, 0, m⟩ w) (w0 := w) 2 rfl 16 rfl
  have HT := Lib.hid (show doV c ⟨f, d, 0, 0, m⟩ 4 (-1) = ⟨f + (-1), (-1), 0, 0, true⟩ from hT)
  have HE := Lib.hid (show doE c ⟨f, d, 0, 0, m⟩ 4 (-1) = 0 from hE)
  have HK := Lib.hid hk
  clear hT hE hk
  go_enter Try.func12, Try.ntmps12
  go_wp2_with (first | (go_at_call 8; refine (rgood16_is s HK.out _).mono ?_; rintro e w1 ⟨rfl, hB⟩; replace hS := hS.step hB; clear hB) | ((with_reducible show wpList _ _ _ (⟨none, .store 30 _ _, _, _, _, _⟩ :: _) _ _); refine store_at hS rfl rfl 30 _ _ rfl 0 (w.heap.size + 1 + 1) 30 _ (Cr.cells ⟨f + (-1), (-1), 0, 0, true⟩) rfl rfl rfl (by kernel_rfl) rfl (by simp [Value.oneCell']) ?_; intro w8 hS8))
  refine bodyPost_ret (results_cell_tmp Try.results12 _ _ (w.heap.size + 1 + 1) 30 (Cr.cells ⟨f + (-1), (-1), 0, 0, true⟩) _ rfl (hS8.get 0 rfl) Try.underlying30 rfl (by kernel_rfl)) rfl ?_
  exact ⟨ret_ce HT.out.symm HE.out.symm, hS8.below⟩

set_option maxRecDepth 100000 in
set_option maxHeartbeats 2000000 in
theorem do4_bottom (c : Nat → Int) (s f d : Int) (m : Bool) (w : World) (hk : cokV c ⟨f, d, 0, 0, m⟩ = true) (b1 : 1 ≤ f) (b2 : f ≤ c 0) (b3 : c 0 ≤ 32) (hf : f ≤ 1) (hT : doV c ⟨f, d, 0, 0, m⟩ 4 (-1) = Cr.zero) (hE : doE c ⟨f, d, 0, 0, m⟩ 4 (-1) = 3) :
    Calls Try.prog 12 #[.agg (cfgCells c s), .agg (Cr.cells ⟨f, d, 0, 0, m⟩), .int .i64 4, .int .i64 (-1)] w fun e w' => e = .returned (.tuple #[.agg (doV c ⟨f, d, 0, 0, m⟩ 4 (-1)).cells, .int .i64 (doE c ⟨f, d, 0, 0, m⟩ 4 (-1))]) ∧ Below w.heap.size w w' := by
  have hS := dstart c s ⟨f, d, 0, 0, m⟩ w
  have HL := St.loadC (L := LD c s ⟨f, d, 0, 0, m⟩ w) (w0 := w) 2 rfl
  have Q0 := St.cell (L := LD c s ⟨f, d, 0, 0, m⟩ w) (w0 := w) 1 rfl 0 rfl
  have Q1 := St.cell (L := LD c s ⟨f, d, 0, 0, m⟩ w) (w0 := w) 1 rfl 1 rfl
  have Q2 := St.cell (L := LD c s ⟨f, d, 0, 0, m⟩ w) (w0 := w) 1 rfl 2 rfl
  have Q3 := St.cell (L := LD c s ⟨f, d, 0, 0, m⟩ w) (w0 := w) 1 rfl 3 rfl
  have Q4 := St.cell (L := LD c s ⟨f, d, 0, 0, m⟩ w) (w0 := w) 1 rfl 4 rfl
  have C0 := St.cell (L := LD c s ⟨f, d, 0, 0, m⟩ w) (w0 := w) 2 rfl 0 rfl
  have C15 := St.cell (L := LD c s ⟨f, d, 0, 0, m⟩ w) (w0 := w) 2 rfl 15 rfl
  have C16 := St.cell (L := LD c s ⟨f, d, 0, 0, m⟩ w) (w0 := w) 2 rfl 16 rfl
  have HT := Lib.hid (show doV c ⟨f, d, 0, 0, m⟩ 4 (-1) = Cr.zero from hT)
  have HE := Lib.hid (show doE c ⟨f, d, 0, 0, m⟩ 4 (-1) = 3 from hE)
  have HK := Lib.hid hk
  clear hT hE hk
  go_enter Try.func12, Try.ntmps12
  go_wp2_with (first | (go_at_call 8; refine (rgood16_is s HK.out _).mono ?_; rintro e w1 ⟨rfl, hB⟩; replace hS := hS.step hB; clear hB) | ((with_reducible show wpList _ _ _ (⟨none, .store 30 _ _, _, _, _, _⟩ :: _) _ _); refine store_at hS rfl rfl 30 _ _ rfl 0 (w.heap.size + 1 + 1) 30 _ (zcells) rfl rfl rfl (by kernel_rfl) rfl (by simp [Value.oneCell']) ?_; intro w8 hS8))
  refine bodyPost_ret (results_cell_tmp Try.results12 _ _ (w.heap.size + 1 + 1) 30 (zcells) _ rfl (hS8.get 0 rfl) Try.underlying30 rfl (by kernel_rfl)) rfl ?_
  exact ⟨ret_ce HT.out.symm HE.out.symm, hS8.below⟩

set_option maxRecDepth 100000 in
set_option maxHeartbeats 2000000 in
theorem do4_none (c : Nat → Int) (s f d dir : Int) (m : Bool) (w : World) (hk : cokV c ⟨f, d, 0, 0, m⟩ = true) (b1 : 1 ≤ f) (b2 : f ≤ c 0) (b3 : c 0 ≤ 32) (h1 : dir ≠ 1) (h2 : dir ≠ -1) (hT : doV c ⟨f, d, 0, 0, m⟩ 4 dir = Cr.zero) (hE : doE c ⟨f, d, 0, 0, m⟩ 4 dir = 3) :
    Calls Try.prog 12 #[.agg (cfgCells c s), .agg (Cr.cells ⟨f, d, 0, 0, m⟩), .int .i64 4, .int .i64 dir] w fun e w' => e = .returned (.tuple #[.agg (doV c ⟨f, d, 0, 0, m⟩ 4 dir).cells, .int .i64 (doE c ⟨f, d, 0, 0, m⟩ 4 dir)]) ∧ Below w.heap.size w w' := by
  have hS := dstart c s ⟨f, d, 0, 0, m⟩ w
  have HL := St.loadC (L := LD c s ⟨f, d, 0, 0, m⟩ w) (w0 := w) 2 rfl
  have Q0 := St.cell (L := LD c s ⟨f, d, 0, 0, m⟩ w) (w0 := w) 1 rfl 0 rfl
  have Q1 := St.cell (L := LD c s ⟨f, d, 0, 0, m⟩ w) (w0 := w) 1 rfl 1 rfl
  have Q2 := St.cell (L := LD c s ⟨f, d, 0, 0, m⟩ w) (w0 := w) 1 rfl 2 rfl
  have Q3 := St.cell (L := LD c s ⟨f, d, 0, 0, m⟩ w) (w0 := w) 1 rfl 3 rfl
  have Q4 := St.cell (L := LD c s ⟨f, d, 0, 0, m⟩ w) (w0 := w) 1 rfl 4 rfl
  have C0 := St.cell (L := LD c s ⟨f, d, 0, 0, m⟩ w) (w0 := w) 2 rfl 0 rfl
  have C15 := St.cell (L := LD c s ⟨f, d, 0, 0, m⟩ w) (w0 := w) 2 rfl 15 rfl
  have C16 := St.cell (L := LD c s ⟨f, d, 0, 0, m⟩ w) (w0 := w) 2 rfl 16 rfl
  have n1 : ((dir : Int) == 1) = false := by simpa using h1
  have n2 : ((dir : Int) == -1) = false := by simpa using h2
  clear h1 h2
  have HT := Lib.hid (show doV c ⟨f, d, 0, 0, m⟩ 4 dir = Cr.zero from hT)
  have HE := Lib.hid (show doE c ⟨f, d, 0, 0, m⟩ 4 dir = 3 from hE)
  have HK := Lib.hid hk
  clear hT hE hk
  go_enter Try.func12, Try.ntmps12
  go_wp2_with (first | (go_at_call 8; refine (rgood16_is s HK.out _).mono ?_; rintro e w1 ⟨rfl, hB⟩; replace hS := hS.step hB; clear hB) | ((with_reducible show wpList _ _ _ (⟨none, .store 30 _ _, _, _, _, _⟩ :: _) _ _); refine store_at hS rfl rfl 30 _ _ rfl 0 (w.heap.size + 1 + 1) 30 _ (zcells) rfl rfl rfl (by kernel_rfl) rfl (by simp [Value.oneCell']) ?_; intro w8 hS8))
  refine bodyPost_ret (results_cell_tmp Try.results12 _ _ (w.heap.size + 1 + 1) 30 (zcells) _ rfl (hS8.get 0 rfl) Try.underlying30 rfl (by kernel_rfl)) rfl ?_
  exact ⟨ret_ce HT.out.symm HE.out.symm, hS8.below⟩
end Go.Proofs.Ytejepddoindnlaa
