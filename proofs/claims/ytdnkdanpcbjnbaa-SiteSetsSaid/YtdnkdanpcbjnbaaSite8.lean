/- The statement SiteExact, walked: for every configuration and number the Go law returns true, and nothing that was in memory is changed. No condition. -/
import Derived.Test.YtdnkdanpcbjnbaaSite7
namespace Go.Proofs.Ytdnkdanpcbjnbaa
open Go.RowKit

/-- In w' the boxed configuration stands whole, and nothing older than w has changed. -/
def SC (c : Nat → Int) (s : Int) (w w' : World) : Prop := Blk w' w.heap.size 24 (cfgCells c s) ∧ Below w.heap.size w w'
theorem SC.start (c : Nat → Int) (s : Int) (w : World) : SC c s w (w.alloc (.cells (cfgCells c s) 24)) := ⟨Blk.new _ _ _, (Below.refl _ _).alloc (Nat.le_refl _) _⟩
theorem SC.step {c : Nat → Int} {s : Int} {w a b : World} (hB : Below a.heap.size a b) (h : SC c s w a) : SC c s w b := ⟨h.1.below hB h.1.lt, bel h.2 hB (Nat.le_refl _)⟩
theorem SC.draw {c : Nat → Int} {s : Int} {w a : World} (h : SC c s w a) : SC c s w a.drew := ⟨h.1.drew, h.2.drew⟩
theorem SC.load {c : Nat → Int} {s : Int} {w : World} : ∀ W, SC c s w W → (loadBig 24 ⟨w.heap.size, 0, none⟩).run Try.prog W = .ok (.agg (cfgCells c s)) W := fun _ h => lcfg h.1
theorem SC.cell {c : Nat → Int} {s : Int} {w : World} (k : Nat) (hk : k < 17) : ∀ W, SC c s w W → W.cell? ⟨w.heap.size, k, none⟩ = some (.int .i64 (c k)) := fun _ h => cfg_cell h.1 k hk

theorem ride_ok' {c : Nat → Int} (h : good c = true) (s : Int) (w : World) :
    Calls Try.prog 12 #[.agg (cfgCells c s)] w fun e w' => e = .returned (.int .i64 (3 * (c 3 + 1) * tripV c)) ∧ Below w.heap.size w w' :=
  (ride_any c s w).mono fun _ _ ⟨he, hb⟩ => ⟨by rw [he]; unfold rideV; rw [h]; rfl, hb⟩
theorem ride_no' {c : Nat → Int} (h : good c = false) (s : Int) (w : World) :
    Calls Try.prog 12 #[.agg (cfgCells c s)] w fun e w' => e = .returned (.int .i64 0) ∧ Below w.heap.size w w' := ride_no c s w h
theorem answer_no' {c : Nat → Int} (h : good c = false) (s : Int) (w : World) :
    Calls Try.prog 13 #[.agg (cfgCells c s)] w fun e w' => e = .returned (.int .i64 0) ∧ Below w.heap.size w w' :=
  (answer_no h s w).mono fun _ _ ⟨he, hb⟩ => ⟨by rw [he]; unfold answerV; rw [h]; rfl, hb⟩
theorem answer_ok' {c : Nat → Int} (h : good c = true) (s : Int) (w : World) :
    Calls Try.prog 13 #[.agg (cfgCells c s)] w fun e w' => e = .returned (.int .i64 ((c 10 + 1) * (2 * c 13 + 12) + c 11)) ∧ Below w.heap.size w w' :=
  (answer_ok h s w).mono fun _ _ ⟨he, hb⟩ => ⟨by rw [he]; unfold answerV; rw [h]; rfl, hb⟩
theorem floor_no {c : Nat → Int} (h : good c = false) (s n : Int) (w : World) :
    Calls Try.prog 14 #[.agg (cfgCells c s), .int .i64 n] w fun e w' => e = .returned (.bool false) ∧ Below w.heap.size w w' :=
  (floor_any c s n w).mono fun _ _ ⟨he, hb⟩ => ⟨by rw [he]; unfold floorV; rw [h]; rfl, hb⟩
theorem car_no {c : Nat → Int} (h : good c = false) (s n : Int) (w : World) :
    Calls Try.prog 15 #[.agg (cfgCells c s), .int .i64 n] w fun e w' => e = .returned (.bool false) ∧ Below w.heap.size w w' :=
  (car_any c s n w).mono fun _ _ ⟨he, hb⟩ => ⟨by rw [he]; unfold carV; rw [h]; rfl, hb⟩
theorem rgood_is {c : Nat → Int} {b : Bool} (h : good c = b) (s : Int) (w : World) :
    Calls Try.prog 8 #[.agg (cfgCells c s)] w fun e w' => e = .returned (.bool b) ∧ Below w.heap.size w w' := h ▸ rgood_any c s w

set_option maxRecDepth 100000 in
set_option maxHeartbeats 4000000 in
theorem exact_no (c : Nat → Int) (s n : Int) (w : World) (hg : good c = false) :
    Calls Try.prog 3 #[.agg (cfgCells c s), .int .i64 n] w fun e w' => e = .returned (.bool true) ∧ Below w.heap.size w w' := by
  have H := Lib.hid hg
  clear hg
  have hS := SC.start c s w
  have HL := @SC.load c s w
  go_enter Try.func3, Try.ntmps3
  go_wp2_with (first
    | (go_at_call 7; refine (awake7 _).mono ?_; rintro e w9 ⟨rfl, hB⟩; replace hS := SC.step hB hS; clear hB)
    | (go_at_call 8; refine (rgood_is H.out _ _).mono ?_; rintro e w9 ⟨rfl, hB⟩; replace hS := SC.step hB hS; clear hB))
  have hS0 := hS.draw
  go_region_held3 (SC c s w) (assumption) (first
    | (go_at_call 9; refine (check_no H.out _ _).mono ?_; rintro e w9 ⟨rfl, hB⟩; have hS9 := SC.step hB (by assumption))
    | (go_at_call 10; refine (trip_any _ _ _).mono ?_; rintro e w9 ⟨rfl, hB⟩; have hS9 := SC.step hB (by assumption))
    | (go_at_call 11; refine (rtrip_any _ _ _).mono ?_; rintro e w9 ⟨rfl, hB⟩; have hS9 := SC.step hB (by assumption)))
  go_wp2_with (first | (go_at_call 12; refine (ride_no' H.out _ _).mono ?_; rintro e w9 ⟨rfl, hB⟩; have hS9 := SC.step hB (by assumption)) | (go_at_call 13; refine (answer_no' H.out _ _).mono ?_; rintro e w9 ⟨rfl, hB⟩; have hS9 := SC.step hB (by assumption)) | (go_at_call 14; refine (floor_no H.out _ _ _).mono ?_; rintro e w9 ⟨rfl, hB⟩; have hS9 := SC.step hB (by assumption)) | (go_at_call 15; refine (car_no H.out _ _ _).mono ?_; rintro e w9 ⟨rfl, hB⟩; have hS9 := SC.step hB (by assumption)))
  go_ret
  exact ⟨rfl, (by assumption : SC c s w _).2⟩

theorem floor_in {c : Nat → Int} (h : good c = true) (s : Int) {n : Int} (hn : 1 ≤ n) (w : World) :
    Calls Try.prog 14 #[.agg (cfgCells c s), .int .i64 n] w fun e w' => e = .returned (.bool (decide (n ≤ c 0))) ∧ Below w.heap.size w w' :=
  (floor_any c s n w).mono fun _ _ ⟨he, hb⟩ => ⟨by rw [he]; unfold floorV; rw [h, decide_eq_true hn]; rfl, hb⟩
theorem car_in {c : Nat → Int} (h : good c = true) (s : Int) {n : Int} (hn : 1 ≤ n) (w : World) :
    Calls Try.prog 15 #[.agg (cfgCells c s), .int .i64 n] w fun e w' => e = .returned (.bool (decide (n ≤ c 1))) ∧ Below w.heap.size w w' :=
  (car_any c s n w).mono fun _ _ ⟨he, hb⟩ => ⟨by rw [he]; unfold carV; rw [h, decide_eq_true hn]; rfl, hb⟩
theorem floor_out (c : Nat → Int) (s : Int) {n : Int} (hn : n < 1) (w : World) :
    Calls Try.prog 14 #[.agg (cfgCells c s), .int .i64 n] w fun e w' => e = .returned (.bool false) ∧ Below w.heap.size w w' :=
  (floor_any c s n w).mono fun _ _ ⟨he, hb⟩ => ⟨by rw [he]; unfold floorV; rw [decide_eq_false (by omega)]; simp, hb⟩
theorem car_out (c : Nat → Int) (s : Int) {n : Int} (hn : n < 1) (w : World) :
    Calls Try.prog 15 #[.agg (cfgCells c s), .int .i64 n] w fun e w' => e = .returned (.bool false) ∧ Below w.heap.size w w' :=
  (car_any c s n w).mono fun _ _ ⟨he, hb⟩ => ⟨by rw [he]; unfold carV; rw [decide_eq_false (by omega)]; simp, hb⟩

set_option maxRecDepth 100000 in
set_option maxHeartbeats 4000000 in
theorem exact_in (c : Nat → Int) (s n : Int) (w : World) (hg : good c = true) (hn : 1 ≤ n) :
    Calls Try.prog 3 #[.agg (cfgCells c s), .int .i64 n] w fun e w' => e = .returned (.bool true) ∧ Below w.heap.size w w' := by
  have h3 : 1 ≤ c 3 ∧ c 3 ≤ 64 := good_at hg 3 (by omega)
  have h10 : 1 ≤ c 10 ∧ c 10 ≤ 16 := good_at hg 10 (by omega)
  have h13 : 0 ≤ c 13 ∧ c 13 ≤ 8 := good_at hg 13 (by omega)
  have h11 : 1 ≤ c 11 ∧ c 11 ≤ 16 := good_at hg 11 (by omega)
  have ha := answer_bd hg
  have hb := trip_bd c
  have hm : 0 ≤ 3 * (c 3 + 1) * tripV c ∧ 3 * (c 3 + 1) * tripV c ≤ 137280 := mul_bd (a := 3 * (c 3 + 1)) (b := tripV c) (A := 195) (B := 704) (by omega) (by omega) hb.1 hb.2
  have e1 : IntKind.i64.wrap (c 3 + 1) = c 3 + 1 := IntWalk.i64_in _ (by omega)
  have e2 : IntKind.i64.wrap (3 * (c 3 + 1)) = 3 * (c 3 + 1) := IntWalk.i64_in _ (by omega)
  have e3 : IntKind.i64.wrap (3 * (c 3 + 1) * tripV c) = 3 * (c 3 + 1) * tripV c := IntWalk.i64_in _ (by omega)
  have e4 : IntKind.i64.wrap (c 10 + 1) = c 10 + 1 := IntWalk.i64_in _ (by omega)
  have e5 : IntKind.i64.wrap (2 * c 13) = 2 * c 13 := IntWalk.i64_in _ (by omega)
  have e6 : IntKind.i64.wrap (2 * c 13 + 12) = 2 * c 13 + 12 := IntWalk.i64_in _ (by omega)
  have e7 : IntKind.i64.wrap ((c 10 + 1) * (2 * c 13 + 12)) = (c 10 + 1) * (2 * c 13 + 12) := IntWalk.i64_in _ (by omega)
  have e8 : IntKind.i64.wrap ((c 10 + 1) * (2 * c 13 + 12) + c 11) = (c 10 + 1) * (2 * c 13 + 12) + c 11 := IntWalk.i64_in _ (by omega)
  have dn : decide (0 < n) = true := by simp; omega
  have H := Lib.hid hg
  have HN := Lib.hid hn
  clear hg hn h3 h10 h13 h11 ha hb hm
  have hS := SC.start c s w
  have HL := @SC.load c s w
  have Q0 := @SC.cell c s w 0 (by omega)
  have Q1 := @SC.cell c s w 1 (by omega)
  have Q3 := @SC.cell c s w 3 (by omega)
  have Q10 := @SC.cell c s w 10 (by omega)
  have Q11 := @SC.cell c s w 11 (by omega)
  have Q13 := @SC.cell c s w 13 (by omega)
  go_enter Try.func3, Try.ntmps3
  go_wp2_with (first
    | (go_at_call 7; refine (awake7 _).mono ?_; rintro e w9 ⟨rfl, hB⟩; replace hS := SC.step hB hS; clear hB)
    | (go_at_call 8; refine (rgood_is H.out _ _).mono ?_; rintro e w9 ⟨rfl, hB⟩; replace hS := SC.step hB hS; clear hB))
  have hS0 := hS.draw
  refine wp_region_held_drew (S := SC c s w) (by kernel_rfl) hS0 (fun hHeld => ?_)
  refine wpAnyH_take (i := 0) (oi := { dst := some 10, op := Op.load 24 (Operand.tmp 2), type := 24, pos := "law.go:24", after := #[], guard := none }) (v := ?_) rfl (by kernel_rfl) (by kernel_rfl) (by kernel_rfl) (fun _ _ _ h => h) (Or.inl ⟨by rfl, ?_⟩) (by assumption) ?_
  rotate_left
  · (intro W hSw; go_simp; first | done | with_reducible rfl)
  try simp only [Act.put, List.setIfInBounds_toArray, List.set_cons_zero, List.set_cons_succ]
  refine wpAnyH_take (i := 3) (oi := { dst := some 13, op := Op.move (Operand.tmp 5), type := 4, pos := "law.go:24", after := #[], guard := none }) (v := ?_) rfl (by kernel_rfl) (by kernel_rfl) (by kernel_rfl) (fun _ _ _ h => h) (Or.inl ⟨by rfl, ?_⟩) (by assumption) ?_
  rotate_left
  · (intro W hSw; go_simp; first | done | with_reducible rfl)
  try simp only [Act.put, List.setIfInBounds_toArray, List.set_cons_zero, List.set_cons_succ]
  refine wpAnyH_ready (rs := [1]) (by kernel_rfl) (by simp) ?_
  refine AllReadyH.cons (o := { dst := some 11, op := Op.call { callee := Callee.value (Operand.func 9), args := #[Operand.tmp 10], argTypes := #[24] }, type := 27, pos := "law.go:24", after := #[{ on := 0, ground := Ground.data }], guard := none }) rfl (fun K hK => ?_) AllReadyH.nil
  go_simp
  refine (check_ok H.out _ _).mono ?_; rintro e w9 ⟨rfl, hB⟩; have hS9 := SC.step hB (by assumption)
  refine hK.out _ _ (by assumption) (fun hHeld => ?_)
  clear hK K
  try simp only [Act.put, List.setIfInBounds_toArray, List.set_cons_zero, List.set_cons_succ]
  refine wpAnyH_take (i := 2) (oi := { dst := some 12, op := Op.binOp BinOp.eql 27 (Operand.tmp 11) (Operand.const (Value.int IntKind.i64 0)) 27, type := 4, pos := "law.go:24", after := #[{ on := 1, ground := Ground.data }], guard := none }) (v := ?_) rfl (by kernel_rfl) (by kernel_rfl) (by kernel_rfl) (fun _ _ _ h => h) (Or.inl ⟨by rfl, ?_⟩) (by assumption) ?_
  rotate_left
  · (intro W hSw; go_simp; first | done | with_reducible rfl)
  try simp only [Act.put, List.setIfInBounds_toArray, List.set_cons_zero, List.set_cons_succ]
  refine wpAnyH_take (i := 4) (oi := { dst := some 14, op := Op.binOp BinOp.neq 4 (Operand.tmp 12) (Operand.tmp 13) 4, type := 4, pos := "law.go:24", after := #[{ on := 2, ground := Ground.data }, { on := 3, ground := Ground.data }], guard := none }) (v := ?_) rfl (by kernel_rfl) (by kernel_rfl) (by kernel_rfl) (fun _ _ _ h => h) (Or.inl ⟨by rfl, ?_⟩) (by assumption) ?_
  rotate_left
  · (intro W hSw; go_simp; first | done | with_reducible rfl)
  try simp only [Act.put, List.setIfInBounds_toArray, List.set_cons_zero, List.set_cons_succ]
  refine wpAnyH_take (i := 5) (oi := { dst := some 15, op := Op.move (Operand.tmp 14), type := 4, pos := "law.go:24", after := #[{ on := 4, ground := Ground.data }, { on := 1, ground := Ground.chain }], guard := none }) (v := ?_) rfl (by kernel_rfl) (by kernel_rfl) (by kernel_rfl) (fun _ _ _ h => h) (Or.inl ⟨by rfl, ?_⟩) (by assumption) ?_
  rotate_left
  · (intro W hSw; go_simp; first | done | with_reducible rfl)
  try simp only [Act.put, List.setIfInBounds_toArray, List.set_cons_zero, List.set_cons_succ]
  refine wpAnyH_take (i := 6) (oi := { dst := some 16, op := Op.move (Operand.tmp 5), type := 4, pos := "law.go:24", after := #[{ on := 5, ground := Ground.guard }], guard := some (5, false) }) (v := ?_) rfl (by kernel_rfl) (by kernel_rfl) (by kernel_rfl) (fun _ _ _ h => h) (Or.inl ⟨by rfl, ?_⟩) (by assumption) ?_
  rotate_left
  · (intro W hSw; go_simp; first | done | with_reducible rfl)
  try simp only [Act.put, List.setIfInBounds_toArray, List.set_cons_zero, List.set_cons_succ]
  refine wpAnyH_take (i := 7) (oi := { dst := some 17, op := Op.unOp UnOp.not 4 (Operand.tmp 16), type := 4, pos := "law.go:24", after := #[{ on := 6, ground := Ground.data }, { on := 5, ground := Ground.guard }], guard := some (5, false) }) (v := ?_) rfl (by kernel_rfl) (by kernel_rfl) (by kernel_rfl) (fun _ _ _ h => h) (Or.inl ⟨by rfl, ?_⟩) (by assumption) ?_
  rotate_left
  · (intro W hSw; go_simp; first | done | with_reducible rfl)
  try simp only [Act.put, List.setIfInBounds_toArray, List.set_cons_zero, List.set_cons_succ]
  refine wpAnyH_take (i := 8) (oi := { dst := some 18, op := Op.move (Operand.tmp 17), type := 4, pos := "law.go:24", after := #[{ on := 7, ground := Ground.data }, { on := 5, ground := Ground.chain }, { on := 5, ground := Ground.guard }], guard := some (5, false) }) (v := ?_) rfl (by kernel_rfl) (by kernel_rfl) (by kernel_rfl) (fun _ _ _ h => h) (Or.inl ⟨by rfl, ?_⟩) (by assumption) ?_
  rotate_left
  · (intro W hSw; go_simp; first | done | with_reducible rfl)
  try simp only [Act.put, List.setIfInBounds_toArray, List.set_cons_zero, List.set_cons_succ]
  refine wpAnyH_take (i := 9) (oi := { dst := some 19, op := Op.load 24 (Operand.tmp 2), type := 24, pos := "law.go:24", after := #[{ on := 8, ground := Ground.guard }], guard := some (8, true) }) (v := undef) rfl (by kernel_rfl) (by kernel_rfl) (by kernel_rfl) (fun _ _ _ h => h) (Or.inr ⟨by rfl, rfl⟩) (by assumption) ?_
  try simp only [Act.put, List.setIfInBounds_toArray, List.set_cons_zero, List.set_cons_succ]
  refine wpAnyH_take (i := 10) (oi := { dst := some 20, op := Op.call { callee := Callee.value (Operand.func 9), args := #[Operand.tmp 19], argTypes := #[24] }, type := 27, pos := "law.go:24", after := #[{ on := 9, ground := Ground.data }, { on := 8, ground := Ground.chain }, { on := 8, ground := Ground.guard }], guard := some (8, true) }) (v := undef) rfl (by kernel_rfl) (by kernel_rfl) (by kernel_rfl) (fun _ _ _ h => h) (Or.inr ⟨by rfl, rfl⟩) (by assumption) ?_
  try simp only [Act.put, List.setIfInBounds_toArray, List.set_cons_zero, List.set_cons_succ]
  refine wpAnyH_take (i := 11) (oi := { dst := some 21, op := Op.binOp BinOp.neq 27 (Operand.tmp 20) (Operand.const (Value.int IntKind.i64 3)) 27, type := 4, pos := "law.go:24", after := #[{ on := 10, ground := Ground.data }, { on := 8, ground := Ground.guard }], guard := some (8, true) }) (v := undef) rfl (by kernel_rfl) (by kernel_rfl) (by kernel_rfl) (fun _ _ _ h => h) (Or.inr ⟨by rfl, rfl⟩) (by assumption) ?_
  try simp only [Act.put, List.setIfInBounds_toArray, List.set_cons_zero, List.set_cons_succ]
  refine wpAnyH_take (i := 12) (oi := { dst := some 22, op := Op.pick (Operand.tmp 18) (Operand.tmp 21) (Operand.const (Value.bool false)), type := 4, pos := "law.go:24", after := #[{ on := 8, ground := Ground.data }, { on := 11, ground := Ground.data }, { on := 5, ground := Ground.guard }], guard := some (5, false) }) (v := ?_) rfl (by kernel_rfl) (by kernel_rfl) (by kernel_rfl) (fun _ _ _ h => h) (Or.inl ⟨by rfl, ?_⟩) (by assumption) ?_
  rotate_left
  · (intro W hSw; go_simp; first | done | with_reducible rfl)
  try simp only [Act.put, List.setIfInBounds_toArray, List.set_cons_zero, List.set_cons_succ]
  refine wpAnyH_take (i := 13) (oi := { dst := some 23, op := Op.pick (Operand.tmp 15) (Operand.const (Value.bool true)) (Operand.tmp 22), type := 4, pos := "law.go:24", after := #[{ on := 5, ground := Ground.data }, { on := 12, ground := Ground.data }], guard := none }) (v := ?_) rfl (by kernel_rfl) (by kernel_rfl) (by kernel_rfl) (fun _ _ _ h => h) (Or.inl ⟨by rfl, ?_⟩) (by assumption) ?_
  rotate_left
  · (intro W hSw; go_simp; first | done | with_reducible rfl)
  try simp only [Act.put, List.setIfInBounds_toArray, List.set_cons_zero, List.set_cons_succ]
  refine wpAnyH_take (i := 14) (oi := { dst := some 24, op := Op.move (Operand.tmp 23), type := 4, pos := "law.go:24", after := #[{ on := 13, ground := Ground.data }, { on := 10, ground := Ground.chain }], guard := none }) (v := ?_) rfl (by kernel_rfl) (by kernel_rfl) (by kernel_rfl) (fun _ _ _ h => h) (Or.inl ⟨by rfl, ?_⟩) (by assumption) ?_
  rotate_left
  · (intro W hSw; go_simp; first | done | with_reducible rfl)
  try simp only [Act.put, List.setIfInBounds_toArray, List.set_cons_zero, List.set_cons_succ]
  refine wpAnyH_take (i := 15) (oi := { dst := some 25, op := Op.load 24 (Operand.tmp 2), type := 24, pos := "law.go:24", after := #[{ on := 14, ground := Ground.guard }], guard := some (14, false) }) (v := ?_) rfl (by kernel_rfl) (by kernel_rfl) (by kernel_rfl) (fun _ _ _ h => h) (Or.inl ⟨by rfl, ?_⟩) (by assumption) ?_
  rotate_left
  · (intro W hSw; go_simp; first | done | with_reducible rfl)
  try simp only [Act.put, List.setIfInBounds_toArray, List.set_cons_zero, List.set_cons_succ]
  refine wpAnyH_take (i := 17) (oi := { dst := some 27, op := Op.load 24 (Operand.tmp 2), type := 24, pos := "law.go:24", after := #[{ on := 14, ground := Ground.guard }], guard := some (14, false) }) (v := ?_) rfl (by kernel_rfl) (by kernel_rfl) (by kernel_rfl) (fun _ _ _ h => h) (Or.inl ⟨by rfl, ?_⟩) (by assumption) ?_
  rotate_left
  · (intro W hSw; go_simp; first | done | with_reducible rfl)
  try simp only [Act.put, List.setIfInBounds_toArray, List.set_cons_zero, List.set_cons_succ]
  refine wpAnyH_ready (rs := [16]) (by kernel_rfl) (by simp) ?_
  refine AllReadyH.cons (o := { dst := some 26, op := Op.call { callee := Callee.value (Operand.func 10), args := #[Operand.tmp 25], argTypes := #[24] }, type := 3, pos := "law.go:24", after := #[{ on := 15, ground := Ground.data }, { on := 14, ground := Ground.chain }, { on := 14, ground := Ground.guard }], guard := some (14, false) }) rfl (fun K hK => ?_) AllReadyH.nil
  go_simp
  refine (trip_any _ _ _).mono ?_; rintro e w9 ⟨rfl, hB⟩; have hS9 := SC.step hB (by assumption)
  refine hK.out _ _ (by assumption) (fun hHeld => ?_)
  clear hK K
  try simp only [Act.put, List.setIfInBounds_toArray, List.set_cons_zero, List.set_cons_succ]
  refine wpAnyH_ready (rs := [18]) (by kernel_rfl) (by simp) ?_
  refine AllReadyH.cons (o := { dst := some 28, op := Op.call { callee := Callee.value (Operand.func 11), args := #[Operand.tmp 27], argTypes := #[24] }, type := 3, pos := "law.go:24", after := #[{ on := 17, ground := Ground.data }, { on := 16, ground := Ground.chain }, { on := 14, ground := Ground.guard }], guard := some (14, false) }) rfl (fun K hK => ?_) AllReadyH.nil
  go_simp
  refine (rtrip_any _ _ _).mono ?_; rintro e w9 ⟨rfl, hB⟩; have hS9 := SC.step hB (by assumption)
  refine hK.out _ _ (by assumption) (fun hHeld => ?_)
  clear hK K
  try simp only [Act.put, List.setIfInBounds_toArray, List.set_cons_zero, List.set_cons_succ]
  refine wpAnyH_take (i := 19) (oi := { dst := some 29, op := Op.binOp BinOp.neq 3 (Operand.tmp 26) (Operand.tmp 28) 3, type := 4, pos := "law.go:24", after := #[{ on := 16, ground := Ground.data }, { on := 18, ground := Ground.data }, { on := 14, ground := Ground.guard }], guard := some (14, false) }) (v := ?_) rfl (by kernel_rfl) (by kernel_rfl) (by kernel_rfl) (fun _ _ _ h => h) (Or.inl ⟨by rfl, ?_⟩) (by assumption) ?_
  rotate_left
  · (intro W hSw; go_simp; first | done | with_reducible rfl)
  try simp only [Act.put, List.setIfInBounds_toArray, List.set_cons_zero, List.set_cons_succ]
  refine wpAnyH_take (i := 20) (oi := { dst := some 30, op := Op.pick (Operand.tmp 24) (Operand.const (Value.bool true)) (Operand.tmp 29), type := 4, pos := "law.go:24", after := #[{ on := 14, ground := Ground.data }, { on := 19, ground := Ground.data }], guard := none }) (v := ?_) rfl (by kernel_rfl) (by kernel_rfl) (by kernel_rfl) (fun _ _ _ h => h) (Or.inl ⟨by rfl, ?_⟩) (by assumption) ?_
  rotate_left
  · (intro W hSw; go_simp; first | done | with_reducible rfl)
  try simp only [Act.put, List.setIfInBounds_toArray, List.set_cons_zero, List.set_cons_succ]
  refine wpAnyH_done (by kernel_rfl) ?_ _
  go_wp2_with fail
  have hS1 := SC.draw (by assumption : SC c s w _)
  refine wp_region_held_drew (S := SC c s w) (by kernel_rfl) hS1 (fun hHeld => ?_)
  refine wpAnyH_take (i := 0) (oi := { dst := some 53, op := Op.load 24 (Operand.tmp 2), type := 24, pos := "law.go:30", after := #[], guard := none }) (v := ?_) rfl (by kernel_rfl) (by kernel_rfl) (by kernel_rfl) (fun _ _ _ h => h) (Or.inl ⟨by rfl, ?_⟩) (by assumption) ?_
  rotate_left
  · (intro W hSw; go_simp; first | done | with_reducible rfl)
  try simp only [Act.put, List.setIfInBounds_toArray, List.set_cons_zero, List.set_cons_succ]
  refine wpAnyH_take (i := 2) (oi := { dst := some 55, op := Op.fieldAddr 24 (Operand.tmp 2) 3, type := 0, pos := "law.go:30", after := #[], guard := none }) (v := ?_) rfl (by kernel_rfl) (by kernel_rfl) (by kernel_rfl) (fun _ _ _ h => h) (Or.inl ⟨by rfl, ?_⟩) (by assumption) ?_
  rotate_left
  · (intro W hSw; go_simp; first | done | with_reducible rfl)
  try simp only [Act.put, List.setIfInBounds_toArray, List.set_cons_zero, List.set_cons_succ]
  refine wpAnyH_take (i := 3) (oi := { dst := some 56, op := Op.load 3 (Operand.tmp 55), type := 3, pos := "law.go:30", after := #[{ on := 2, ground := Ground.data }], guard := none }) (v := ?_) rfl (by kernel_rfl) (by kernel_rfl) (by kernel_rfl) (fun _ _ _ h => h) (Or.inl ⟨by rfl, ?_⟩) (by assumption) ?_
  rotate_left
  · (intro W hSw; go_simp; first | done | with_reducible rfl)
  try simp only [Act.put, List.setIfInBounds_toArray, List.set_cons_zero, List.set_cons_succ]
  refine wpAnyH_take (i := 4) (oi := { dst := some 57, op := Op.binOp BinOp.add 3 (Operand.tmp 56) (Operand.const (Value.int IntKind.i64 1)) 3, type := 3, pos := "law.go:30", after := #[{ on := 3, ground := Ground.data }], guard := none }) (v := ?_) rfl (by kernel_rfl) (by kernel_rfl) (by kernel_rfl) (fun _ _ _ h => h) (Or.inl ⟨by rfl, ?_⟩) (by assumption) ?_
  rotate_left
  · (intro W hSw; go_simp; first | done | with_reducible rfl)
  try simp only [Act.put, List.setIfInBounds_toArray, List.set_cons_zero, List.set_cons_succ]
  refine wpAnyH_take (i := 5) (oi := { dst := some 58, op := Op.binOp BinOp.mul 3 (Operand.const (Value.int IntKind.i64 3)) (Operand.tmp 57) 3, type := 3, pos := "law.go:30", after := #[{ on := 4, ground := Ground.data }], guard := none }) (v := ?_) rfl (by kernel_rfl) (by kernel_rfl) (by kernel_rfl) (fun _ _ _ h => h) (Or.inl ⟨by rfl, ?_⟩) (by assumption) ?_
  rotate_left
  · (intro W hSw; go_simp; first | done | with_reducible rfl)
  try simp only [Act.put, List.setIfInBounds_toArray, List.set_cons_zero, List.set_cons_succ]
  refine wpAnyH_take (i := 6) (oi := { dst := some 59, op := Op.load 24 (Operand.tmp 2), type := 24, pos := "law.go:30", after := #[], guard := none }) (v := ?_) rfl (by kernel_rfl) (by kernel_rfl) (by kernel_rfl) (fun _ _ _ h => h) (Or.inl ⟨by rfl, ?_⟩) (by assumption) ?_
  rotate_left
  · (intro W hSw; go_simp; first | done | with_reducible rfl)
  try simp only [Act.put, List.setIfInBounds_toArray, List.set_cons_zero, List.set_cons_succ]
  refine wpAnyH_ready (rs := [1]) (by kernel_rfl) (by simp) ?_
  refine AllReadyH.cons (o := { dst := some 54, op := Op.call { callee := Callee.value (Operand.func 12), args := #[Operand.tmp 53], argTypes := #[24] }, type := 3, pos := "law.go:30", after := #[{ on := 0, ground := Ground.data }], guard := none }) rfl (fun K hK => ?_) AllReadyH.nil
  go_simp
  refine (ride_ok' H.out _ _).mono ?_; rintro e w9 ⟨rfl, hB⟩; have hS9 := SC.step hB (by assumption)
  refine hK.out _ _ (by assumption) (fun hHeld => ?_)
  clear hK K
  try simp only [Act.put, List.setIfInBounds_toArray, List.set_cons_zero, List.set_cons_succ]
  refine wpAnyH_ready (rs := [7]) (by kernel_rfl) (by simp) ?_
  refine AllReadyH.cons (o := { dst := some 60, op := Op.call { callee := Callee.value (Operand.func 11), args := #[Operand.tmp 59], argTypes := #[24] }, type := 3, pos := "law.go:30", after := #[{ on := 6, ground := Ground.data }, { on := 1, ground := Ground.chain }], guard := none }) rfl (fun K hK => ?_) AllReadyH.nil
  go_simp
  refine (rtrip_any _ _ _).mono ?_; rintro e w9 ⟨rfl, hB⟩; have hS9 := SC.step hB (by assumption)
  refine hK.out _ _ (by assumption) (fun hHeld => ?_)
  clear hK K
  try simp only [Act.put, List.setIfInBounds_toArray, List.set_cons_zero, List.set_cons_succ]
  refine wpAnyH_take (i := 8) (oi := { dst := some 61, op := Op.binOp BinOp.mul 3 (Operand.tmp 58) (Operand.tmp 60) 3, type := 3, pos := "law.go:30", after := #[{ on := 5, ground := Ground.data }, { on := 7, ground := Ground.data }], guard := none }) (v := ?_) rfl (by kernel_rfl) (by kernel_rfl) (by kernel_rfl) (fun _ _ _ h => h) (Or.inl ⟨by rfl, ?_⟩) (by assumption) ?_
  rotate_left
  · (intro W hSw; go_simp; first | done | with_reducible rfl)
  try simp only [Act.put, List.setIfInBounds_toArray, List.set_cons_zero, List.set_cons_succ]
  refine wpAnyH_take (i := 9) (oi := { dst := some 62, op := Op.binOp BinOp.eql 3 (Operand.tmp 54) (Operand.tmp 61) 3, type := 4, pos := "law.go:30", after := #[{ on := 1, ground := Ground.data }, { on := 8, ground := Ground.data }], guard := none }) (v := ?_) rfl (by kernel_rfl) (by kernel_rfl) (by kernel_rfl) (fun _ _ _ h => h) (Or.inl ⟨by rfl, ?_⟩) (by assumption) ?_
  rotate_left
  · (intro W hSw; go_simp; first | done | with_reducible rfl)
  try simp only [Act.put, List.setIfInBounds_toArray, List.set_cons_zero, List.set_cons_succ]
  refine wpAnyH_take (i := 10) (oi := { dst := some 63, op := Op.move (Operand.tmp 62), type := 4, pos := "law.go:30", after := #[{ on := 9, ground := Ground.data }, { on := 7, ground := Ground.chain }], guard := none }) (v := ?_) rfl (by kernel_rfl) (by kernel_rfl) (by kernel_rfl) (fun _ _ _ h => h) (Or.inl ⟨by rfl, ?_⟩) (by assumption) ?_
  rotate_left
  · (intro W hSw; go_simp; first | done | with_reducible rfl)
  try simp only [Act.put, List.setIfInBounds_toArray, List.set_cons_zero, List.set_cons_succ]
  refine wpAnyH_take (i := 11) (oi := { dst := some 64, op := Op.load 24 (Operand.tmp 2), type := 24, pos := "law.go:30", after := #[{ on := 10, ground := Ground.guard }], guard := some (10, true) }) (v := ?_) rfl (by kernel_rfl) (by kernel_rfl) (by kernel_rfl) (fun _ _ _ h => h) (Or.inl ⟨by rfl, ?_⟩) (by assumption) ?_
  rotate_left
  · (intro W hSw; go_simp; first | done | with_reducible rfl)
  try simp only [Act.put, List.setIfInBounds_toArray, List.set_cons_zero, List.set_cons_succ]
  refine wpAnyH_take (i := 13) (oi := { dst := some 66, op := Op.fieldAddr 24 (Operand.tmp 2) 10, type := 0, pos := "law.go:30", after := #[{ on := 10, ground := Ground.guard }], guard := some (10, true) }) (v := ?_) rfl (by kernel_rfl) (by kernel_rfl) (by kernel_rfl) (fun _ _ _ h => h) (Or.inl ⟨by rfl, ?_⟩) (by assumption) ?_
  rotate_left
  · (intro W hSw; go_simp; first | done | with_reducible rfl)
  try simp only [Act.put, List.setIfInBounds_toArray, List.set_cons_zero, List.set_cons_succ]
  refine wpAnyH_take (i := 14) (oi := { dst := some 67, op := Op.load 3 (Operand.tmp 66), type := 3, pos := "law.go:30", after := #[{ on := 13, ground := Ground.data }, { on := 10, ground := Ground.guard }], guard := some (10, true) }) (v := ?_) rfl (by kernel_rfl) (by kernel_rfl) (by kernel_rfl) (fun _ _ _ h => h) (Or.inl ⟨by rfl, ?_⟩) (by assumption) ?_
  rotate_left
  · (intro W hSw; go_simp; first | done | with_reducible rfl)
  try simp only [Act.put, List.setIfInBounds_toArray, List.set_cons_zero, List.set_cons_succ]
  refine wpAnyH_take (i := 15) (oi := { dst := some 68, op := Op.binOp BinOp.add 3 (Operand.tmp 67) (Operand.const (Value.int IntKind.i64 1)) 3, type := 3, pos := "law.go:30", after := #[{ on := 14, ground := Ground.data }, { on := 10, ground := Ground.guard }], guard := some (10, true) }) (v := ?_) rfl (by kernel_rfl) (by kernel_rfl) (by kernel_rfl) (fun _ _ _ h => h) (Or.inl ⟨by rfl, ?_⟩) (by assumption) ?_
  rotate_left
  · (intro W hSw; go_simp; first | done | with_reducible rfl)
  try simp only [Act.put, List.setIfInBounds_toArray, List.set_cons_zero, List.set_cons_succ]
  refine wpAnyH_take (i := 16) (oi := { dst := some 69, op := Op.fieldAddr 24 (Operand.tmp 2) 13, type := 0, pos := "law.go:30", after := #[{ on := 10, ground := Ground.guard }], guard := some (10, true) }) (v := ?_) rfl (by kernel_rfl) (by kernel_rfl) (by kernel_rfl) (fun _ _ _ h => h) (Or.inl ⟨by rfl, ?_⟩) (by assumption) ?_
  rotate_left
  · (intro W hSw; go_simp; first | done | with_reducible rfl)
  try simp only [Act.put, List.setIfInBounds_toArray, List.set_cons_zero, List.set_cons_succ]
  refine wpAnyH_take (i := 17) (oi := { dst := some 70, op := Op.load 3 (Operand.tmp 69), type := 3, pos := "law.go:30", after := #[{ on := 16, ground := Ground.data }, { on := 10, ground := Ground.guard }], guard := some (10, true) }) (v := ?_) rfl (by kernel_rfl) (by kernel_rfl) (by kernel_rfl) (fun _ _ _ h => h) (Or.inl ⟨by rfl, ?_⟩) (by assumption) ?_
  rotate_left
  · (intro W hSw; go_simp; first | done | with_reducible rfl)
  try simp only [Act.put, List.setIfInBounds_toArray, List.set_cons_zero, List.set_cons_succ]
  refine wpAnyH_take (i := 18) (oi := { dst := some 71, op := Op.binOp BinOp.mul 3 (Operand.const (Value.int IntKind.i64 2)) (Operand.tmp 70) 3, type := 3, pos := "law.go:30", after := #[{ on := 17, ground := Ground.data }, { on := 10, ground := Ground.guard }], guard := some (10, true) }) (v := ?_) rfl (by kernel_rfl) (by kernel_rfl) (by kernel_rfl) (fun _ _ _ h => h) (Or.inl ⟨by rfl, ?_⟩) (by assumption) ?_
  rotate_left
  · (intro W hSw; go_simp; first | done | with_reducible rfl)
  try simp only [Act.put, List.setIfInBounds_toArray, List.set_cons_zero, List.set_cons_succ]
  refine wpAnyH_take (i := 19) (oi := { dst := some 72, op := Op.binOp BinOp.add 3 (Operand.tmp 71) (Operand.const (Value.int IntKind.i64 12)) 3, type := 3, pos := "law.go:30", after := #[{ on := 18, ground := Ground.data }, { on := 10, ground := Ground.guard }], guard := some (10, true) }) (v := ?_) rfl (by kernel_rfl) (by kernel_rfl) (by kernel_rfl) (fun _ _ _ h => h) (Or.inl ⟨by rfl, ?_⟩) (by assumption) ?_
  rotate_left
  · (intro W hSw; go_simp; first | done | with_reducible rfl)
  try simp only [Act.put, List.setIfInBounds_toArray, List.set_cons_zero, List.set_cons_succ]
  refine wpAnyH_take (i := 20) (oi := { dst := some 73, op := Op.binOp BinOp.mul 3 (Operand.tmp 68) (Operand.tmp 72) 3, type := 3, pos := "law.go:30", after := #[{ on := 15, ground := Ground.data }, { on := 19, ground := Ground.data }, { on := 10, ground := Ground.guard }], guard := some (10, true) }) (v := ?_) rfl (by kernel_rfl) (by kernel_rfl) (by kernel_rfl) (fun _ _ _ h => h) (Or.inl ⟨by rfl, ?_⟩) (by assumption) ?_
  rotate_left
  · (intro W hSw; go_simp; first | done | with_reducible rfl)
  try simp only [Act.put, List.setIfInBounds_toArray, List.set_cons_zero, List.set_cons_succ]
  refine wpAnyH_take (i := 21) (oi := { dst := some 74, op := Op.fieldAddr 24 (Operand.tmp 2) 11, type := 0, pos := "law.go:30", after := #[{ on := 10, ground := Ground.guard }], guard := some (10, true) }) (v := ?_) rfl (by kernel_rfl) (by kernel_rfl) (by kernel_rfl) (fun _ _ _ h => h) (Or.inl ⟨by rfl, ?_⟩) (by assumption) ?_
  rotate_left
  · (intro W hSw; go_simp; first | done | with_reducible rfl)
  try simp only [Act.put, List.setIfInBounds_toArray, List.set_cons_zero, List.set_cons_succ]
  refine wpAnyH_take (i := 22) (oi := { dst := some 75, op := Op.load 3 (Operand.tmp 74), type := 3, pos := "law.go:30", after := #[{ on := 21, ground := Ground.data }, { on := 10, ground := Ground.guard }], guard := some (10, true) }) (v := ?_) rfl (by kernel_rfl) (by kernel_rfl) (by kernel_rfl) (fun _ _ _ h => h) (Or.inl ⟨by rfl, ?_⟩) (by assumption) ?_
  rotate_left
  · (intro W hSw; go_simp; first | done | with_reducible rfl)
  try simp only [Act.put, List.setIfInBounds_toArray, List.set_cons_zero, List.set_cons_succ]
  refine wpAnyH_take (i := 23) (oi := { dst := some 76, op := Op.binOp BinOp.add 3 (Operand.tmp 73) (Operand.tmp 75) 3, type := 3, pos := "law.go:30", after := #[{ on := 20, ground := Ground.data }, { on := 22, ground := Ground.data }, { on := 10, ground := Ground.guard }], guard := some (10, true) }) (v := ?_) rfl (by kernel_rfl) (by kernel_rfl) (by kernel_rfl) (fun _ _ _ h => h) (Or.inl ⟨by rfl, ?_⟩) (by assumption) ?_
  rotate_left
  · (intro W hSw; go_simp; first | done | with_reducible rfl)
  try simp only [Act.put, List.setIfInBounds_toArray, List.set_cons_zero, List.set_cons_succ]
  refine wpAnyH_ready (rs := [12]) (by kernel_rfl) (by simp) ?_
  refine AllReadyH.cons (o := { dst := some 65, op := Op.call { callee := Callee.value (Operand.func 13), args := #[Operand.tmp 64], argTypes := #[24] }, type := 3, pos := "law.go:30", after := #[{ on := 11, ground := Ground.data }, { on := 10, ground := Ground.chain }, { on := 10, ground := Ground.guard }], guard := some (10, true) }) rfl (fun K hK => ?_) AllReadyH.nil
  go_simp
  refine (answer_ok' H.out _ _).mono ?_; rintro e w9 ⟨rfl, hB⟩; have hS9 := SC.step hB (by assumption)
  refine hK.out _ _ (by assumption) (fun hHeld => ?_)
  clear hK K
  try simp only [Act.put, List.setIfInBounds_toArray, List.set_cons_zero, List.set_cons_succ]
  refine wpAnyH_take (i := 24) (oi := { dst := some 77, op := Op.binOp BinOp.eql 3 (Operand.tmp 65) (Operand.tmp 76) 3, type := 4, pos := "law.go:30", after := #[{ on := 12, ground := Ground.data }, { on := 23, ground := Ground.data }, { on := 10, ground := Ground.guard }], guard := some (10, true) }) (v := ?_) rfl (by kernel_rfl) (by kernel_rfl) (by kernel_rfl) (fun _ _ _ h => h) (Or.inl ⟨by rfl, ?_⟩) (by assumption) ?_
  rotate_left
  · (intro W hSw; go_simp; first | done | with_reducible rfl)
  try simp only [Act.put, List.setIfInBounds_toArray, List.set_cons_zero, List.set_cons_succ]
  refine wpAnyH_take (i := 25) (oi := { dst := some 78, op := Op.pick (Operand.tmp 63) (Operand.tmp 77) (Operand.const (Value.bool false)), type := 4, pos := "law.go:30", after := #[{ on := 10, ground := Ground.data }, { on := 24, ground := Ground.data }], guard := none }) (v := ?_) rfl (by kernel_rfl) (by kernel_rfl) (by kernel_rfl) (fun _ _ _ h => h) (Or.inl ⟨by rfl, ?_⟩) (by assumption) ?_
  rotate_left
  · (intro W hSw; go_simp; first | done | with_reducible rfl)
  try simp only [Act.put, List.setIfInBounds_toArray, List.set_cons_zero, List.set_cons_succ]
  refine wpAnyH_take (i := 26) (oi := { dst := some 79, op := Op.move (Operand.tmp 78), type := 4, pos := "law.go:30", after := #[{ on := 25, ground := Ground.data }, { on := 12, ground := Ground.chain }], guard := none }) (v := ?_) rfl (by kernel_rfl) (by kernel_rfl) (by kernel_rfl) (fun _ _ _ h => h) (Or.inl ⟨by rfl, ?_⟩) (by assumption) ?_
  rotate_left
  · (intro W hSw; go_simp; first | done | with_reducible rfl)
  try simp only [Act.put, List.setIfInBounds_toArray, List.set_cons_zero, List.set_cons_succ]
  refine wpAnyH_take (i := 27) (oi := { dst := some 80, op := Op.load 24 (Operand.tmp 2), type := 24, pos := "law.go:30", after := #[{ on := 26, ground := Ground.guard }], guard := some (26, true) }) (v := ?_) rfl (by kernel_rfl) (by kernel_rfl) (by kernel_rfl) (fun _ _ _ h => h) (Or.inl ⟨by rfl, ?_⟩) (by assumption) ?_
  rotate_left
  · (intro W hSw; go_simp; first | done | with_reducible rfl)
  try simp only [Act.put, List.setIfInBounds_toArray, List.set_cons_zero, List.set_cons_succ]
  refine wpAnyH_take (i := 28) (oi := { dst := some 81, op := Op.move (Operand.tmp 1), type := 3, pos := "law.go:30", after := #[{ on := 26, ground := Ground.guard }], guard := some (26, true) }) (v := ?_) rfl (by kernel_rfl) (by kernel_rfl) (by kernel_rfl) (fun _ _ _ h => h) (Or.inl ⟨by rfl, ?_⟩) (by assumption) ?_
  rotate_left
  · (intro W hSw; go_simp; first | done | with_reducible rfl)
  try simp only [Act.put, List.setIfInBounds_toArray, List.set_cons_zero, List.set_cons_succ]
  refine wpAnyH_take (i := 30) (oi := { dst := some 83, op := Op.move (Operand.tmp 1), type := 3, pos := "law.go:30", after := #[{ on := 26, ground := Ground.guard }], guard := some (26, true) }) (v := ?_) rfl (by kernel_rfl) (by kernel_rfl) (by kernel_rfl) (fun _ _ _ h => h) (Or.inl ⟨by rfl, ?_⟩) (by assumption) ?_
  rotate_left
  · (intro W hSw; go_simp; first | done | with_reducible rfl)
  try simp only [Act.put, List.setIfInBounds_toArray, List.set_cons_zero, List.set_cons_succ]
  refine wpAnyH_take (i := 31) (oi := { dst := some 84, op := Op.binOp BinOp.gtr 3 (Operand.tmp 83) (Operand.const (Value.int IntKind.i64 0)) 3, type := 4, pos := "law.go:30", after := #[{ on := 30, ground := Ground.data }, { on := 26, ground := Ground.guard }], guard := some (26, true) }) (v := ?_) rfl (by kernel_rfl) (by kernel_rfl) (by kernel_rfl) (fun _ _ _ h => h) (Or.inl ⟨by rfl, ?_⟩) (by assumption) ?_
  rotate_left
  · (intro W hSw; go_simp; first | done | with_reducible rfl)
  try simp only [Act.put, List.setIfInBounds_toArray, List.set_cons_zero, List.set_cons_succ]
  refine wpAnyH_ready (rs := [29]) (by kernel_rfl) (by simp) ?_
  refine AllReadyH.cons (o := { dst := some 82, op := Op.call { callee := Callee.value (Operand.func 14), args := #[Operand.tmp 80, Operand.tmp 81], argTypes := #[24, 3] }, type := 4, pos := "law.go:30", after := #[{ on := 27, ground := Ground.data }, { on := 28, ground := Ground.data }, { on := 26, ground := Ground.chain }, { on := 26, ground := Ground.guard }], guard := some (26, true) }) rfl (fun K hK => ?_) AllReadyH.nil
  go_simp
  refine (floor_in H.out _ HN.out _).mono ?_; rintro e w9 ⟨rfl, hB⟩; have hS9 := SC.step hB (by assumption)
  refine hK.out _ _ (by assumption) (fun hHeld => ?_)
  clear hK K
  try simp only [Act.put, List.setIfInBounds_toArray, List.set_cons_zero, List.set_cons_succ]
  refine wpAnyH_take (i := 32) (oi := { dst := some 85, op := Op.move (Operand.tmp 84), type := 4, pos := "law.go:30", after := #[{ on := 31, ground := Ground.data }, { on := 29, ground := Ground.chain }, { on := 26, ground := Ground.guard }], guard := some (26, true) }) (v := ?_) rfl (by kernel_rfl) (by kernel_rfl) (by kernel_rfl) (fun _ _ _ h => h) (Or.inl ⟨by rfl, ?_⟩) (by assumption) ?_
  rotate_left
  · (intro W hSw; go_simp; first | done | with_reducible rfl)
  try simp only [Act.put, List.setIfInBounds_toArray, List.set_cons_zero, List.set_cons_succ]
  refine wpAnyH_take (i := 33) (oi := { dst := some 86, op := Op.move (Operand.tmp 1), type := 3, pos := "law.go:30", after := #[{ on := 32, ground := Ground.guard }], guard := some (32, true) }) (v := ?_) rfl (by kernel_rfl) (by kernel_rfl) (by kernel_rfl) (fun _ _ _ h => h) (Or.inl ⟨by rfl, ?_⟩) (by assumption) ?_
  rotate_left
  · (intro W hSw; go_simp; first | done | with_reducible rfl)
  try simp only [Act.put, List.setIfInBounds_toArray, List.set_cons_zero, List.set_cons_succ]
  refine wpAnyH_take (i := 34) (oi := { dst := some 87, op := Op.fieldAddr 24 (Operand.tmp 2) 0, type := 0, pos := "law.go:30", after := #[{ on := 32, ground := Ground.guard }], guard := some (32, true) }) (v := ?_) rfl (by kernel_rfl) (by kernel_rfl) (by kernel_rfl) (fun _ _ _ h => h) (Or.inl ⟨by rfl, ?_⟩) (by assumption) ?_
  rotate_left
  · (intro W hSw; go_simp; first | done | with_reducible rfl)
  try simp only [Act.put, List.setIfInBounds_toArray, List.set_cons_zero, List.set_cons_succ]
  refine wpAnyH_take (i := 35) (oi := { dst := some 88, op := Op.load 3 (Operand.tmp 87), type := 3, pos := "law.go:30", after := #[{ on := 34, ground := Ground.data }, { on := 32, ground := Ground.guard }], guard := some (32, true) }) (v := ?_) rfl (by kernel_rfl) (by kernel_rfl) (by kernel_rfl) (fun _ _ _ h => h) (Or.inl ⟨by rfl, ?_⟩) (by assumption) ?_
  rotate_left
  · (intro W hSw; go_simp; first | done | with_reducible rfl)
  try simp only [Act.put, List.setIfInBounds_toArray, List.set_cons_zero, List.set_cons_succ]
  refine wpAnyH_take (i := 36) (oi := { dst := some 89, op := Op.binOp BinOp.leq 3 (Operand.tmp 86) (Operand.tmp 88) 3, type := 4, pos := "law.go:30", after := #[{ on := 33, ground := Ground.data }, { on := 35, ground := Ground.data }, { on := 32, ground := Ground.guard }], guard := some (32, true) }) (v := ?_) rfl (by kernel_rfl) (by kernel_rfl) (by kernel_rfl) (fun _ _ _ h => h) (Or.inl ⟨by rfl, ?_⟩) (by assumption) ?_
  rotate_left
  · (intro W hSw; go_simp; first | done | with_reducible rfl)
  try simp only [Act.put, List.setIfInBounds_toArray, List.set_cons_zero, List.set_cons_succ]
  refine wpAnyH_take (i := 37) (oi := { dst := some 90, op := Op.pick (Operand.tmp 85) (Operand.tmp 89) (Operand.const (Value.bool false)), type := 4, pos := "law.go:30", after := #[{ on := 32, ground := Ground.data }, { on := 36, ground := Ground.data }, { on := 26, ground := Ground.guard }], guard := some (26, true) }) (v := ?_) rfl (by kernel_rfl) (by kernel_rfl) (by kernel_rfl) (fun _ _ _ h => h) (Or.inl ⟨by rfl, ?_⟩) (by assumption) ?_
  rotate_left
  · (intro W hSw; go_simp; first | done | with_reducible rfl)
  try simp only [Act.put, List.setIfInBounds_toArray, List.set_cons_zero, List.set_cons_succ]
  refine wpAnyH_take (i := 38) (oi := { dst := some 91, op := Op.binOp BinOp.eql 4 (Operand.tmp 82) (Operand.tmp 90) 4, type := 4, pos := "law.go:30", after := #[{ on := 29, ground := Ground.data }, { on := 37, ground := Ground.data }, { on := 26, ground := Ground.guard }], guard := some (26, true) }) (v := ?_) rfl (by kernel_rfl) (by kernel_rfl) (by kernel_rfl) (fun _ _ _ h => h) (Or.inl ⟨by rfl, ?_⟩) (by assumption) ?_
  rotate_left
  · (intro W hSw; go_simp; first | done | with_reducible rfl)
  try simp only [Act.put, List.setIfInBounds_toArray, List.set_cons_zero, List.set_cons_succ]
  refine wpAnyH_take (i := 39) (oi := { dst := some 92, op := Op.pick (Operand.tmp 79) (Operand.tmp 91) (Operand.const (Value.bool false)), type := 4, pos := "law.go:30", after := #[{ on := 26, ground := Ground.data }, { on := 38, ground := Ground.data }], guard := none }) (v := ?_) rfl (by kernel_rfl) (by kernel_rfl) (by kernel_rfl) (fun _ _ _ h => h) (Or.inl ⟨by rfl, ?_⟩) (by assumption) ?_
  rotate_left
  · (intro W hSw; go_simp; first | done | with_reducible rfl)
  try simp only [Act.put, List.setIfInBounds_toArray, List.set_cons_zero, List.set_cons_succ]
  refine wpAnyH_take (i := 40) (oi := { dst := some 93, op := Op.move (Operand.tmp 92), type := 4, pos := "law.go:30", after := #[{ on := 39, ground := Ground.data }, { on := 32, ground := Ground.chain }], guard := none }) (v := ?_) rfl (by kernel_rfl) (by kernel_rfl) (by kernel_rfl) (fun _ _ _ h => h) (Or.inl ⟨by rfl, ?_⟩) (by assumption) ?_
  rotate_left
  · (intro W hSw; go_simp; first | done | with_reducible rfl)
  try simp only [Act.put, List.setIfInBounds_toArray, List.set_cons_zero, List.set_cons_succ]
  refine wpAnyH_take (i := 41) (oi := { dst := some 94, op := Op.load 24 (Operand.tmp 2), type := 24, pos := "law.go:30", after := #[{ on := 40, ground := Ground.guard }], guard := some (40, true) }) (v := ?_) rfl (by kernel_rfl) (by kernel_rfl) (by kernel_rfl) (fun _ _ _ h => h) (Or.inl ⟨by rfl, ?_⟩) (by assumption) ?_
  rotate_left
  · (intro W hSw; go_simp; first | done | with_reducible rfl)
  try simp only [Act.put, List.setIfInBounds_toArray, List.set_cons_zero, List.set_cons_succ]
  refine wpAnyH_take (i := 42) (oi := { dst := some 95, op := Op.move (Operand.tmp 1), type := 3, pos := "law.go:30", after := #[{ on := 40, ground := Ground.guard }], guard := some (40, true) }) (v := ?_) rfl (by kernel_rfl) (by kernel_rfl) (by kernel_rfl) (fun _ _ _ h => h) (Or.inl ⟨by rfl, ?_⟩) (by assumption) ?_
  rotate_left
  · (intro W hSw; go_simp; first | done | with_reducible rfl)
  try simp only [Act.put, List.setIfInBounds_toArray, List.set_cons_zero, List.set_cons_succ]
  refine wpAnyH_take (i := 44) (oi := { dst := some 97, op := Op.move (Operand.tmp 1), type := 3, pos := "law.go:30", after := #[{ on := 40, ground := Ground.guard }], guard := some (40, true) }) (v := ?_) rfl (by kernel_rfl) (by kernel_rfl) (by kernel_rfl) (fun _ _ _ h => h) (Or.inl ⟨by rfl, ?_⟩) (by assumption) ?_
  rotate_left
  · (intro W hSw; go_simp; first | done | with_reducible rfl)
  try simp only [Act.put, List.setIfInBounds_toArray, List.set_cons_zero, List.set_cons_succ]
  refine wpAnyH_take (i := 45) (oi := { dst := some 98, op := Op.binOp BinOp.gtr 3 (Operand.tmp 97) (Operand.const (Value.int IntKind.i64 0)) 3, type := 4, pos := "law.go:30", after := #[{ on := 44, ground := Ground.data }, { on := 40, ground := Ground.guard }], guard := some (40, true) }) (v := ?_) rfl (by kernel_rfl) (by kernel_rfl) (by kernel_rfl) (fun _ _ _ h => h) (Or.inl ⟨by rfl, ?_⟩) (by assumption) ?_
  rotate_left
  · (intro W hSw; go_simp; first | done | with_reducible rfl)
  try simp only [Act.put, List.setIfInBounds_toArray, List.set_cons_zero, List.set_cons_succ]
  refine wpAnyH_ready (rs := [43]) (by kernel_rfl) (by simp) ?_
  refine AllReadyH.cons (o := { dst := some 96, op := Op.call { callee := Callee.value (Operand.func 15), args := #[Operand.tmp 94, Operand.tmp 95], argTypes := #[24, 3] }, type := 4, pos := "law.go:30", after := #[{ on := 41, ground := Ground.data }, { on := 42, ground := Ground.data }, { on := 40, ground := Ground.chain }, { on := 40, ground := Ground.guard }], guard := some (40, true) }) rfl (fun K hK => ?_) AllReadyH.nil
  go_simp
  refine (car_in H.out _ HN.out _).mono ?_; rintro e w9 ⟨rfl, hB⟩; have hS9 := SC.step hB (by assumption)
  refine hK.out _ _ (by assumption) (fun hHeld => ?_)
  clear hK K
  try simp only [Act.put, List.setIfInBounds_toArray, List.set_cons_zero, List.set_cons_succ]
  refine wpAnyH_take (i := 46) (oi := { dst := some 99, op := Op.move (Operand.tmp 98), type := 4, pos := "law.go:30", after := #[{ on := 45, ground := Ground.data }, { on := 43, ground := Ground.chain }, { on := 40, ground := Ground.guard }], guard := some (40, true) }) (v := ?_) rfl (by kernel_rfl) (by kernel_rfl) (by kernel_rfl) (fun _ _ _ h => h) (Or.inl ⟨by rfl, ?_⟩) (by assumption) ?_
  rotate_left
  · (intro W hSw; go_simp; first | done | with_reducible rfl)
  try simp only [Act.put, List.setIfInBounds_toArray, List.set_cons_zero, List.set_cons_succ]
  refine wpAnyH_take (i := 47) (oi := { dst := some 100, op := Op.move (Operand.tmp 1), type := 3, pos := "law.go:30", after := #[{ on := 46, ground := Ground.guard }], guard := some (46, true) }) (v := ?_) rfl (by kernel_rfl) (by kernel_rfl) (by kernel_rfl) (fun _ _ _ h => h) (Or.inl ⟨by rfl, ?_⟩) (by assumption) ?_
  rotate_left
  · (intro W hSw; go_simp; first | done | with_reducible rfl)
  try simp only [Act.put, List.setIfInBounds_toArray, List.set_cons_zero, List.set_cons_succ]
  refine wpAnyH_take (i := 48) (oi := { dst := some 101, op := Op.fieldAddr 24 (Operand.tmp 2) 1, type := 0, pos := "law.go:30", after := #[{ on := 46, ground := Ground.guard }], guard := some (46, true) }) (v := ?_) rfl (by kernel_rfl) (by kernel_rfl) (by kernel_rfl) (fun _ _ _ h => h) (Or.inl ⟨by rfl, ?_⟩) (by assumption) ?_
  rotate_left
  · (intro W hSw; go_simp; first | done | with_reducible rfl)
  try simp only [Act.put, List.setIfInBounds_toArray, List.set_cons_zero, List.set_cons_succ]
  refine wpAnyH_take (i := 49) (oi := { dst := some 102, op := Op.load 3 (Operand.tmp 101), type := 3, pos := "law.go:30", after := #[{ on := 48, ground := Ground.data }, { on := 46, ground := Ground.guard }], guard := some (46, true) }) (v := ?_) rfl (by kernel_rfl) (by kernel_rfl) (by kernel_rfl) (fun _ _ _ h => h) (Or.inl ⟨by rfl, ?_⟩) (by assumption) ?_
  rotate_left
  · (intro W hSw; go_simp; first | done | with_reducible rfl)
  try simp only [Act.put, List.setIfInBounds_toArray, List.set_cons_zero, List.set_cons_succ]
  refine wpAnyH_take (i := 50) (oi := { dst := some 103, op := Op.binOp BinOp.leq 3 (Operand.tmp 100) (Operand.tmp 102) 3, type := 4, pos := "law.go:30", after := #[{ on := 47, ground := Ground.data }, { on := 49, ground := Ground.data }, { on := 46, ground := Ground.guard }], guard := some (46, true) }) (v := ?_) rfl (by kernel_rfl) (by kernel_rfl) (by kernel_rfl) (fun _ _ _ h => h) (Or.inl ⟨by rfl, ?_⟩) (by assumption) ?_
  rotate_left
  · (intro W hSw; go_simp; first | done | with_reducible rfl)
  try simp only [Act.put, List.setIfInBounds_toArray, List.set_cons_zero, List.set_cons_succ]
  refine wpAnyH_take (i := 51) (oi := { dst := some 104, op := Op.pick (Operand.tmp 99) (Operand.tmp 103) (Operand.const (Value.bool false)), type := 4, pos := "law.go:30", after := #[{ on := 46, ground := Ground.data }, { on := 50, ground := Ground.data }, { on := 40, ground := Ground.guard }], guard := some (40, true) }) (v := ?_) rfl (by kernel_rfl) (by kernel_rfl) (by kernel_rfl) (fun _ _ _ h => h) (Or.inl ⟨by rfl, ?_⟩) (by assumption) ?_
  rotate_left
  · (intro W hSw; go_simp; first | done | with_reducible rfl)
  try simp only [Act.put, List.setIfInBounds_toArray, List.set_cons_zero, List.set_cons_succ]
  refine wpAnyH_take (i := 52) (oi := { dst := some 105, op := Op.binOp BinOp.eql 4 (Operand.tmp 96) (Operand.tmp 104) 4, type := 4, pos := "law.go:30", after := #[{ on := 43, ground := Ground.data }, { on := 51, ground := Ground.data }, { on := 40, ground := Ground.guard }], guard := some (40, true) }) (v := ?_) rfl (by kernel_rfl) (by kernel_rfl) (by kernel_rfl) (fun _ _ _ h => h) (Or.inl ⟨by rfl, ?_⟩) (by assumption) ?_
  rotate_left
  · (intro W hSw; go_simp; first | done | with_reducible rfl)
  try simp only [Act.put, List.setIfInBounds_toArray, List.set_cons_zero, List.set_cons_succ]
  refine wpAnyH_take (i := 53) (oi := { dst := some 106, op := Op.pick (Operand.tmp 93) (Operand.tmp 105) (Operand.const (Value.bool false)), type := 4, pos := "law.go:30", after := #[{ on := 40, ground := Ground.data }, { on := 52, ground := Ground.data }], guard := none }) (v := ?_) rfl (by kernel_rfl) (by kernel_rfl) (by kernel_rfl) (fun _ _ _ h => h) (Or.inl ⟨by rfl, ?_⟩) (by assumption) ?_
  rotate_left
  · (intro W hSw; go_simp; first | done | with_reducible rfl)
  try simp only [Act.put, List.setIfInBounds_toArray, List.set_cons_zero, List.set_cons_succ]
  refine wpAnyH_take (i := 54) (oi := { dst := some 4, op := Op.assign (Operand.tmp 106), type := 4, pos := "law.go:30", after := #[{ on := 53, ground := Ground.data }, { on := 46, ground := Ground.chain }, { on := 0, ground := Ground.phase }, { on := 1, ground := Ground.phase }, { on := 2, ground := Ground.phase }, { on := 3, ground := Ground.phase }, { on := 4, ground := Ground.phase }, { on := 5, ground := Ground.phase }, { on := 6, ground := Ground.phase }, { on := 7, ground := Ground.phase }, { on := 8, ground := Ground.phase }, { on := 9, ground := Ground.phase }, { on := 10, ground := Ground.phase }, { on := 11, ground := Ground.phase }, { on := 12, ground := Ground.phase }, { on := 13, ground := Ground.phase }, { on := 14, ground := Ground.phase }, { on := 15, ground := Ground.phase }, { on := 16, ground := Ground.phase }, { on := 17, ground := Ground.phase }, { on := 18, ground := Ground.phase }, { on := 19, ground := Ground.phase }, { on := 20, ground := Ground.phase }, { on := 21, ground := Ground.phase }, { on := 22, ground := Ground.phase }, { on := 23, ground := Ground.phase }, { on := 24, ground := Ground.phase }, { on := 25, ground := Ground.phase }, { on := 26, ground := Ground.phase }, { on := 27, ground := Ground.phase }, { on := 28, ground := Ground.phase }, { on := 29, ground := Ground.phase }, { on := 30, ground := Ground.phase }, { on := 31, ground := Ground.phase }, { on := 32, ground := Ground.phase }, { on := 33, ground := Ground.phase }, { on := 34, ground := Ground.phase }, { on := 35, ground := Ground.phase }, { on := 36, ground := Ground.phase }, { on := 37, ground := Ground.phase }, { on := 38, ground := Ground.phase }, { on := 39, ground := Ground.phase }, { on := 40, ground := Ground.phase }, { on := 41, ground := Ground.phase }, { on := 42, ground := Ground.phase }, { on := 43, ground := Ground.phase }, { on := 44, ground := Ground.phase }, { on := 45, ground := Ground.phase }, { on := 46, ground := Ground.phase }, { on := 47, ground := Ground.phase }, { on := 48, ground := Ground.phase }, { on := 49, ground := Ground.phase }, { on := 50, ground := Ground.phase }, { on := 51, ground := Ground.phase }, { on := 52, ground := Ground.phase }, { on := 53, ground := Ground.phase }], guard := none }) (v := ?_) rfl (by kernel_rfl) (by kernel_rfl) (by kernel_rfl) (fun _ _ _ h => h) (Or.inl ⟨by rfl, ?_⟩) (by assumption) ?_
  rotate_left
  · (intro W hSw; go_simp; first | done | with_reducible rfl)
  try simp only [Act.put, List.setIfInBounds_toArray, List.set_cons_zero, List.set_cons_succ]
  refine wpAnyH_done (by kernel_rfl) ?_ _
  go_wp2
  go_ret
  exact ⟨rfl, (by assumption : SC c s w _).2⟩

set_option maxRecDepth 100000 in
set_option maxHeartbeats 4000000 in
theorem exact_out (c : Nat → Int) (s n : Int) (w : World) (hg : good c = true) (hn : ¬ 1 ≤ n) :
    Calls Try.prog 3 #[.agg (cfgCells c s), .int .i64 n] w fun e w' => e = .returned (.bool true) ∧ Below w.heap.size w w' := by
  have h3 : 1 ≤ c 3 ∧ c 3 ≤ 64 := good_at hg 3 (by omega)
  have h10 : 1 ≤ c 10 ∧ c 10 ≤ 16 := good_at hg 10 (by omega)
  have h13 : 0 ≤ c 13 ∧ c 13 ≤ 8 := good_at hg 13 (by omega)
  have h11 : 1 ≤ c 11 ∧ c 11 ≤ 16 := good_at hg 11 (by omega)
  have ha := answer_bd hg
  have hb := trip_bd c
  have hm : 0 ≤ 3 * (c 3 + 1) * tripV c ∧ 3 * (c 3 + 1) * tripV c ≤ 137280 := mul_bd (a := 3 * (c 3 + 1)) (b := tripV c) (A := 195) (B := 704) (by omega) (by omega) hb.1 hb.2
  have e1 : IntKind.i64.wrap (c 3 + 1) = c 3 + 1 := IntWalk.i64_in _ (by omega)
  have e2 : IntKind.i64.wrap (3 * (c 3 + 1)) = 3 * (c 3 + 1) := IntWalk.i64_in _ (by omega)
  have e3 : IntKind.i64.wrap (3 * (c 3 + 1) * tripV c) = 3 * (c 3 + 1) * tripV c := IntWalk.i64_in _ (by omega)
  have e4 : IntKind.i64.wrap (c 10 + 1) = c 10 + 1 := IntWalk.i64_in _ (by omega)
  have e5 : IntKind.i64.wrap (2 * c 13) = 2 * c 13 := IntWalk.i64_in _ (by omega)
  have e6 : IntKind.i64.wrap (2 * c 13 + 12) = 2 * c 13 + 12 := IntWalk.i64_in _ (by omega)
  have e7 : IntKind.i64.wrap ((c 10 + 1) * (2 * c 13 + 12)) = (c 10 + 1) * (2 * c 13 + 12) := IntWalk.i64_in _ (by omega)
  have e8 : IntKind.i64.wrap ((c 10 + 1) * (2 * c 13 + 12) + c 11) = (c 10 + 1) * (2 * c 13 + 12) + c 11 := IntWalk.i64_in _ (by omega)
  have dn : decide (0 < n) = false := by simp; omega
  have H := Lib.hid hg
  have HN := Lib.hid hn
  clear hg hn h3 h10 h13 h11 ha hb hm
  have hS := SC.start c s w
  have HL := @SC.load c s w
  have Q0 := @SC.cell c s w 0 (by omega)
  have Q1 := @SC.cell c s w 1 (by omega)
  have Q3 := @SC.cell c s w 3 (by omega)
  have Q10 := @SC.cell c s w 10 (by omega)
  have Q11 := @SC.cell c s w 11 (by omega)
  have Q13 := @SC.cell c s w 13 (by omega)
  go_enter Try.func3, Try.ntmps3
  go_wp2_with (first
    | (go_at_call 7; refine (awake7 _).mono ?_; rintro e w9 ⟨rfl, hB⟩; replace hS := SC.step hB hS; clear hB)
    | (go_at_call 8; refine (rgood_is H.out _ _).mono ?_; rintro e w9 ⟨rfl, hB⟩; replace hS := SC.step hB hS; clear hB))
  have hS0 := hS.draw
  refine wp_region_held_drew (S := SC c s w) (by kernel_rfl) hS0 (fun hHeld => ?_)
  refine wpAnyH_take (i := 0) (oi := { dst := some 10, op := Op.load 24 (Operand.tmp 2), type := 24, pos := "law.go:24", after := #[], guard := none }) (v := ?_) rfl (by kernel_rfl) (by kernel_rfl) (by kernel_rfl) (fun _ _ _ h => h) (Or.inl ⟨by rfl, ?_⟩) (by assumption) ?_
  rotate_left
  · (intro W hSw; go_simp; first | done | with_reducible rfl)
  try simp only [Act.put, List.setIfInBounds_toArray, List.set_cons_zero, List.set_cons_succ]
  refine wpAnyH_take (i := 3) (oi := { dst := some 13, op := Op.move (Operand.tmp 5), type := 4, pos := "law.go:24", after := #[], guard := none }) (v := ?_) rfl (by kernel_rfl) (by kernel_rfl) (by kernel_rfl) (fun _ _ _ h => h) (Or.inl ⟨by rfl, ?_⟩) (by assumption) ?_
  rotate_left
  · (intro W hSw; go_simp; first | done | with_reducible rfl)
  try simp only [Act.put, List.setIfInBounds_toArray, List.set_cons_zero, List.set_cons_succ]
  refine wpAnyH_ready (rs := [1]) (by kernel_rfl) (by simp) ?_
  refine AllReadyH.cons (o := { dst := some 11, op := Op.call { callee := Callee.value (Operand.func 9), args := #[Operand.tmp 10], argTypes := #[24] }, type := 27, pos := "law.go:24", after := #[{ on := 0, ground := Ground.data }], guard := none }) rfl (fun K hK => ?_) AllReadyH.nil
  go_simp
  refine (check_ok H.out _ _).mono ?_; rintro e w9 ⟨rfl, hB⟩; have hS9 := SC.step hB (by assumption)
  refine hK.out _ _ (by assumption) (fun hHeld => ?_)
  clear hK K
  try simp only [Act.put, List.setIfInBounds_toArray, List.set_cons_zero, List.set_cons_succ]
  refine wpAnyH_take (i := 2) (oi := { dst := some 12, op := Op.binOp BinOp.eql 27 (Operand.tmp 11) (Operand.const (Value.int IntKind.i64 0)) 27, type := 4, pos := "law.go:24", after := #[{ on := 1, ground := Ground.data }], guard := none }) (v := ?_) rfl (by kernel_rfl) (by kernel_rfl) (by kernel_rfl) (fun _ _ _ h => h) (Or.inl ⟨by rfl, ?_⟩) (by assumption) ?_
  rotate_left
  · (intro W hSw; go_simp; first | done | with_reducible rfl)
  try simp only [Act.put, List.setIfInBounds_toArray, List.set_cons_zero, List.set_cons_succ]
  refine wpAnyH_take (i := 4) (oi := { dst := some 14, op := Op.binOp BinOp.neq 4 (Operand.tmp 12) (Operand.tmp 13) 4, type := 4, pos := "law.go:24", after := #[{ on := 2, ground := Ground.data }, { on := 3, ground := Ground.data }], guard := none }) (v := ?_) rfl (by kernel_rfl) (by kernel_rfl) (by kernel_rfl) (fun _ _ _ h => h) (Or.inl ⟨by rfl, ?_⟩) (by assumption) ?_
  rotate_left
  · (intro W hSw; go_simp; first | done | with_reducible rfl)
  try simp only [Act.put, List.setIfInBounds_toArray, List.set_cons_zero, List.set_cons_succ]
  refine wpAnyH_take (i := 5) (oi := { dst := some 15, op := Op.move (Operand.tmp 14), type := 4, pos := "law.go:24", after := #[{ on := 4, ground := Ground.data }, { on := 1, ground := Ground.chain }], guard := none }) (v := ?_) rfl (by kernel_rfl) (by kernel_rfl) (by kernel_rfl) (fun _ _ _ h => h) (Or.inl ⟨by rfl, ?_⟩) (by assumption) ?_
  rotate_left
  · (intro W hSw; go_simp; first | done | with_reducible rfl)
  try simp only [Act.put, List.setIfInBounds_toArray, List.set_cons_zero, List.set_cons_succ]
  refine wpAnyH_take (i := 6) (oi := { dst := some 16, op := Op.move (Operand.tmp 5), type := 4, pos := "law.go:24", after := #[{ on := 5, ground := Ground.guard }], guard := some (5, false) }) (v := ?_) rfl (by kernel_rfl) (by kernel_rfl) (by kernel_rfl) (fun _ _ _ h => h) (Or.inl ⟨by rfl, ?_⟩) (by assumption) ?_
  rotate_left
  · (intro W hSw; go_simp; first | done | with_reducible rfl)
  try simp only [Act.put, List.setIfInBounds_toArray, List.set_cons_zero, List.set_cons_succ]
  refine wpAnyH_take (i := 7) (oi := { dst := some 17, op := Op.unOp UnOp.not 4 (Operand.tmp 16), type := 4, pos := "law.go:24", after := #[{ on := 6, ground := Ground.data }, { on := 5, ground := Ground.guard }], guard := some (5, false) }) (v := ?_) rfl (by kernel_rfl) (by kernel_rfl) (by kernel_rfl) (fun _ _ _ h => h) (Or.inl ⟨by rfl, ?_⟩) (by assumption) ?_
  rotate_left
  · (intro W hSw; go_simp; first | done | with_reducible rfl)
  try simp only [Act.put, List.setIfInBounds_toArray, List.set_cons_zero, List.set_cons_succ]
  refine wpAnyH_take (i := 8) (oi := { dst := some 18, op := Op.move (Operand.tmp 17), type := 4, pos := "law.go:24", after := #[{ on := 7, ground := Ground.data }, { on := 5, ground := Ground.chain }, { on := 5, ground := Ground.guard }], guard := some (5, false) }) (v := ?_) rfl (by kernel_rfl) (by kernel_rfl) (by kernel_rfl) (fun _ _ _ h => h) (Or.inl ⟨by rfl, ?_⟩) (by assumption) ?_
  rotate_left
  · (intro W hSw; go_simp; first | done | with_reducible rfl)
  try simp only [Act.put, List.setIfInBounds_toArray, List.set_cons_zero, List.set_cons_succ]
  refine wpAnyH_take (i := 9) (oi := { dst := some 19, op := Op.load 24 (Operand.tmp 2), type := 24, pos := "law.go:24", after := #[{ on := 8, ground := Ground.guard }], guard := some (8, true) }) (v := undef) rfl (by kernel_rfl) (by kernel_rfl) (by kernel_rfl) (fun _ _ _ h => h) (Or.inr ⟨by rfl, rfl⟩) (by assumption) ?_
  try simp only [Act.put, List.setIfInBounds_toArray, List.set_cons_zero, List.set_cons_succ]
  refine wpAnyH_take (i := 10) (oi := { dst := some 20, op := Op.call { callee := Callee.value (Operand.func 9), args := #[Operand.tmp 19], argTypes := #[24] }, type := 27, pos := "law.go:24", after := #[{ on := 9, ground := Ground.data }, { on := 8, ground := Ground.chain }, { on := 8, ground := Ground.guard }], guard := some (8, true) }) (v := undef) rfl (by kernel_rfl) (by kernel_rfl) (by kernel_rfl) (fun _ _ _ h => h) (Or.inr ⟨by rfl, rfl⟩) (by assumption) ?_
  try simp only [Act.put, List.setIfInBounds_toArray, List.set_cons_zero, List.set_cons_succ]
  refine wpAnyH_take (i := 11) (oi := { dst := some 21, op := Op.binOp BinOp.neq 27 (Operand.tmp 20) (Operand.const (Value.int IntKind.i64 3)) 27, type := 4, pos := "law.go:24", after := #[{ on := 10, ground := Ground.data }, { on := 8, ground := Ground.guard }], guard := some (8, true) }) (v := undef) rfl (by kernel_rfl) (by kernel_rfl) (by kernel_rfl) (fun _ _ _ h => h) (Or.inr ⟨by rfl, rfl⟩) (by assumption) ?_
  try simp only [Act.put, List.setIfInBounds_toArray, List.set_cons_zero, List.set_cons_succ]
  refine wpAnyH_take (i := 12) (oi := { dst := some 22, op := Op.pick (Operand.tmp 18) (Operand.tmp 21) (Operand.const (Value.bool false)), type := 4, pos := "law.go:24", after := #[{ on := 8, ground := Ground.data }, { on := 11, ground := Ground.data }, { on := 5, ground := Ground.guard }], guard := some (5, false) }) (v := ?_) rfl (by kernel_rfl) (by kernel_rfl) (by kernel_rfl) (fun _ _ _ h => h) (Or.inl ⟨by rfl, ?_⟩) (by assumption) ?_
  rotate_left
  · (intro W hSw; go_simp; first | done | with_reducible rfl)
  try simp only [Act.put, List.setIfInBounds_toArray, List.set_cons_zero, List.set_cons_succ]
  refine wpAnyH_take (i := 13) (oi := { dst := some 23, op := Op.pick (Operand.tmp 15) (Operand.const (Value.bool true)) (Operand.tmp 22), type := 4, pos := "law.go:24", after := #[{ on := 5, ground := Ground.data }, { on := 12, ground := Ground.data }], guard := none }) (v := ?_) rfl (by kernel_rfl) (by kernel_rfl) (by kernel_rfl) (fun _ _ _ h => h) (Or.inl ⟨by rfl, ?_⟩) (by assumption) ?_
  rotate_left
  · (intro W hSw; go_simp; first | done | with_reducible rfl)
  try simp only [Act.put, List.setIfInBounds_toArray, List.set_cons_zero, List.set_cons_succ]
  refine wpAnyH_take (i := 14) (oi := { dst := some 24, op := Op.move (Operand.tmp 23), type := 4, pos := "law.go:24", after := #[{ on := 13, ground := Ground.data }, { on := 10, ground := Ground.chain }], guard := none }) (v := ?_) rfl (by kernel_rfl) (by kernel_rfl) (by kernel_rfl) (fun _ _ _ h => h) (Or.inl ⟨by rfl, ?_⟩) (by assumption) ?_
  rotate_left
  · (intro W hSw; go_simp; first | done | with_reducible rfl)
  try simp only [Act.put, List.setIfInBounds_toArray, List.set_cons_zero, List.set_cons_succ]
  refine wpAnyH_take (i := 15) (oi := { dst := some 25, op := Op.load 24 (Operand.tmp 2), type := 24, pos := "law.go:24", after := #[{ on := 14, ground := Ground.guard }], guard := some (14, false) }) (v := ?_) rfl (by kernel_rfl) (by kernel_rfl) (by kernel_rfl) (fun _ _ _ h => h) (Or.inl ⟨by rfl, ?_⟩) (by assumption) ?_
  rotate_left
  · (intro W hSw; go_simp; first | done | with_reducible rfl)
  try simp only [Act.put, List.setIfInBounds_toArray, List.set_cons_zero, List.set_cons_succ]
  refine wpAnyH_take (i := 17) (oi := { dst := some 27, op := Op.load 24 (Operand.tmp 2), type := 24, pos := "law.go:24", after := #[{ on := 14, ground := Ground.guard }], guard := some (14, false) }) (v := ?_) rfl (by kernel_rfl) (by kernel_rfl) (by kernel_rfl) (fun _ _ _ h => h) (Or.inl ⟨by rfl, ?_⟩) (by assumption) ?_
  rotate_left
  · (intro W hSw; go_simp; first | done | with_reducible rfl)
  try simp only [Act.put, List.setIfInBounds_toArray, List.set_cons_zero, List.set_cons_succ]
  refine wpAnyH_ready (rs := [16]) (by kernel_rfl) (by simp) ?_
  refine AllReadyH.cons (o := { dst := some 26, op := Op.call { callee := Callee.value (Operand.func 10), args := #[Operand.tmp 25], argTypes := #[24] }, type := 3, pos := "law.go:24", after := #[{ on := 15, ground := Ground.data }, { on := 14, ground := Ground.chain }, { on := 14, ground := Ground.guard }], guard := some (14, false) }) rfl (fun K hK => ?_) AllReadyH.nil
  go_simp
  refine (trip_any _ _ _).mono ?_; rintro e w9 ⟨rfl, hB⟩; have hS9 := SC.step hB (by assumption)
  refine hK.out _ _ (by assumption) (fun hHeld => ?_)
  clear hK K
  try simp only [Act.put, List.setIfInBounds_toArray, List.set_cons_zero, List.set_cons_succ]
  refine wpAnyH_ready (rs := [18]) (by kernel_rfl) (by simp) ?_
  refine AllReadyH.cons (o := { dst := some 28, op := Op.call { callee := Callee.value (Operand.func 11), args := #[Operand.tmp 27], argTypes := #[24] }, type := 3, pos := "law.go:24", after := #[{ on := 17, ground := Ground.data }, { on := 16, ground := Ground.chain }, { on := 14, ground := Ground.guard }], guard := some (14, false) }) rfl (fun K hK => ?_) AllReadyH.nil
  go_simp
  refine (rtrip_any _ _ _).mono ?_; rintro e w9 ⟨rfl, hB⟩; have hS9 := SC.step hB (by assumption)
  refine hK.out _ _ (by assumption) (fun hHeld => ?_)
  clear hK K
  try simp only [Act.put, List.setIfInBounds_toArray, List.set_cons_zero, List.set_cons_succ]
  refine wpAnyH_take (i := 19) (oi := { dst := some 29, op := Op.binOp BinOp.neq 3 (Operand.tmp 26) (Operand.tmp 28) 3, type := 4, pos := "law.go:24", after := #[{ on := 16, ground := Ground.data }, { on := 18, ground := Ground.data }, { on := 14, ground := Ground.guard }], guard := some (14, false) }) (v := ?_) rfl (by kernel_rfl) (by kernel_rfl) (by kernel_rfl) (fun _ _ _ h => h) (Or.inl ⟨by rfl, ?_⟩) (by assumption) ?_
  rotate_left
  · (intro W hSw; go_simp; first | done | with_reducible rfl)
  try simp only [Act.put, List.setIfInBounds_toArray, List.set_cons_zero, List.set_cons_succ]
  refine wpAnyH_take (i := 20) (oi := { dst := some 30, op := Op.pick (Operand.tmp 24) (Operand.const (Value.bool true)) (Operand.tmp 29), type := 4, pos := "law.go:24", after := #[{ on := 14, ground := Ground.data }, { on := 19, ground := Ground.data }], guard := none }) (v := ?_) rfl (by kernel_rfl) (by kernel_rfl) (by kernel_rfl) (fun _ _ _ h => h) (Or.inl ⟨by rfl, ?_⟩) (by assumption) ?_
  rotate_left
  · (intro W hSw; go_simp; first | done | with_reducible rfl)
  try simp only [Act.put, List.setIfInBounds_toArray, List.set_cons_zero, List.set_cons_succ]
  refine wpAnyH_done (by kernel_rfl) ?_ _
  go_wp2_with fail
  have hS1 := SC.draw (by assumption : SC c s w _)
  refine wp_region_held_drew (S := SC c s w) (by kernel_rfl) hS1 (fun hHeld => ?_)
  refine wpAnyH_take (i := 0) (oi := { dst := some 53, op := Op.load 24 (Operand.tmp 2), type := 24, pos := "law.go:30", after := #[], guard := none }) (v := ?_) rfl (by kernel_rfl) (by kernel_rfl) (by kernel_rfl) (fun _ _ _ h => h) (Or.inl ⟨by rfl, ?_⟩) (by assumption) ?_
  rotate_left
  · (intro W hSw; go_simp; first | done | with_reducible rfl)
  try simp only [Act.put, List.setIfInBounds_toArray, List.set_cons_zero, List.set_cons_succ]
  refine wpAnyH_take (i := 2) (oi := { dst := some 55, op := Op.fieldAddr 24 (Operand.tmp 2) 3, type := 0, pos := "law.go:30", after := #[], guard := none }) (v := ?_) rfl (by kernel_rfl) (by kernel_rfl) (by kernel_rfl) (fun _ _ _ h => h) (Or.inl ⟨by rfl, ?_⟩) (by assumption) ?_
  rotate_left
  · (intro W hSw; go_simp; first | done | with_reducible rfl)
  try simp only [Act.put, List.setIfInBounds_toArray, List.set_cons_zero, List.set_cons_succ]
  refine wpAnyH_take (i := 3) (oi := { dst := some 56, op := Op.load 3 (Operand.tmp 55), type := 3, pos := "law.go:30", after := #[{ on := 2, ground := Ground.data }], guard := none }) (v := ?_) rfl (by kernel_rfl) (by kernel_rfl) (by kernel_rfl) (fun _ _ _ h => h) (Or.inl ⟨by rfl, ?_⟩) (by assumption) ?_
  rotate_left
  · (intro W hSw; go_simp; first | done | with_reducible rfl)
  try simp only [Act.put, List.setIfInBounds_toArray, List.set_cons_zero, List.set_cons_succ]
  refine wpAnyH_take (i := 4) (oi := { dst := some 57, op := Op.binOp BinOp.add 3 (Operand.tmp 56) (Operand.const (Value.int IntKind.i64 1)) 3, type := 3, pos := "law.go:30", after := #[{ on := 3, ground := Ground.data }], guard := none }) (v := ?_) rfl (by kernel_rfl) (by kernel_rfl) (by kernel_rfl) (fun _ _ _ h => h) (Or.inl ⟨by rfl, ?_⟩) (by assumption) ?_
  rotate_left
  · (intro W hSw; go_simp; first | done | with_reducible rfl)
  try simp only [Act.put, List.setIfInBounds_toArray, List.set_cons_zero, List.set_cons_succ]
  refine wpAnyH_take (i := 5) (oi := { dst := some 58, op := Op.binOp BinOp.mul 3 (Operand.const (Value.int IntKind.i64 3)) (Operand.tmp 57) 3, type := 3, pos := "law.go:30", after := #[{ on := 4, ground := Ground.data }], guard := none }) (v := ?_) rfl (by kernel_rfl) (by kernel_rfl) (by kernel_rfl) (fun _ _ _ h => h) (Or.inl ⟨by rfl, ?_⟩) (by assumption) ?_
  rotate_left
  · (intro W hSw; go_simp; first | done | with_reducible rfl)
  try simp only [Act.put, List.setIfInBounds_toArray, List.set_cons_zero, List.set_cons_succ]
  refine wpAnyH_take (i := 6) (oi := { dst := some 59, op := Op.load 24 (Operand.tmp 2), type := 24, pos := "law.go:30", after := #[], guard := none }) (v := ?_) rfl (by kernel_rfl) (by kernel_rfl) (by kernel_rfl) (fun _ _ _ h => h) (Or.inl ⟨by rfl, ?_⟩) (by assumption) ?_
  rotate_left
  · (intro W hSw; go_simp; first | done | with_reducible rfl)
  try simp only [Act.put, List.setIfInBounds_toArray, List.set_cons_zero, List.set_cons_succ]
  refine wpAnyH_ready (rs := [1]) (by kernel_rfl) (by simp) ?_
  refine AllReadyH.cons (o := { dst := some 54, op := Op.call { callee := Callee.value (Operand.func 12), args := #[Operand.tmp 53], argTypes := #[24] }, type := 3, pos := "law.go:30", after := #[{ on := 0, ground := Ground.data }], guard := none }) rfl (fun K hK => ?_) AllReadyH.nil
  go_simp
  refine (ride_ok' H.out _ _).mono ?_; rintro e w9 ⟨rfl, hB⟩; have hS9 := SC.step hB (by assumption)
  refine hK.out _ _ (by assumption) (fun hHeld => ?_)
  clear hK K
  try simp only [Act.put, List.setIfInBounds_toArray, List.set_cons_zero, List.set_cons_succ]
  refine wpAnyH_ready (rs := [7]) (by kernel_rfl) (by simp) ?_
  refine AllReadyH.cons (o := { dst := some 60, op := Op.call { callee := Callee.value (Operand.func 11), args := #[Operand.tmp 59], argTypes := #[24] }, type := 3, pos := "law.go:30", after := #[{ on := 6, ground := Ground.data }, { on := 1, ground := Ground.chain }], guard := none }) rfl (fun K hK => ?_) AllReadyH.nil
  go_simp
  refine (rtrip_any _ _ _).mono ?_; rintro e w9 ⟨rfl, hB⟩; have hS9 := SC.step hB (by assumption)
  refine hK.out _ _ (by assumption) (fun hHeld => ?_)
  clear hK K
  try simp only [Act.put, List.setIfInBounds_toArray, List.set_cons_zero, List.set_cons_succ]
  refine wpAnyH_take (i := 8) (oi := { dst := some 61, op := Op.binOp BinOp.mul 3 (Operand.tmp 58) (Operand.tmp 60) 3, type := 3, pos := "law.go:30", after := #[{ on := 5, ground := Ground.data }, { on := 7, ground := Ground.data }], guard := none }) (v := ?_) rfl (by kernel_rfl) (by kernel_rfl) (by kernel_rfl) (fun _ _ _ h => h) (Or.inl ⟨by rfl, ?_⟩) (by assumption) ?_
  rotate_left
  · (intro W hSw; go_simp; first | done | with_reducible rfl)
  try simp only [Act.put, List.setIfInBounds_toArray, List.set_cons_zero, List.set_cons_succ]
  refine wpAnyH_take (i := 9) (oi := { dst := some 62, op := Op.binOp BinOp.eql 3 (Operand.tmp 54) (Operand.tmp 61) 3, type := 4, pos := "law.go:30", after := #[{ on := 1, ground := Ground.data }, { on := 8, ground := Ground.data }], guard := none }) (v := ?_) rfl (by kernel_rfl) (by kernel_rfl) (by kernel_rfl) (fun _ _ _ h => h) (Or.inl ⟨by rfl, ?_⟩) (by assumption) ?_
  rotate_left
  · (intro W hSw; go_simp; first | done | with_reducible rfl)
  try simp only [Act.put, List.setIfInBounds_toArray, List.set_cons_zero, List.set_cons_succ]
  refine wpAnyH_take (i := 10) (oi := { dst := some 63, op := Op.move (Operand.tmp 62), type := 4, pos := "law.go:30", after := #[{ on := 9, ground := Ground.data }, { on := 7, ground := Ground.chain }], guard := none }) (v := ?_) rfl (by kernel_rfl) (by kernel_rfl) (by kernel_rfl) (fun _ _ _ h => h) (Or.inl ⟨by rfl, ?_⟩) (by assumption) ?_
  rotate_left
  · (intro W hSw; go_simp; first | done | with_reducible rfl)
  try simp only [Act.put, List.setIfInBounds_toArray, List.set_cons_zero, List.set_cons_succ]
  refine wpAnyH_take (i := 11) (oi := { dst := some 64, op := Op.load 24 (Operand.tmp 2), type := 24, pos := "law.go:30", after := #[{ on := 10, ground := Ground.guard }], guard := some (10, true) }) (v := ?_) rfl (by kernel_rfl) (by kernel_rfl) (by kernel_rfl) (fun _ _ _ h => h) (Or.inl ⟨by rfl, ?_⟩) (by assumption) ?_
  rotate_left
  · (intro W hSw; go_simp; first | done | with_reducible rfl)
  try simp only [Act.put, List.setIfInBounds_toArray, List.set_cons_zero, List.set_cons_succ]
  refine wpAnyH_take (i := 13) (oi := { dst := some 66, op := Op.fieldAddr 24 (Operand.tmp 2) 10, type := 0, pos := "law.go:30", after := #[{ on := 10, ground := Ground.guard }], guard := some (10, true) }) (v := ?_) rfl (by kernel_rfl) (by kernel_rfl) (by kernel_rfl) (fun _ _ _ h => h) (Or.inl ⟨by rfl, ?_⟩) (by assumption) ?_
  rotate_left
  · (intro W hSw; go_simp; first | done | with_reducible rfl)
  try simp only [Act.put, List.setIfInBounds_toArray, List.set_cons_zero, List.set_cons_succ]
  refine wpAnyH_take (i := 14) (oi := { dst := some 67, op := Op.load 3 (Operand.tmp 66), type := 3, pos := "law.go:30", after := #[{ on := 13, ground := Ground.data }, { on := 10, ground := Ground.guard }], guard := some (10, true) }) (v := ?_) rfl (by kernel_rfl) (by kernel_rfl) (by kernel_rfl) (fun _ _ _ h => h) (Or.inl ⟨by rfl, ?_⟩) (by assumption) ?_
  rotate_left
  · (intro W hSw; go_simp; first | done | with_reducible rfl)
  try simp only [Act.put, List.setIfInBounds_toArray, List.set_cons_zero, List.set_cons_succ]
  refine wpAnyH_take (i := 15) (oi := { dst := some 68, op := Op.binOp BinOp.add 3 (Operand.tmp 67) (Operand.const (Value.int IntKind.i64 1)) 3, type := 3, pos := "law.go:30", after := #[{ on := 14, ground := Ground.data }, { on := 10, ground := Ground.guard }], guard := some (10, true) }) (v := ?_) rfl (by kernel_rfl) (by kernel_rfl) (by kernel_rfl) (fun _ _ _ h => h) (Or.inl ⟨by rfl, ?_⟩) (by assumption) ?_
  rotate_left
  · (intro W hSw; go_simp; first | done | with_reducible rfl)
  try simp only [Act.put, List.setIfInBounds_toArray, List.set_cons_zero, List.set_cons_succ]
  refine wpAnyH_take (i := 16) (oi := { dst := some 69, op := Op.fieldAddr 24 (Operand.tmp 2) 13, type := 0, pos := "law.go:30", after := #[{ on := 10, ground := Ground.guard }], guard := some (10, true) }) (v := ?_) rfl (by kernel_rfl) (by kernel_rfl) (by kernel_rfl) (fun _ _ _ h => h) (Or.inl ⟨by rfl, ?_⟩) (by assumption) ?_
  rotate_left
  · (intro W hSw; go_simp; first | done | with_reducible rfl)
  try simp only [Act.put, List.setIfInBounds_toArray, List.set_cons_zero, List.set_cons_succ]
  refine wpAnyH_take (i := 17) (oi := { dst := some 70, op := Op.load 3 (Operand.tmp 69), type := 3, pos := "law.go:30", after := #[{ on := 16, ground := Ground.data }, { on := 10, ground := Ground.guard }], guard := some (10, true) }) (v := ?_) rfl (by kernel_rfl) (by kernel_rfl) (by kernel_rfl) (fun _ _ _ h => h) (Or.inl ⟨by rfl, ?_⟩) (by assumption) ?_
  rotate_left
  · (intro W hSw; go_simp; first | done | with_reducible rfl)
  try simp only [Act.put, List.setIfInBounds_toArray, List.set_cons_zero, List.set_cons_succ]
  refine wpAnyH_take (i := 18) (oi := { dst := some 71, op := Op.binOp BinOp.mul 3 (Operand.const (Value.int IntKind.i64 2)) (Operand.tmp 70) 3, type := 3, pos := "law.go:30", after := #[{ on := 17, ground := Ground.data }, { on := 10, ground := Ground.guard }], guard := some (10, true) }) (v := ?_) rfl (by kernel_rfl) (by kernel_rfl) (by kernel_rfl) (fun _ _ _ h => h) (Or.inl ⟨by rfl, ?_⟩) (by assumption) ?_
  rotate_left
  · (intro W hSw; go_simp; first | done | with_reducible rfl)
  try simp only [Act.put, List.setIfInBounds_toArray, List.set_cons_zero, List.set_cons_succ]
  refine wpAnyH_take (i := 19) (oi := { dst := some 72, op := Op.binOp BinOp.add 3 (Operand.tmp 71) (Operand.const (Value.int IntKind.i64 12)) 3, type := 3, pos := "law.go:30", after := #[{ on := 18, ground := Ground.data }, { on := 10, ground := Ground.guard }], guard := some (10, true) }) (v := ?_) rfl (by kernel_rfl) (by kernel_rfl) (by kernel_rfl) (fun _ _ _ h => h) (Or.inl ⟨by rfl, ?_⟩) (by assumption) ?_
  rotate_left
  · (intro W hSw; go_simp; first | done | with_reducible rfl)
  try simp only [Act.put, List.setIfInBounds_toArray, List.set_cons_zero, List.set_cons_succ]
  refine wpAnyH_take (i := 20) (oi := { dst := some 73, op := Op.binOp BinOp.mul 3 (Operand.tmp 68) (Operand.tmp 72) 3, type := 3, pos := "law.go:30", after := #[{ on := 15, ground := Ground.data }, { on := 19, ground := Ground.data }, { on := 10, ground := Ground.guard }], guard := some (10, true) }) (v := ?_) rfl (by kernel_rfl) (by kernel_rfl) (by kernel_rfl) (fun _ _ _ h => h) (Or.inl ⟨by rfl, ?_⟩) (by assumption) ?_
  rotate_left
  · (intro W hSw; go_simp; first | done | with_reducible rfl)
  try simp only [Act.put, List.setIfInBounds_toArray, List.set_cons_zero, List.set_cons_succ]
  refine wpAnyH_take (i := 21) (oi := { dst := some 74, op := Op.fieldAddr 24 (Operand.tmp 2) 11, type := 0, pos := "law.go:30", after := #[{ on := 10, ground := Ground.guard }], guard := some (10, true) }) (v := ?_) rfl (by kernel_rfl) (by kernel_rfl) (by kernel_rfl) (fun _ _ _ h => h) (Or.inl ⟨by rfl, ?_⟩) (by assumption) ?_
  rotate_left
  · (intro W hSw; go_simp; first | done | with_reducible rfl)
  try simp only [Act.put, List.setIfInBounds_toArray, List.set_cons_zero, List.set_cons_succ]
  refine wpAnyH_take (i := 22) (oi := { dst := some 75, op := Op.load 3 (Operand.tmp 74), type := 3, pos := "law.go:30", after := #[{ on := 21, ground := Ground.data }, { on := 10, ground := Ground.guard }], guard := some (10, true) }) (v := ?_) rfl (by kernel_rfl) (by kernel_rfl) (by kernel_rfl) (fun _ _ _ h => h) (Or.inl ⟨by rfl, ?_⟩) (by assumption) ?_
  rotate_left
  · (intro W hSw; go_simp; first | done | with_reducible rfl)
  try simp only [Act.put, List.setIfInBounds_toArray, List.set_cons_zero, List.set_cons_succ]
  refine wpAnyH_take (i := 23) (oi := { dst := some 76, op := Op.binOp BinOp.add 3 (Operand.tmp 73) (Operand.tmp 75) 3, type := 3, pos := "law.go:30", after := #[{ on := 20, ground := Ground.data }, { on := 22, ground := Ground.data }, { on := 10, ground := Ground.guard }], guard := some (10, true) }) (v := ?_) rfl (by kernel_rfl) (by kernel_rfl) (by kernel_rfl) (fun _ _ _ h => h) (Or.inl ⟨by rfl, ?_⟩) (by assumption) ?_
  rotate_left
  · (intro W hSw; go_simp; first | done | with_reducible rfl)
  try simp only [Act.put, List.setIfInBounds_toArray, List.set_cons_zero, List.set_cons_succ]
  refine wpAnyH_ready (rs := [12]) (by kernel_rfl) (by simp) ?_
  refine AllReadyH.cons (o := { dst := some 65, op := Op.call { callee := Callee.value (Operand.func 13), args := #[Operand.tmp 64], argTypes := #[24] }, type := 3, pos := "law.go:30", after := #[{ on := 11, ground := Ground.data }, { on := 10, ground := Ground.chain }, { on := 10, ground := Ground.guard }], guard := some (10, true) }) rfl (fun K hK => ?_) AllReadyH.nil
  go_simp
  refine (answer_ok' H.out _ _).mono ?_; rintro e w9 ⟨rfl, hB⟩; have hS9 := SC.step hB (by assumption)
  refine hK.out _ _ (by assumption) (fun hHeld => ?_)
  clear hK K
  try simp only [Act.put, List.setIfInBounds_toArray, List.set_cons_zero, List.set_cons_succ]
  refine wpAnyH_take (i := 24) (oi := { dst := some 77, op := Op.binOp BinOp.eql 3 (Operand.tmp 65) (Operand.tmp 76) 3, type := 4, pos := "law.go:30", after := #[{ on := 12, ground := Ground.data }, { on := 23, ground := Ground.data }, { on := 10, ground := Ground.guard }], guard := some (10, true) }) (v := ?_) rfl (by kernel_rfl) (by kernel_rfl) (by kernel_rfl) (fun _ _ _ h => h) (Or.inl ⟨by rfl, ?_⟩) (by assumption) ?_
  rotate_left
  · (intro W hSw; go_simp; first | done | with_reducible rfl)
  try simp only [Act.put, List.setIfInBounds_toArray, List.set_cons_zero, List.set_cons_succ]
  refine wpAnyH_take (i := 25) (oi := { dst := some 78, op := Op.pick (Operand.tmp 63) (Operand.tmp 77) (Operand.const (Value.bool false)), type := 4, pos := "law.go:30", after := #[{ on := 10, ground := Ground.data }, { on := 24, ground := Ground.data }], guard := none }) (v := ?_) rfl (by kernel_rfl) (by kernel_rfl) (by kernel_rfl) (fun _ _ _ h => h) (Or.inl ⟨by rfl, ?_⟩) (by assumption) ?_
  rotate_left
  · (intro W hSw; go_simp; first | done | with_reducible rfl)
  try simp only [Act.put, List.setIfInBounds_toArray, List.set_cons_zero, List.set_cons_succ]
  refine wpAnyH_take (i := 26) (oi := { dst := some 79, op := Op.move (Operand.tmp 78), type := 4, pos := "law.go:30", after := #[{ on := 25, ground := Ground.data }, { on := 12, ground := Ground.chain }], guard := none }) (v := ?_) rfl (by kernel_rfl) (by kernel_rfl) (by kernel_rfl) (fun _ _ _ h => h) (Or.inl ⟨by rfl, ?_⟩) (by assumption) ?_
  rotate_left
  · (intro W hSw; go_simp; first | done | with_reducible rfl)
  try simp only [Act.put, List.setIfInBounds_toArray, List.set_cons_zero, List.set_cons_succ]
  refine wpAnyH_take (i := 27) (oi := { dst := some 80, op := Op.load 24 (Operand.tmp 2), type := 24, pos := "law.go:30", after := #[{ on := 26, ground := Ground.guard }], guard := some (26, true) }) (v := ?_) rfl (by kernel_rfl) (by kernel_rfl) (by kernel_rfl) (fun _ _ _ h => h) (Or.inl ⟨by rfl, ?_⟩) (by assumption) ?_
  rotate_left
  · (intro W hSw; go_simp; first | done | with_reducible rfl)
  try simp only [Act.put, List.setIfInBounds_toArray, List.set_cons_zero, List.set_cons_succ]
  refine wpAnyH_take (i := 28) (oi := { dst := some 81, op := Op.move (Operand.tmp 1), type := 3, pos := "law.go:30", after := #[{ on := 26, ground := Ground.guard }], guard := some (26, true) }) (v := ?_) rfl (by kernel_rfl) (by kernel_rfl) (by kernel_rfl) (fun _ _ _ h => h) (Or.inl ⟨by rfl, ?_⟩) (by assumption) ?_
  rotate_left
  · (intro W hSw; go_simp; first | done | with_reducible rfl)
  try simp only [Act.put, List.setIfInBounds_toArray, List.set_cons_zero, List.set_cons_succ]
  refine wpAnyH_take (i := 30) (oi := { dst := some 83, op := Op.move (Operand.tmp 1), type := 3, pos := "law.go:30", after := #[{ on := 26, ground := Ground.guard }], guard := some (26, true) }) (v := ?_) rfl (by kernel_rfl) (by kernel_rfl) (by kernel_rfl) (fun _ _ _ h => h) (Or.inl ⟨by rfl, ?_⟩) (by assumption) ?_
  rotate_left
  · (intro W hSw; go_simp; first | done | with_reducible rfl)
  try simp only [Act.put, List.setIfInBounds_toArray, List.set_cons_zero, List.set_cons_succ]
  refine wpAnyH_take (i := 31) (oi := { dst := some 84, op := Op.binOp BinOp.gtr 3 (Operand.tmp 83) (Operand.const (Value.int IntKind.i64 0)) 3, type := 4, pos := "law.go:30", after := #[{ on := 30, ground := Ground.data }, { on := 26, ground := Ground.guard }], guard := some (26, true) }) (v := ?_) rfl (by kernel_rfl) (by kernel_rfl) (by kernel_rfl) (fun _ _ _ h => h) (Or.inl ⟨by rfl, ?_⟩) (by assumption) ?_
  rotate_left
  · (intro W hSw; go_simp; first | done | with_reducible rfl)
  try simp only [Act.put, List.setIfInBounds_toArray, List.set_cons_zero, List.set_cons_succ]
  refine wpAnyH_ready (rs := [29]) (by kernel_rfl) (by simp) ?_
  refine AllReadyH.cons (o := { dst := some 82, op := Op.call { callee := Callee.value (Operand.func 14), args := #[Operand.tmp 80, Operand.tmp 81], argTypes := #[24, 3] }, type := 4, pos := "law.go:30", after := #[{ on := 27, ground := Ground.data }, { on := 28, ground := Ground.data }, { on := 26, ground := Ground.chain }, { on := 26, ground := Ground.guard }], guard := some (26, true) }) rfl (fun K hK => ?_) AllReadyH.nil
  go_simp
  refine (floor_out _ _ HN.out _).mono ?_; rintro e w9 ⟨rfl, hB⟩; have hS9 := SC.step hB (by assumption)
  refine hK.out _ _ (by assumption) (fun hHeld => ?_)
  clear hK K
  try simp only [Act.put, List.setIfInBounds_toArray, List.set_cons_zero, List.set_cons_succ]
  refine wpAnyH_take (i := 32) (oi := { dst := some 85, op := Op.move (Operand.tmp 84), type := 4, pos := "law.go:30", after := #[{ on := 31, ground := Ground.data }, { on := 29, ground := Ground.chain }, { on := 26, ground := Ground.guard }], guard := some (26, true) }) (v := ?_) rfl (by kernel_rfl) (by kernel_rfl) (by kernel_rfl) (fun _ _ _ h => h) (Or.inl ⟨by rfl, ?_⟩) (by assumption) ?_
  rotate_left
  · (intro W hSw; go_simp; first | done | with_reducible rfl)
  try simp only [Act.put, List.setIfInBounds_toArray, List.set_cons_zero, List.set_cons_succ]
  refine wpAnyH_take (i := 33) (oi := { dst := some 86, op := Op.move (Operand.tmp 1), type := 3, pos := "law.go:30", after := #[{ on := 32, ground := Ground.guard }], guard := some (32, true) }) (v := undef) rfl (by kernel_rfl) (by kernel_rfl) (by kernel_rfl) (fun _ _ _ h => h) (Or.inr ⟨by rfl, rfl⟩) (by assumption) ?_
  try simp only [Act.put, List.setIfInBounds_toArray, List.set_cons_zero, List.set_cons_succ]
  refine wpAnyH_take (i := 34) (oi := { dst := some 87, op := Op.fieldAddr 24 (Operand.tmp 2) 0, type := 0, pos := "law.go:30", after := #[{ on := 32, ground := Ground.guard }], guard := some (32, true) }) (v := undef) rfl (by kernel_rfl) (by kernel_rfl) (by kernel_rfl) (fun _ _ _ h => h) (Or.inr ⟨by rfl, rfl⟩) (by assumption) ?_
  try simp only [Act.put, List.setIfInBounds_toArray, List.set_cons_zero, List.set_cons_succ]
  refine wpAnyH_take (i := 35) (oi := { dst := some 88, op := Op.load 3 (Operand.tmp 87), type := 3, pos := "law.go:30", after := #[{ on := 34, ground := Ground.data }, { on := 32, ground := Ground.guard }], guard := some (32, true) }) (v := undef) rfl (by kernel_rfl) (by kernel_rfl) (by kernel_rfl) (fun _ _ _ h => h) (Or.inr ⟨by rfl, rfl⟩) (by assumption) ?_
  try simp only [Act.put, List.setIfInBounds_toArray, List.set_cons_zero, List.set_cons_succ]
  refine wpAnyH_take (i := 36) (oi := { dst := some 89, op := Op.binOp BinOp.leq 3 (Operand.tmp 86) (Operand.tmp 88) 3, type := 4, pos := "law.go:30", after := #[{ on := 33, ground := Ground.data }, { on := 35, ground := Ground.data }, { on := 32, ground := Ground.guard }], guard := some (32, true) }) (v := undef) rfl (by kernel_rfl) (by kernel_rfl) (by kernel_rfl) (fun _ _ _ h => h) (Or.inr ⟨by rfl, rfl⟩) (by assumption) ?_
  try simp only [Act.put, List.setIfInBounds_toArray, List.set_cons_zero, List.set_cons_succ]
  refine wpAnyH_take (i := 37) (oi := { dst := some 90, op := Op.pick (Operand.tmp 85) (Operand.tmp 89) (Operand.const (Value.bool false)), type := 4, pos := "law.go:30", after := #[{ on := 32, ground := Ground.data }, { on := 36, ground := Ground.data }, { on := 26, ground := Ground.guard }], guard := some (26, true) }) (v := ?_) rfl (by kernel_rfl) (by kernel_rfl) (by kernel_rfl) (fun _ _ _ h => h) (Or.inl ⟨by rfl, ?_⟩) (by assumption) ?_
  rotate_left
  · (intro W hSw; go_simp; first | done | with_reducible rfl)
  try simp only [Act.put, List.setIfInBounds_toArray, List.set_cons_zero, List.set_cons_succ]
  refine wpAnyH_take (i := 38) (oi := { dst := some 91, op := Op.binOp BinOp.eql 4 (Operand.tmp 82) (Operand.tmp 90) 4, type := 4, pos := "law.go:30", after := #[{ on := 29, ground := Ground.data }, { on := 37, ground := Ground.data }, { on := 26, ground := Ground.guard }], guard := some (26, true) }) (v := ?_) rfl (by kernel_rfl) (by kernel_rfl) (by kernel_rfl) (fun _ _ _ h => h) (Or.inl ⟨by rfl, ?_⟩) (by assumption) ?_
  rotate_left
  · (intro W hSw; go_simp; first | done | with_reducible rfl)
  try simp only [Act.put, List.setIfInBounds_toArray, List.set_cons_zero, List.set_cons_succ]
  refine wpAnyH_take (i := 39) (oi := { dst := some 92, op := Op.pick (Operand.tmp 79) (Operand.tmp 91) (Operand.const (Value.bool false)), type := 4, pos := "law.go:30", after := #[{ on := 26, ground := Ground.data }, { on := 38, ground := Ground.data }], guard := none }) (v := ?_) rfl (by kernel_rfl) (by kernel_rfl) (by kernel_rfl) (fun _ _ _ h => h) (Or.inl ⟨by rfl, ?_⟩) (by assumption) ?_
  rotate_left
  · (intro W hSw; go_simp; first | done | with_reducible rfl)
  try simp only [Act.put, List.setIfInBounds_toArray, List.set_cons_zero, List.set_cons_succ]
  refine wpAnyH_take (i := 40) (oi := { dst := some 93, op := Op.move (Operand.tmp 92), type := 4, pos := "law.go:30", after := #[{ on := 39, ground := Ground.data }, { on := 32, ground := Ground.chain }], guard := none }) (v := ?_) rfl (by kernel_rfl) (by kernel_rfl) (by kernel_rfl) (fun _ _ _ h => h) (Or.inl ⟨by rfl, ?_⟩) (by assumption) ?_
  rotate_left
  · (intro W hSw; go_simp; first | done | with_reducible rfl)
  try simp only [Act.put, List.setIfInBounds_toArray, List.set_cons_zero, List.set_cons_succ]
  refine wpAnyH_take (i := 41) (oi := { dst := some 94, op := Op.load 24 (Operand.tmp 2), type := 24, pos := "law.go:30", after := #[{ on := 40, ground := Ground.guard }], guard := some (40, true) }) (v := ?_) rfl (by kernel_rfl) (by kernel_rfl) (by kernel_rfl) (fun _ _ _ h => h) (Or.inl ⟨by rfl, ?_⟩) (by assumption) ?_
  rotate_left
  · (intro W hSw; go_simp; first | done | with_reducible rfl)
  try simp only [Act.put, List.setIfInBounds_toArray, List.set_cons_zero, List.set_cons_succ]
  refine wpAnyH_take (i := 42) (oi := { dst := some 95, op := Op.move (Operand.tmp 1), type := 3, pos := "law.go:30", after := #[{ on := 40, ground := Ground.guard }], guard := some (40, true) }) (v := ?_) rfl (by kernel_rfl) (by kernel_rfl) (by kernel_rfl) (fun _ _ _ h => h) (Or.inl ⟨by rfl, ?_⟩) (by assumption) ?_
  rotate_left
  · (intro W hSw; go_simp; first | done | with_reducible rfl)
  try simp only [Act.put, List.setIfInBounds_toArray, List.set_cons_zero, List.set_cons_succ]
  refine wpAnyH_take (i := 44) (oi := { dst := some 97, op := Op.move (Operand.tmp 1), type := 3, pos := "law.go:30", after := #[{ on := 40, ground := Ground.guard }], guard := some (40, true) }) (v := ?_) rfl (by kernel_rfl) (by kernel_rfl) (by kernel_rfl) (fun _ _ _ h => h) (Or.inl ⟨by rfl, ?_⟩) (by assumption) ?_
  rotate_left
  · (intro W hSw; go_simp; first | done | with_reducible rfl)
  try simp only [Act.put, List.setIfInBounds_toArray, List.set_cons_zero, List.set_cons_succ]
  refine wpAnyH_take (i := 45) (oi := { dst := some 98, op := Op.binOp BinOp.gtr 3 (Operand.tmp 97) (Operand.const (Value.int IntKind.i64 0)) 3, type := 4, pos := "law.go:30", after := #[{ on := 44, ground := Ground.data }, { on := 40, ground := Ground.guard }], guard := some (40, true) }) (v := ?_) rfl (by kernel_rfl) (by kernel_rfl) (by kernel_rfl) (fun _ _ _ h => h) (Or.inl ⟨by rfl, ?_⟩) (by assumption) ?_
  rotate_left
  · (intro W hSw; go_simp; first | done | with_reducible rfl)
  try simp only [Act.put, List.setIfInBounds_toArray, List.set_cons_zero, List.set_cons_succ]
  refine wpAnyH_ready (rs := [43]) (by kernel_rfl) (by simp) ?_
  refine AllReadyH.cons (o := { dst := some 96, op := Op.call { callee := Callee.value (Operand.func 15), args := #[Operand.tmp 94, Operand.tmp 95], argTypes := #[24, 3] }, type := 4, pos := "law.go:30", after := #[{ on := 41, ground := Ground.data }, { on := 42, ground := Ground.data }, { on := 40, ground := Ground.chain }, { on := 40, ground := Ground.guard }], guard := some (40, true) }) rfl (fun K hK => ?_) AllReadyH.nil
  go_simp
  refine (car_out _ _ HN.out _).mono ?_; rintro e w9 ⟨rfl, hB⟩; have hS9 := SC.step hB (by assumption)
  refine hK.out _ _ (by assumption) (fun hHeld => ?_)
  clear hK K
  try simp only [Act.put, List.setIfInBounds_toArray, List.set_cons_zero, List.set_cons_succ]
  refine wpAnyH_take (i := 46) (oi := { dst := some 99, op := Op.move (Operand.tmp 98), type := 4, pos := "law.go:30", after := #[{ on := 45, ground := Ground.data }, { on := 43, ground := Ground.chain }, { on := 40, ground := Ground.guard }], guard := some (40, true) }) (v := ?_) rfl (by kernel_rfl) (by kernel_rfl) (by kernel_rfl) (fun _ _ _ h => h) (Or.inl ⟨by rfl, ?_⟩) (by assumption) ?_
  rotate_left
  · (intro W hSw; go_simp; first | done | with_reducible rfl)
  try simp only [Act.put, List.setIfInBounds_toArray, List.set_cons_zero, List.set_cons_succ]
  refine wpAnyH_take (i := 47) (oi := { dst := some 100, op := Op.move (Operand.tmp 1), type := 3, pos := "law.go:30", after := #[{ on := 46, ground := Ground.guard }], guard := some (46, true) }) (v := undef) rfl (by kernel_rfl) (by kernel_rfl) (by kernel_rfl) (fun _ _ _ h => h) (Or.inr ⟨by rfl, rfl⟩) (by assumption) ?_
  try simp only [Act.put, List.setIfInBounds_toArray, List.set_cons_zero, List.set_cons_succ]
  refine wpAnyH_take (i := 48) (oi := { dst := some 101, op := Op.fieldAddr 24 (Operand.tmp 2) 1, type := 0, pos := "law.go:30", after := #[{ on := 46, ground := Ground.guard }], guard := some (46, true) }) (v := undef) rfl (by kernel_rfl) (by kernel_rfl) (by kernel_rfl) (fun _ _ _ h => h) (Or.inr ⟨by rfl, rfl⟩) (by assumption) ?_
  try simp only [Act.put, List.setIfInBounds_toArray, List.set_cons_zero, List.set_cons_succ]
  refine wpAnyH_take (i := 49) (oi := { dst := some 102, op := Op.load 3 (Operand.tmp 101), type := 3, pos := "law.go:30", after := #[{ on := 48, ground := Ground.data }, { on := 46, ground := Ground.guard }], guard := some (46, true) }) (v := undef) rfl (by kernel_rfl) (by kernel_rfl) (by kernel_rfl) (fun _ _ _ h => h) (Or.inr ⟨by rfl, rfl⟩) (by assumption) ?_
  try simp only [Act.put, List.setIfInBounds_toArray, List.set_cons_zero, List.set_cons_succ]
  refine wpAnyH_take (i := 50) (oi := { dst := some 103, op := Op.binOp BinOp.leq 3 (Operand.tmp 100) (Operand.tmp 102) 3, type := 4, pos := "law.go:30", after := #[{ on := 47, ground := Ground.data }, { on := 49, ground := Ground.data }, { on := 46, ground := Ground.guard }], guard := some (46, true) }) (v := undef) rfl (by kernel_rfl) (by kernel_rfl) (by kernel_rfl) (fun _ _ _ h => h) (Or.inr ⟨by rfl, rfl⟩) (by assumption) ?_
  try simp only [Act.put, List.setIfInBounds_toArray, List.set_cons_zero, List.set_cons_succ]
  refine wpAnyH_take (i := 51) (oi := { dst := some 104, op := Op.pick (Operand.tmp 99) (Operand.tmp 103) (Operand.const (Value.bool false)), type := 4, pos := "law.go:30", after := #[{ on := 46, ground := Ground.data }, { on := 50, ground := Ground.data }, { on := 40, ground := Ground.guard }], guard := some (40, true) }) (v := ?_) rfl (by kernel_rfl) (by kernel_rfl) (by kernel_rfl) (fun _ _ _ h => h) (Or.inl ⟨by rfl, ?_⟩) (by assumption) ?_
  rotate_left
  · (intro W hSw; go_simp; first | done | with_reducible rfl)
  try simp only [Act.put, List.setIfInBounds_toArray, List.set_cons_zero, List.set_cons_succ]
  refine wpAnyH_take (i := 52) (oi := { dst := some 105, op := Op.binOp BinOp.eql 4 (Operand.tmp 96) (Operand.tmp 104) 4, type := 4, pos := "law.go:30", after := #[{ on := 43, ground := Ground.data }, { on := 51, ground := Ground.data }, { on := 40, ground := Ground.guard }], guard := some (40, true) }) (v := ?_) rfl (by kernel_rfl) (by kernel_rfl) (by kernel_rfl) (fun _ _ _ h => h) (Or.inl ⟨by rfl, ?_⟩) (by assumption) ?_
  rotate_left
  · (intro W hSw; go_simp; first | done | with_reducible rfl)
  try simp only [Act.put, List.setIfInBounds_toArray, List.set_cons_zero, List.set_cons_succ]
  refine wpAnyH_take (i := 53) (oi := { dst := some 106, op := Op.pick (Operand.tmp 93) (Operand.tmp 105) (Operand.const (Value.bool false)), type := 4, pos := "law.go:30", after := #[{ on := 40, ground := Ground.data }, { on := 52, ground := Ground.data }], guard := none }) (v := ?_) rfl (by kernel_rfl) (by kernel_rfl) (by kernel_rfl) (fun _ _ _ h => h) (Or.inl ⟨by rfl, ?_⟩) (by assumption) ?_
  rotate_left
  · (intro W hSw; go_simp; first | done | with_reducible rfl)
  try simp only [Act.put, List.setIfInBounds_toArray, List.set_cons_zero, List.set_cons_succ]
  refine wpAnyH_take (i := 54) (oi := { dst := some 4, op := Op.assign (Operand.tmp 106), type := 4, pos := "law.go:30", after := #[{ on := 53, ground := Ground.data }, { on := 46, ground := Ground.chain }, { on := 0, ground := Ground.phase }, { on := 1, ground := Ground.phase }, { on := 2, ground := Ground.phase }, { on := 3, ground := Ground.phase }, { on := 4, ground := Ground.phase }, { on := 5, ground := Ground.phase }, { on := 6, ground := Ground.phase }, { on := 7, ground := Ground.phase }, { on := 8, ground := Ground.phase }, { on := 9, ground := Ground.phase }, { on := 10, ground := Ground.phase }, { on := 11, ground := Ground.phase }, { on := 12, ground := Ground.phase }, { on := 13, ground := Ground.phase }, { on := 14, ground := Ground.phase }, { on := 15, ground := Ground.phase }, { on := 16, ground := Ground.phase }, { on := 17, ground := Ground.phase }, { on := 18, ground := Ground.phase }, { on := 19, ground := Ground.phase }, { on := 20, ground := Ground.phase }, { on := 21, ground := Ground.phase }, { on := 22, ground := Ground.phase }, { on := 23, ground := Ground.phase }, { on := 24, ground := Ground.phase }, { on := 25, ground := Ground.phase }, { on := 26, ground := Ground.phase }, { on := 27, ground := Ground.phase }, { on := 28, ground := Ground.phase }, { on := 29, ground := Ground.phase }, { on := 30, ground := Ground.phase }, { on := 31, ground := Ground.phase }, { on := 32, ground := Ground.phase }, { on := 33, ground := Ground.phase }, { on := 34, ground := Ground.phase }, { on := 35, ground := Ground.phase }, { on := 36, ground := Ground.phase }, { on := 37, ground := Ground.phase }, { on := 38, ground := Ground.phase }, { on := 39, ground := Ground.phase }, { on := 40, ground := Ground.phase }, { on := 41, ground := Ground.phase }, { on := 42, ground := Ground.phase }, { on := 43, ground := Ground.phase }, { on := 44, ground := Ground.phase }, { on := 45, ground := Ground.phase }, { on := 46, ground := Ground.phase }, { on := 47, ground := Ground.phase }, { on := 48, ground := Ground.phase }, { on := 49, ground := Ground.phase }, { on := 50, ground := Ground.phase }, { on := 51, ground := Ground.phase }, { on := 52, ground := Ground.phase }, { on := 53, ground := Ground.phase }], guard := none }) (v := ?_) rfl (by kernel_rfl) (by kernel_rfl) (by kernel_rfl) (fun _ _ _ h => h) (Or.inl ⟨by rfl, ?_⟩) (by assumption) ?_
  rotate_left
  · (intro W hSw; go_simp; first | done | with_reducible rfl)
  try simp only [Act.put, List.setIfInBounds_toArray, List.set_cons_zero, List.set_cons_succ]
  refine wpAnyH_done (by kernel_rfl) ?_ _
  go_wp2
  go_ret
  exact ⟨rfl, (by assumption : SC c s w _).2⟩

theorem siteExact_any (c : Nat → Int) (s n : Int) (w : World) :
    Calls Try.prog 3 #[.agg (cfgCells c s), .int .i64 n] w fun e w' => e = .returned (.bool true) ∧ Below w.heap.size w w' := by
  cases h : good c
  · exact exact_no c s n w h
  · by_cases hn : 1 ≤ n
    · exact exact_in c s n w h hn
    · exact exact_out c s n w h hn
end Go.Proofs.Ytdnkdanpcbjnbaa
