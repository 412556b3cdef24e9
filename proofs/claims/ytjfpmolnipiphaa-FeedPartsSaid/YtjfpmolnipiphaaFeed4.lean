/- Layer 22: feed.hear in its five ways. No condition. -/
import Derived.Test.YtjfpmolnipiphaaFeed2
import Derived.Test.YtjfpmolnipiphaaFeed3
namespace Go.Proofs.Ytjfpmolnipiphaa
open Go.RowKit
set_option linter.unusedVariables false
set_option linter.unusedSimpArgs false
attribute [local go_sem ↓] Go.wp_at_zero Go.wp_at_succ

section
variable {w0 w : World} {L : List (Nat × TypeId × Array Value)} {R : List Ow} {gf gr room : Nat} {on : Bool} {kd n hd l : Int} {q : List (Int × (Nat → Int))}
set_option maxRecDepth 100000 in
set_option maxHeartbeats 2000000 in
theorem hear_old (h : FG w0 L R gf gr room true kd n hd l q w) (x : Nat → Int) (hx : x 0 ≤ hd) : Calls Try.prog 23 #[.pointer (some ⟨gf, 0, none⟩), .agg (CC x)] w fun e w' => e = .returned (.tuple #[]) ∧ FG w0 L R gf gr room true kd n hd l q w' := by
  have hA : RG KN w0 ((w.heap.size, 38, CC x) :: (gf, 57, FC gr true kd n hd l) :: L) R gr room q (w.alloc (.cells (CC x) 38)) := h.alloc _ _
  clear h
  go_enter Try.func23, Try.ntmps23
  go_wp2_with fail
  generalize w.alloc (.cells (CC x) 38) = wA at hA ⊢
  generalize w.heap.size = gx at hA ⊢
  have x0 : wA.cell? ⟨gx, 0, none⟩ = some (.int .i64 (x 0)) := (hA.sr.st.get 0 rfl).cell 0
  have h4 : wA.cell? ⟨gf, 4, none⟩ = some (.int .i64 hd) := (hA.sr.st.get 1 rfl).cell 4
  have f4 := (hA.sr.st.get 1 rfl).frozen 4
  have HA := Lib.hid hA
  clear hA
  go_quiet (fail)
  go_wp2_with fail
  exact bodyPost_ret (results_none rfl _ _ _) rfl ⟨rfl, (HA.out.drewN _).sub (List.sublist_cons_self _ _)⟩
set_option maxRecDepth 100000 in
set_option maxHeartbeats 2000000 in
theorem hear_lost (h : FG w0 L R gf gr room true kd n hd l q w) (x : Nat → Int) (hx : hd < x 0) (hl : 0 < l) : Calls Try.prog 23 #[.pointer (some ⟨gf, 0, none⟩), .agg (CC x)] w fun e w' => e = .returned (.tuple #[]) ∧ FG w0 L R gf gr room true kd n (x 0) l q w' := by
  have hA : RG KN w0 ((w.heap.size, 38, CC x) :: (gf, 57, FC gr true kd n hd l) :: L) R gr room q (w.alloc (.cells (CC x) 38)) := h.alloc _ _
  clear h
  have hnx : ¬ x 0 ≤ hd := by omega
  go_enter Try.func23, Try.ntmps23
  go_wp2_with fail
  generalize w.alloc (.cells (CC x) 38) = wA at hA ⊢
  generalize w.heap.size = gx at hA ⊢
  have x0 : wA.cell? ⟨gx, 0, none⟩ = some (.int .i64 (x 0)) := (hA.sr.st.get 0 rfl).cell 0
  have h4 : wA.cell? ⟨gf, 4, none⟩ = some (.int .i64 hd) := (hA.sr.st.get 1 rfl).cell 4
  have f4 := (hA.sr.st.get 1 rfl).frozen 4
  have HA := Lib.hid hA
  clear hA
  go_quiet (fail)
  go_wp2_with fail
  have hR2 : RG KN w0 ((gx, 38, CC x) :: (gf, 57, FC gr true kd n (x 0) l) :: L) R gr room q ((wA.drewN nq).setCell ⟨gf, 4, none⟩ (.int .i64 (x 0))) := (HA.out.drewN nq).setAt 1 rfl (Only.setCell _ gf 4 _) (((HA.out.drewN nq).sr.st.get 1 rfl).set_ 4 (.int .i64 (x 0)))
  generalize (wA.drewN nq).setCell ⟨gf, 4, none⟩ (.int .i64 (x 0)) = w2 at hR2 ⊢
  clear x0 h4 f4 HA
  have hS0 : St (bareW w0) [(gx, 38, CC x), (gf, 57, FC gr true kd n (x 0) l)] w2.drew := (bareN hR2.sr.st.below.os hR2.sr.st.below.tape hR2.sr.st.below.output (by have := hR2.sr.st.nodup; simp at this ⊢; omega) (by intro y hy; simp at hy; rcases hy with rfl | rfl; exact hR2.sr.st.get 0 rfl; exact hR2.sr.st.get 1 rfl)).drew
  have G0 : ∀ W, St (bareW w0) [(gx, 38, CC x), (gf, 57, FC gr true kd n (x 0) l)] W → W.cell? ⟨gf, 0, none⟩ = some (.pointer (some ⟨gr, 0, none⟩)) := St.cell 1 rfl 0 rfl
  have G2 : ∀ W, St (bareW w0) [(gx, 38, CC x), (gf, 57, FC gr true kd n (x 0) l)] W → W.cell? ⟨gf, 2, none⟩ = some (.int .i64 kd) := St.cell 1 rfl 2 rfl
  have G3 : ∀ W, St (bareW w0) [(gx, 38, CC x), (gf, 57, FC gr true kd n (x 0) l)] W → W.cell? ⟨gf, 3, none⟩ = some (.int .i64 n) := St.cell 1 rfl 3 rfl
  have G5 : ∀ W, St (bareW w0) [(gx, 38, CC x), (gf, 57, FC gr true kd n (x 0) l)] W → W.cell? ⟨gf, 5, none⟩ = some (.int .i64 l) := St.cell 1 rfl 5 rfl
  have X0 : ∀ W, St (bareW w0) [(gx, 38, CC x), (gf, 57, FC gr true kd n (x 0) l)] W → W.cell? ⟨gx, 0, none⟩ = some (.int .i64 (x 0)) := St.cell 0 rfl 0 rfl
  have XL : ∀ W, St (bareW w0) [(gx, 38, CC x), (gf, 57, FC gr true kd n (x 0) l)] W → (loadBig 38 ⟨gx, 0, none⟩).run Try.prog W = .ok (.agg (CC x)) W := St.big 0 38 _ rfl Try.underlying38 rfl (by kernel_rfl)
  have HR2 := Lib.hid hR2
  clear hR2
  refine wp_region_held_drew (S := St (bareW w0) [(gx, 38, CC x), (gf, 57, FC gr true kd n (x 0) l)]) (by kernel_rfl) hS0 (fun hHeld => ?_)
  refine wpAnyH_take (i := 0) (oi := { dst := some 16, op := Op.move (Operand.tmp 0), type := 29, pos := "feed.go:70", after := #[], guard := none }) (v := ?_) rfl (by kernel_rfl) (by kernel_rfl) (by kernel_rfl) (fun _ _ _ h => h) (Or.inl ⟨by rfl, ?_⟩) (by assumption) ?_
  rotate_left
  · (intro W hSw; go_simp; first | done | with_reducible rfl)
  try simp only [Act.put, List.setIfInBounds_toArray, List.set_cons_zero, List.set_cons_succ]
  refine wpAnyH_take (i := 1) (oi := { dst := some 17, op := Op.nilCheck (Operand.tmp 16), type := 0, pos := "feed.go:70", after := #[{ on := 0, ground := Ground.data }], guard := none }) (v := ?_) rfl (by kernel_rfl) (by kernel_rfl) (by kernel_rfl) (fun _ _ _ h => h) (Or.inl ⟨by rfl, ?_⟩) (by assumption) ?_
  rotate_left
  · (intro W hSw; go_simp; first | done | with_reducible rfl)
  try simp only [Act.put, List.setIfInBounds_toArray, List.set_cons_zero, List.set_cons_succ]
  refine wpAnyH_take (i := 2) (oi := { dst := some 18, op := Op.fieldAddr 57 (Operand.tmp 17) 4, type := 0, pos := "feed.go:70", after := #[{ on := 1, ground := Ground.data }], guard := none }) (v := ?_) rfl (by kernel_rfl) (by kernel_rfl) (by kernel_rfl) (fun _ _ _ h => h) (Or.inl ⟨by rfl, ?_⟩) (by assumption) ?_
  rotate_left
  · (intro W hSw; go_simp; first | done | with_reducible rfl)
  try simp only [Act.put, List.setIfInBounds_toArray, List.set_cons_zero, List.set_cons_succ]
  refine wpAnyH_take (i := 3) (oi := { dst := some 19, op := Op.load 3 (Operand.tmp 18), type := 3, pos := "feed.go:70", after := #[{ on := 2, ground := Ground.data }], guard := none }) (v := ?_) rfl (by kernel_rfl) (by kernel_rfl) (by kernel_rfl) (fun _ _ _ h => h) (Or.inl ⟨by rfl, ?_⟩) (by assumption) ?_
  rotate_left
  · (intro W hSw; go_simp; first | done | with_reducible rfl)
  try simp only [Act.put, List.setIfInBounds_toArray, List.set_cons_zero, List.set_cons_succ]
  refine wpAnyH_take (i := 4) (oi := { dst := some 20, op := Op.binOp BinOp.gtr 3 (Operand.tmp 19) (Operand.const (Value.int IntKind.i64 0)) 3, type := 4, pos := "feed.go:70", after := #[{ on := 3, ground := Ground.data }], guard := none }) (v := ?_) rfl (by kernel_rfl) (by kernel_rfl) (by kernel_rfl) (fun _ _ _ h => h) (Or.inl ⟨by rfl, ?_⟩) (by assumption) ?_
  rotate_left
  · (intro W hSw; go_simp; first | done | with_reducible rfl)
  try simp only [Act.put, List.setIfInBounds_toArray, List.set_cons_zero, List.set_cons_succ]
  refine wpAnyH_take (i := 5) (oi := { dst := some 21, op := Op.move (Operand.tmp 20), type := 4, pos := "feed.go:70", after := #[{ on := 4, ground := Ground.data }], guard := none }) (v := ?_) rfl (by kernel_rfl) (by kernel_rfl) (by kernel_rfl) (fun _ _ _ h => h) (Or.inl ⟨by rfl, ?_⟩) (by assumption) ?_
  rotate_left
  · (intro W hSw; go_simp; first | done | with_reducible rfl)
  try simp only [Act.put, List.setIfInBounds_toArray, List.set_cons_zero, List.set_cons_succ]
  refine wpAnyH_take (i := 6) (oi := { dst := some 22, op := Op.move (Operand.tmp 0), type := 29, pos := "feed.go:70", after := #[{ on := 5, ground := Ground.guard }], guard := some (5, false) }) (v := undef) rfl (by kernel_rfl) (by kernel_rfl) (by kernel_rfl) (fun _ _ _ h => h) (Or.inr ⟨by rfl, rfl⟩) (by assumption) ?_
  try simp only [Act.put, List.setIfInBounds_toArray, List.set_cons_zero, List.set_cons_succ]
  refine wpAnyH_take (i := 7) (oi := { dst := some 23, op := Op.nilCheck (Operand.tmp 22), type := 0, pos := "feed.go:70", after := #[{ on := 6, ground := Ground.data }, { on := 5, ground := Ground.guard }], guard := some (5, false) }) (v := undef) rfl (by kernel_rfl) (by kernel_rfl) (by kernel_rfl) (fun _ _ _ h => h) (Or.inr ⟨by rfl, rfl⟩) (by assumption) ?_
  try simp only [Act.put, List.setIfInBounds_toArray, List.set_cons_zero, List.set_cons_succ]
  refine wpAnyH_take (i := 8) (oi := { dst := some 24, op := Op.fieldAddr 57 (Operand.tmp 23) 2, type := 0, pos := "feed.go:70", after := #[{ on := 7, ground := Ground.data }, { on := 5, ground := Ground.guard }], guard := some (5, false) }) (v := undef) rfl (by kernel_rfl) (by kernel_rfl) (by kernel_rfl) (fun _ _ _ h => h) (Or.inr ⟨by rfl, rfl⟩) (by assumption) ?_
  try simp only [Act.put, List.setIfInBounds_toArray, List.set_cons_zero, List.set_cons_succ]
  refine wpAnyH_take (i := 9) (oi := { dst := some 25, op := Op.load 26 (Operand.tmp 24), type := 26, pos := "feed.go:70", after := #[{ on := 8, ground := Ground.data }, { on := 5, ground := Ground.guard }], guard := some (5, false) }) (v := undef) rfl (by kernel_rfl) (by kernel_rfl) (by kernel_rfl) (fun _ _ _ h => h) (Or.inr ⟨by rfl, rfl⟩) (by assumption) ?_
  try simp only [Act.put, List.setIfInBounds_toArray, List.set_cons_zero, List.set_cons_succ]
  refine wpAnyH_take (i := 10) (oi := { dst := some 26, op := Op.load 38 (Operand.tmp 3), type := 38, pos := "feed.go:70", after := #[{ on := 5, ground := Ground.guard }], guard := some (5, false) }) (v := undef) rfl (by kernel_rfl) (by kernel_rfl) (by kernel_rfl) (fun _ _ _ h => h) (Or.inr ⟨by rfl, rfl⟩) (by assumption) ?_
  try simp only [Act.put, List.setIfInBounds_toArray, List.set_cons_zero, List.set_cons_succ]
  refine wpAnyH_take (i := 11) (oi := { dst := some 27, op := Op.call { callee := Callee.value (Operand.func 29), args := #[Operand.tmp 25, Operand.tmp 26], argTypes := #[26, 38] }, type := 4, pos := "feed.go:70", after := #[{ on := 9, ground := Ground.data }, { on := 10, ground := Ground.data }, { on := 5, ground := Ground.chain }, { on := 5, ground := Ground.guard }], guard := some (5, false) }) (v := undef) rfl (by kernel_rfl) (by kernel_rfl) (by kernel_rfl) (fun _ _ _ h => h) (Or.inr ⟨by rfl, rfl⟩) (by assumption) ?_
  try simp only [Act.put, List.setIfInBounds_toArray, List.set_cons_zero, List.set_cons_succ]
  refine wpAnyH_take (i := 12) (oi := { dst := some 28, op := Op.unOp UnOp.not 4 (Operand.tmp 27), type := 4, pos := "feed.go:70", after := #[{ on := 11, ground := Ground.data }, { on := 5, ground := Ground.guard }], guard := some (5, false) }) (v := undef) rfl (by kernel_rfl) (by kernel_rfl) (by kernel_rfl) (fun _ _ _ h => h) (Or.inr ⟨by rfl, rfl⟩) (by assumption) ?_
  try simp only [Act.put, List.setIfInBounds_toArray, List.set_cons_zero, List.set_cons_succ]
  refine wpAnyH_take (i := 13) (oi := { dst := some 29, op := Op.pick (Operand.tmp 21) (Operand.const (Value.bool true)) (Operand.tmp 28), type := 4, pos := "feed.go:70", after := #[{ on := 5, ground := Ground.data }, { on := 12, ground := Ground.data }], guard := none }) (v := ?_) rfl (by kernel_rfl) (by kernel_rfl) (by kernel_rfl) (fun _ _ _ h => h) (Or.inl ⟨by rfl, ?_⟩) (by assumption) ?_
  rotate_left
  · (intro W hSw; go_simp; first | done | with_reducible rfl)
  try simp only [Act.put, List.setIfInBounds_toArray, List.set_cons_zero, List.set_cons_succ]
  refine wpAnyH_done (by kernel_rfl) ?_ _
  go_wp2_with fail
  exact bodyPost_ret (results_none rfl _ _ _) rfl ⟨rfl, (HR2.out.drewN 1).sub (List.sublist_cons_self _ _)⟩
set_option maxRecDepth 100000 in
set_option maxHeartbeats 2000000 in
theorem hear_no (h : FG w0 L R gf gr room true kd n hd 0 q w) (x : Nat → Int) (hx : hd < x 0) (hp : passV kd n x = false) : Calls Try.prog 23 #[.pointer (some ⟨gf, 0, none⟩), .agg (CC x)] w fun e w' => e = .returned (.tuple #[]) ∧ FG w0 L R gf gr room true kd n (x 0) 0 q w' := by
  have hA : RG KN w0 ((w.heap.size, 38, CC x) :: (gf, 57, FC gr true kd n hd 0) :: L) R gr room q (w.alloc (.cells (CC x) 38)) := h.alloc _ _
  clear h
  have hnx : ¬ x 0 ≤ hd := by omega
  have HP := Lib.hid hp
  clear hp
  go_enter Try.func23, Try.ntmps23
  go_wp2_with fail
  generalize w.alloc (.cells (CC x) 38) = wA at hA ⊢
  generalize w.heap.size = gx at hA ⊢
  have x0 : wA.cell? ⟨gx, 0, none⟩ = some (.int .i64 (x 0)) := (hA.sr.st.get 0 rfl).cell 0
  have h4 : wA.cell? ⟨gf, 4, none⟩ = some (.int .i64 hd) := (hA.sr.st.get 1 rfl).cell 4
  have f4 := (hA.sr.st.get 1 rfl).frozen 4
  have HA := Lib.hid hA
  clear hA
  go_quiet (fail)
  go_wp2_with fail
  have hR2 : RG KN w0 ((gx, 38, CC x) :: (gf, 57, FC gr true kd n (x 0) 0) :: L) R gr room q ((wA.drewN nq).setCell ⟨gf, 4, none⟩ (.int .i64 (x 0))) := (HA.out.drewN nq).setAt 1 rfl (Only.setCell _ gf 4 _) (((HA.out.drewN nq).sr.st.get 1 rfl).set_ 4 (.int .i64 (x 0)))
  generalize (wA.drewN nq).setCell ⟨gf, 4, none⟩ (.int .i64 (x 0)) = w2 at hR2 ⊢
  clear x0 h4 f4 HA
  have hS0 : St (bareW w0) [(gx, 38, CC x), (gf, 57, FC gr true kd n (x 0) 0)] w2.drew := (bareN hR2.sr.st.below.os hR2.sr.st.below.tape hR2.sr.st.below.output (by have := hR2.sr.st.nodup; simp at this ⊢; omega) (by intro y hy; simp at hy; rcases hy with rfl | rfl; exact hR2.sr.st.get 0 rfl; exact hR2.sr.st.get 1 rfl)).drew
  have G0 : ∀ W, St (bareW w0) [(gx, 38, CC x), (gf, 57, FC gr true kd n (x 0) 0)] W → W.cell? ⟨gf, 0, none⟩ = some (.pointer (some ⟨gr, 0, none⟩)) := St.cell 1 rfl 0 rfl
  have G2 : ∀ W, St (bareW w0) [(gx, 38, CC x), (gf, 57, FC gr true kd n (x 0) 0)] W → W.cell? ⟨gf, 2, none⟩ = some (.int .i64 kd) := St.cell 1 rfl 2 rfl
  have G3 : ∀ W, St (bareW w0) [(gx, 38, CC x), (gf, 57, FC gr true kd n (x 0) 0)] W → W.cell? ⟨gf, 3, none⟩ = some (.int .i64 n) := St.cell 1 rfl 3 rfl
  have G5 : ∀ W, St (bareW w0) [(gx, 38, CC x), (gf, 57, FC gr true kd n (x 0) 0)] W → W.cell? ⟨gf, 5, none⟩ = some (.int .i64 0) := St.cell 1 rfl 5 rfl
  have X0 : ∀ W, St (bareW w0) [(gx, 38, CC x), (gf, 57, FC gr true kd n (x 0) 0)] W → W.cell? ⟨gx, 0, none⟩ = some (.int .i64 (x 0)) := St.cell 0 rfl 0 rfl
  have XL : ∀ W, St (bareW w0) [(gx, 38, CC x), (gf, 57, FC gr true kd n (x 0) 0)] W → (loadBig 38 ⟨gx, 0, none⟩).run Try.prog W = .ok (.agg (CC x)) W := St.big 0 38 _ rfl Try.underlying38 rfl (by kernel_rfl)
  have HR2 := Lib.hid hR2
  clear hR2
  refine wp_region_held_drew (S := St (bareW w0) [(gx, 38, CC x), (gf, 57, FC gr true kd n (x 0) 0)]) (by kernel_rfl) hS0 (fun hHeld => ?_)
  refine wpAnyH_take (i := 0) (oi := { dst := some 16, op := Op.move (Operand.tmp 0), type := 29, pos := "feed.go:70", after := #[], guard := none }) (v := ?_) rfl (by kernel_rfl) (by kernel_rfl) (by kernel_rfl) (fun _ _ _ h => h) (Or.inl ⟨by rfl, ?_⟩) (by assumption) ?_
  rotate_left
  · (intro W hSw; go_simp; first | done | with_reducible rfl)
  try simp only [Act.put, List.setIfInBounds_toArray, List.set_cons_zero, List.set_cons_succ]
  refine wpAnyH_take (i := 1) (oi := { dst := some 17, op := Op.nilCheck (Operand.tmp 16), type := 0, pos := "feed.go:70", after := #[{ on := 0, ground := Ground.data }], guard := none }) (v := ?_) rfl (by kernel_rfl) (by kernel_rfl) (by kernel_rfl) (fun _ _ _ h => h) (Or.inl ⟨by rfl, ?_⟩) (by assumption) ?_
  rotate_left
  · (intro W hSw; go_simp; first | done | with_reducible rfl)
  try simp only [Act.put, List.setIfInBounds_toArray, List.set_cons_zero, List.set_cons_succ]
  refine wpAnyH_take (i := 2) (oi := { dst := some 18, op := Op.fieldAddr 57 (Operand.tmp 17) 4, type := 0, pos := "feed.go:70", after := #[{ on := 1, ground := Ground.data }], guard := none }) (v := ?_) rfl (by kernel_rfl) (by kernel_rfl) (by kernel_rfl) (fun _ _ _ h => h) (Or.inl ⟨by rfl, ?_⟩) (by assumption) ?_
  rotate_left
  · (intro W hSw; go_simp; first | done | with_reducible rfl)
  try simp only [Act.put, List.setIfInBounds_toArray, List.set_cons_zero, List.set_cons_succ]
  refine wpAnyH_take (i := 3) (oi := { dst := some 19, op := Op.load 3 (Operand.tmp 18), type := 3, pos := "feed.go:70", after := #[{ on := 2, ground := Ground.data }], guard := none }) (v := ?_) rfl (by kernel_rfl) (by kernel_rfl) (by kernel_rfl) (fun _ _ _ h => h) (Or.inl ⟨by rfl, ?_⟩) (by assumption) ?_
  rotate_left
  · (intro W hSw; go_simp; first | done | with_reducible rfl)
  try simp only [Act.put, List.setIfInBounds_toArray, List.set_cons_zero, List.set_cons_succ]
  refine wpAnyH_take (i := 4) (oi := { dst := some 20, op := Op.binOp BinOp.gtr 3 (Operand.tmp 19) (Operand.const (Value.int IntKind.i64 0)) 3, type := 4, pos := "feed.go:70", after := #[{ on := 3, ground := Ground.data }], guard := none }) (v := ?_) rfl (by kernel_rfl) (by kernel_rfl) (by kernel_rfl) (fun _ _ _ h => h) (Or.inl ⟨by rfl, ?_⟩) (by assumption) ?_
  rotate_left
  · (intro W hSw; go_simp; first | done | with_reducible rfl)
  try simp only [Act.put, List.setIfInBounds_toArray, List.set_cons_zero, List.set_cons_succ]
  refine wpAnyH_take (i := 5) (oi := { dst := some 21, op := Op.move (Operand.tmp 20), type := 4, pos := "feed.go:70", after := #[{ on := 4, ground := Ground.data }], guard := none }) (v := ?_) rfl (by kernel_rfl) (by kernel_rfl) (by kernel_rfl) (fun _ _ _ h => h) (Or.inl ⟨by rfl, ?_⟩) (by assumption) ?_
  rotate_left
  · (intro W hSw; go_simp; first | done | with_reducible rfl)
  try simp only [Act.put, List.setIfInBounds_toArray, List.set_cons_zero, List.set_cons_succ]
  refine wpAnyH_take (i := 6) (oi := { dst := some 22, op := Op.move (Operand.tmp 0), type := 29, pos := "feed.go:70", after := #[{ on := 5, ground := Ground.guard }], guard := some (5, false) }) (v := ?_) rfl (by kernel_rfl) (by kernel_rfl) (by kernel_rfl) (fun _ _ _ h => h) (Or.inl ⟨by rfl, ?_⟩) (by assumption) ?_
  rotate_left
  · (intro W hSw; go_simp; first | done | with_reducible rfl)
  try simp only [Act.put, List.setIfInBounds_toArray, List.set_cons_zero, List.set_cons_succ]
  refine wpAnyH_take (i := 7) (oi := { dst := some 23, op := Op.nilCheck (Operand.tmp 22), type := 0, pos := "feed.go:70", after := #[{ on := 6, ground := Ground.data }, { on := 5, ground := Ground.guard }], guard := some (5, false) }) (v := ?_) rfl (by kernel_rfl) (by kernel_rfl) (by kernel_rfl) (fun _ _ _ h => h) (Or.inl ⟨by rfl, ?_⟩) (by assumption) ?_
  rotate_left
  · (intro W hSw; go_simp; first | done | with_reducible rfl)
  try simp only [Act.put, List.setIfInBounds_toArray, List.set_cons_zero, List.set_cons_succ]
  refine wpAnyH_take (i := 8) (oi := { dst := some 24, op := Op.fieldAddr 57 (Operand.tmp 23) 2, type := 0, pos := "feed.go:70", after := #[{ on := 7, ground := Ground.data }, { on := 5, ground := Ground.guard }], guard := some (5, false) }) (v := ?_) rfl (by kernel_rfl) (by kernel_rfl) (by kernel_rfl) (fun _ _ _ h => h) (Or.inl ⟨by rfl, ?_⟩) (by assumption) ?_
  rotate_left
  · (intro W hSw; go_simp; first | done | with_reducible rfl)
  try simp only [Act.put, List.setIfInBounds_toArray, List.set_cons_zero, List.set_cons_succ]
  refine wpAnyH_take (i := 9) (oi := { dst := some 25, op := Op.load 26 (Operand.tmp 24), type := 26, pos := "feed.go:70", after := #[{ on := 8, ground := Ground.data }, { on := 5, ground := Ground.guard }], guard := some (5, false) }) (v := ?_) rfl (by kernel_rfl) (by kernel_rfl) (by kernel_rfl) (fun _ _ _ h => h) (Or.inl ⟨by rfl, ?_⟩) (by assumption) ?_
  rotate_left
  · (intro W hSw; go_simp; first | done | with_reducible rfl)
  try simp only [Act.put, List.setIfInBounds_toArray, List.set_cons_zero, List.set_cons_succ]
  refine wpAnyH_take (i := 10) (oi := { dst := some 26, op := Op.load 38 (Operand.tmp 3), type := 38, pos := "feed.go:70", after := #[{ on := 5, ground := Ground.guard }], guard := some (5, false) }) (v := ?_) rfl (by kernel_rfl) (by kernel_rfl) (by kernel_rfl) (fun _ _ _ h => h) (Or.inl ⟨by rfl, ?_⟩) (by assumption) ?_
  rotate_left
  · (intro W hSw; go_simp; first | done | with_reducible rfl)
  try simp only [Act.put, List.setIfInBounds_toArray, List.set_cons_zero, List.set_cons_succ]
  refine wpAnyH_ready (rs := [11]) (by kernel_rfl) (by simp) ?_
  refine AllReadyH.cons (o := { dst := some 27, op := Op.call { callee := Callee.value (Operand.func 29), args := #[Operand.tmp 25, Operand.tmp 26], argTypes := #[26, 38] }, type := 4, pos := "feed.go:70", after := #[{ on := 9, ground := Ground.data }, { on := 10, ground := Ground.data }, { on := 5, ground := Ground.chain }, { on := 5, ground := Ground.guard }], guard := some (5, false) }) rfl (fun K hK => ?_) AllReadyH.nil
  go_simp
  refine (pass_any _ _ _ _).mono ?_; rintro e w3 ⟨rfl, hB3⟩; rw [HP.out]; have hS3 := St.step hHeld hB3; have hR3 := (HR2.out.drewN 1).step hB3; have HR3 := Lib.hid hR3; clear hR3 hB3
  refine hK.out _ _ (by assumption) (fun hHeld => ?_)
  clear hK K
  try simp only [Act.put, List.setIfInBounds_toArray, List.set_cons_zero, List.set_cons_succ]
  refine wpAnyH_take (i := 12) (oi := { dst := some 28, op := Op.unOp UnOp.not 4 (Operand.tmp 27), type := 4, pos := "feed.go:70", after := #[{ on := 11, ground := Ground.data }, { on := 5, ground := Ground.guard }], guard := some (5, false) }) (v := ?_) rfl (by kernel_rfl) (by kernel_rfl) (by kernel_rfl) (fun _ _ _ h => h) (Or.inl ⟨by rfl, ?_⟩) (by assumption) ?_
  rotate_left
  · (intro W hSw; go_simp; first | done | with_reducible rfl)
  try simp only [Act.put, List.setIfInBounds_toArray, List.set_cons_zero, List.set_cons_succ]
  refine wpAnyH_take (i := 13) (oi := { dst := some 29, op := Op.pick (Operand.tmp 21) (Operand.const (Value.bool true)) (Operand.tmp 28), type := 4, pos := "feed.go:70", after := #[{ on := 5, ground := Ground.data }, { on := 12, ground := Ground.data }], guard := none }) (v := ?_) rfl (by kernel_rfl) (by kernel_rfl) (by kernel_rfl) (fun _ _ _ h => h) (Or.inl ⟨by rfl, ?_⟩) (by assumption) ?_
  rotate_left
  · (intro W hSw; go_simp; first | done | with_reducible rfl)
  try simp only [Act.put, List.setIfInBounds_toArray, List.set_cons_zero, List.set_cons_succ]
  refine wpAnyH_done (by kernel_rfl) ?_ _
  go_wp2_with fail
  exact bodyPost_ret (results_none rfl _ _ _) rfl ⟨rfl, HR3.out.sub (List.sublist_cons_self _ _)⟩
set_option maxRecDepth 100000 in
set_option maxHeartbeats 2000000 in
theorem hear_push (h : FG w0 L R gf gr room true kd n hd 0 q w) (x : Nat → Int) (hx : hd < x 0) (hp : passV kd n x = true) (hq : q.length < room) : Calls Try.prog 23 #[.pointer (some ⟨gf, 0, none⟩), .agg (CC x)] w fun e w' => e = .returned (.tuple #[]) ∧ FG w0 L R gf gr room true kd n (x 0) 0 (q ++ [(x 0, x)]) w' := by
  have hA : RG KN w0 ((w.heap.size, 38, CC x) :: (gf, 57, FC gr true kd n hd 0) :: L) R gr room q (w.alloc (.cells (CC x) 38)) := h.alloc _ _
  clear h
  have HQ := Lib.hid hq
  clear hq
  have hnx : ¬ x 0 ≤ hd := by omega
  have HP := Lib.hid hp
  clear hp
  go_enter Try.func23, Try.ntmps23
  go_wp2_with fail
  generalize w.alloc (.cells (CC x) 38) = wA at hA ⊢
  generalize w.heap.size = gx at hA ⊢
  have x0 : wA.cell? ⟨gx, 0, none⟩ = some (.int .i64 (x 0)) := (hA.sr.st.get 0 rfl).cell 0
  have h4 : wA.cell? ⟨gf, 4, none⟩ = some (.int .i64 hd) := (hA.sr.st.get 1 rfl).cell 4
  have f4 := (hA.sr.st.get 1 rfl).frozen 4
  have HA := Lib.hid hA
  clear hA
  go_quiet (fail)
  go_wp2_with fail
  have hR2 : RG KN w0 ((gx, 38, CC x) :: (gf, 57, FC gr true kd n (x 0) 0) :: L) R gr room q ((wA.drewN nq).setCell ⟨gf, 4, none⟩ (.int .i64 (x 0))) := (HA.out.drewN nq).setAt 1 rfl (Only.setCell _ gf 4 _) (((HA.out.drewN nq).sr.st.get 1 rfl).set_ 4 (.int .i64 (x 0)))
  generalize (wA.drewN nq).setCell ⟨gf, 4, none⟩ (.int .i64 (x 0)) = w2 at hR2 ⊢
  clear x0 h4 f4 HA
  have hS0 : St (bareW w0) [(gx, 38, CC x), (gf, 57, FC gr true kd n (x 0) 0)] w2.drew := (bareN hR2.sr.st.below.os hR2.sr.st.below.tape hR2.sr.st.below.output (by have := hR2.sr.st.nodup; simp at this ⊢; omega) (by intro y hy; simp at hy; rcases hy with rfl | rfl; exact hR2.sr.st.get 0 rfl; exact hR2.sr.st.get 1 rfl)).drew
  have G0 : ∀ W, St (bareW w0) [(gx, 38, CC x), (gf, 57, FC gr true kd n (x 0) 0)] W → W.cell? ⟨gf, 0, none⟩ = some (.pointer (some ⟨gr, 0, none⟩)) := St.cell 1 rfl 0 rfl
  have G2 : ∀ W, St (bareW w0) [(gx, 38, CC x), (gf, 57, FC gr true kd n (x 0) 0)] W → W.cell? ⟨gf, 2, none⟩ = some (.int .i64 kd) := St.cell 1 rfl 2 rfl
  have G3 : ∀ W, St (bareW w0) [(gx, 38, CC x), (gf, 57, FC gr true kd n (x 0) 0)] W → W.cell? ⟨gf, 3, none⟩ = some (.int .i64 n) := St.cell 1 rfl 3 rfl
  have G5 : ∀ W, St (bareW w0) [(gx, 38, CC x), (gf, 57, FC gr true kd n (x 0) 0)] W → W.cell? ⟨gf, 5, none⟩ = some (.int .i64 0) := St.cell 1 rfl 5 rfl
  have X0 : ∀ W, St (bareW w0) [(gx, 38, CC x), (gf, 57, FC gr true kd n (x 0) 0)] W → W.cell? ⟨gx, 0, none⟩ = some (.int .i64 (x 0)) := St.cell 0 rfl 0 rfl
  have XL : ∀ W, St (bareW w0) [(gx, 38, CC x), (gf, 57, FC gr true kd n (x 0) 0)] W → (loadBig 38 ⟨gx, 0, none⟩).run Try.prog W = .ok (.agg (CC x)) W := St.big 0 38 _ rfl Try.underlying38 rfl (by kernel_rfl)
  have HR2 := Lib.hid hR2
  clear hR2
  refine wp_region_held_drew (S := St (bareW w0) [(gx, 38, CC x), (gf, 57, FC gr true kd n (x 0) 0)]) (by kernel_rfl) hS0 (fun hHeld => ?_)
  refine wpAnyH_take (i := 0) (oi := { dst := some 16, op := Op.move (Operand.tmp 0), type := 29, pos := "feed.go:70", after := #[], guard := none }) (v := ?_) rfl (by kernel_rfl) (by kernel_rfl) (by kernel_rfl) (fun _ _ _ h => h) (Or.inl ⟨by rfl, ?_⟩) (by assumption) ?_
  rotate_left
  · (intro W hSw; go_simp; first | done | with_reducible rfl)
  try simp only [Act.put, List.setIfInBounds_toArray, List.set_cons_zero, List.set_cons_succ]
  refine wpAnyH_take (i := 1) (oi := { dst := some 17, op := Op.nilCheck (Operand.tmp 16), type := 0, pos := "feed.go:70", after := #[{ on := 0, ground := Ground.data }], guard := none }) (v := ?_) rfl (by kernel_rfl) (by kernel_rfl) (by kernel_rfl) (fun _ _ _ h => h) (Or.inl ⟨by rfl, ?_⟩) (by assumption) ?_
  rotate_left
  · (intro W hSw; go_simp; first | done | with_reducible rfl)
  try simp only [Act.put, List.setIfInBounds_toArray, List.set_cons_zero, List.set_cons_succ]
  refine wpAnyH_take (i := 2) (oi := { dst := some 18, op := Op.fieldAddr 57 (Operand.tmp 17) 4, type := 0, pos := "feed.go:70", after := #[{ on := 1, ground := Ground.data }], guard := none }) (v := ?_) rfl (by kernel_rfl) (by kernel_rfl) (by kernel_rfl) (fun _ _ _ h => h) (Or.inl ⟨by rfl, ?_⟩) (by assumption) ?_
  rotate_left
  · (intro W hSw; go_simp; first | done | with_reducible rfl)
  try simp only [Act.put, List.setIfInBounds_toArray, List.set_cons_zero, List.set_cons_succ]
  refine wpAnyH_take (i := 3) (oi := { dst := some 19, op := Op.load 3 (Operand.tmp 18), type := 3, pos := "feed.go:70", after := #[{ on := 2, ground := Ground.data }], guard := none }) (v := ?_) rfl (by kernel_rfl) (by kernel_rfl) (by kernel_rfl) (fun _ _ _ h => h) (Or.inl ⟨by rfl, ?_⟩) (by assumption) ?_
  rotate_left
  · (intro W hSw; go_simp; first | done | with_reducible rfl)
  try simp only [Act.put, List.setIfInBounds_toArray, List.set_cons_zero, List.set_cons_succ]
  refine wpAnyH_take (i := 4) (oi := { dst := some 20, op := Op.binOp BinOp.gtr 3 (Operand.tmp 19) (Operand.const (Value.int IntKind.i64 0)) 3, type := 4, pos := "feed.go:70", after := #[{ on := 3, ground := Ground.data }], guard := none }) (v := ?_) rfl (by kernel_rfl) (by kernel_rfl) (by kernel_rfl) (fun _ _ _ h => h) (Or.inl ⟨by rfl, ?_⟩) (by assumption) ?_
  rotate_left
  · (intro W hSw; go_simp; first | done | with_reducible rfl)
  try simp only [Act.put, List.setIfInBounds_toArray, List.set_cons_zero, List.set_cons_succ]
  refine wpAnyH_take (i := 5) (oi := { dst := some 21, op := Op.move (Operand.tmp 20), type := 4, pos := "feed.go:70", after := #[{ on := 4, ground := Ground.data }], guard := none }) (v := ?_) rfl (by kernel_rfl) (by kernel_rfl) (by kernel_rfl) (fun _ _ _ h => h) (Or.inl ⟨by rfl, ?_⟩) (by assumption) ?_
  rotate_left
  · (intro W hSw; go_simp; first | done | with_reducible rfl)
  try simp only [Act.put, List.setIfInBounds_toArray, List.set_cons_zero, List.set_cons_succ]
  refine wpAnyH_take (i := 6) (oi := { dst := some 22, op := Op.move (Operand.tmp 0), type := 29, pos := "feed.go:70", after := #[{ on := 5, ground := Ground.guard }], guard := some (5, false) }) (v := ?_) rfl (by kernel_rfl) (by kernel_rfl) (by kernel_rfl) (fun _ _ _ h => h) (Or.inl ⟨by rfl, ?_⟩) (by assumption) ?_
  rotate_left
  · (intro W hSw; go_simp; first | done | with_reducible rfl)
  try simp only [Act.put, List.setIfInBounds_toArray, List.set_cons_zero, List.set_cons_succ]
  refine wpAnyH_take (i := 7) (oi := { dst := some 23, op := Op.nilCheck (Operand.tmp 22), type := 0, pos := "feed.go:70", after := #[{ on := 6, ground := Ground.data }, { on := 5, ground := Ground.guard }], guard := some (5, false) }) (v := ?_) rfl (by kernel_rfl) (by kernel_rfl) (by kernel_rfl) (fun _ _ _ h => h) (Or.inl ⟨by rfl, ?_⟩) (by assumption) ?_
  rotate_left
  · (intro W hSw; go_simp; first | done | with_reducible rfl)
  try simp only [Act.put, List.setIfInBounds_toArray, List.set_cons_zero, List.set_cons_succ]
  refine wpAnyH_take (i := 8) (oi := { dst := some 24, op := Op.fieldAddr 57 (Operand.tmp 23) 2, type := 0, pos := "feed.go:70", after := #[{ on := 7, ground := Ground.data }, { on := 5, ground := Ground.guard }], guard := some (5, false) }) (v := ?_) rfl (by kernel_rfl) (by kernel_rfl) (by kernel_rfl) (fun _ _ _ h => h) (Or.inl ⟨by rfl, ?_⟩) (by assumption) ?_
  rotate_left
  · (intro W hSw; go_simp; first | done | with_reducible rfl)
  try simp only [Act.put, List.setIfInBounds_toArray, List.set_cons_zero, List.set_cons_succ]
  refine wpAnyH_take (i := 9) (oi := { dst := some 25, op := Op.load 26 (Operand.tmp 24), type := 26, pos := "feed.go:70", after := #[{ on := 8, ground := Ground.data }, { on := 5, ground := Ground.guard }], guard := some (5, false) }) (v := ?_) rfl (by kernel_rfl) (by kernel_rfl) (by kernel_rfl) (fun _ _ _ h => h) (Or.inl ⟨by rfl, ?_⟩) (by assumption) ?_
  rotate_left
  · (intro W hSw; go_simp; first | done | with_reducible rfl)
  try simp only [Act.put, List.setIfInBounds_toArray, List.set_cons_zero, List.set_cons_succ]
  refine wpAnyH_take (i := 10) (oi := { dst := some 26, op := Op.load 38 (Operand.tmp 3), type := 38, pos := "feed.go:70", after := #[{ on := 5, ground := Ground.guard }], guard := some (5, false) }) (v := ?_) rfl (by kernel_rfl) (by kernel_rfl) (by kernel_rfl) (fun _ _ _ h => h) (Or.inl ⟨by rfl, ?_⟩) (by assumption) ?_
  rotate_left
  · (intro W hSw; go_simp; first | done | with_reducible rfl)
  try simp only [Act.put, List.setIfInBounds_toArray, List.set_cons_zero, List.set_cons_succ]
  refine wpAnyH_ready (rs := [11]) (by kernel_rfl) (by simp) ?_
  refine AllReadyH.cons (o := { dst := some 27, op := Op.call { callee := Callee.value (Operand.func 29), args := #[Operand.tmp 25, Operand.tmp 26], argTypes := #[26, 38] }, type := 4, pos := "feed.go:70", after := #[{ on := 9, ground := Ground.data }, { on := 10, ground := Ground.data }, { on := 5, ground := Ground.chain }, { on := 5, ground := Ground.guard }], guard := some (5, false) }) rfl (fun K hK => ?_) AllReadyH.nil
  go_simp
  refine (pass_any _ _ _ _).mono ?_; rintro e w3 ⟨rfl, hB3⟩; rw [HP.out]; have hS3 := St.step hHeld hB3; have hR3 := (HR2.out.drewN 1).step hB3; have HR3 := Lib.hid hR3; clear hR3 hB3
  refine hK.out _ _ (by assumption) (fun hHeld => ?_)
  clear hK K
  try simp only [Act.put, List.setIfInBounds_toArray, List.set_cons_zero, List.set_cons_succ]
  refine wpAnyH_take (i := 12) (oi := { dst := some 28, op := Op.unOp UnOp.not 4 (Operand.tmp 27), type := 4, pos := "feed.go:70", after := #[{ on := 11, ground := Ground.data }, { on := 5, ground := Ground.guard }], guard := some (5, false) }) (v := ?_) rfl (by kernel_rfl) (by kernel_rfl) (by kernel_rfl) (fun _ _ _ h => h) (Or.inl ⟨by rfl, ?_⟩) (by assumption) ?_
  rotate_left
  · (intro W hSw; go_simp; first | done | with_reducible rfl)
  try simp only [Act.put, List.setIfInBounds_toArray, List.set_cons_zero, List.set_cons_succ]
  refine wpAnyH_take (i := 13) (oi := { dst := some 29, op := Op.pick (Operand.tmp 21) (Operand.const (Value.bool true)) (Operand.tmp 28), type := 4, pos := "feed.go:70", after := #[{ on := 5, ground := Ground.data }, { on := 12, ground := Ground.data }], guard := none }) (v := ?_) rfl (by kernel_rfl) (by kernel_rfl) (by kernel_rfl) (fun _ _ _ h => h) (Or.inl ⟨by rfl, ?_⟩) (by assumption) ?_
  rotate_left
  · (intro W hSw; go_simp; first | done | with_reducible rfl)
  try simp only [Act.put, List.setIfInBounds_toArray, List.set_cons_zero, List.set_cons_succ]
  refine wpAnyH_done (by kernel_rfl) ?_ _
  go_wp2_with fail
  have hS4 := hS3.drew
  refine wp_region_held_drew (S := St (bareW w0) [(gx, 38, CC x), (gf, 57, FC gr true kd n (x 0) 0)]) (by kernel_rfl) hS4 (fun hHeld => ?_)
  refine wpAnyH_take (i := 0) (oi := { dst := some 30, op := Op.move (Operand.tmp 0), type := 29, pos := "feed.go:73", after := #[], guard := none }) (v := ?_) rfl (by kernel_rfl) (by kernel_rfl) (by kernel_rfl) (fun _ _ _ h => h) (Or.inl ⟨by rfl, ?_⟩) (by assumption) ?_
  rotate_left
  · (intro W hSw; go_simp; first | done | with_reducible rfl)
  try simp only [Act.put, List.setIfInBounds_toArray, List.set_cons_zero, List.set_cons_succ]
  refine wpAnyH_take (i := 1) (oi := { dst := some 31, op := Op.nilCheck (Operand.tmp 30), type := 0, pos := "feed.go:73", after := #[{ on := 0, ground := Ground.data }], guard := none }) (v := ?_) rfl (by kernel_rfl) (by kernel_rfl) (by kernel_rfl) (fun _ _ _ h => h) (Or.inl ⟨by rfl, ?_⟩) (by assumption) ?_
  rotate_left
  · (intro W hSw; go_simp; first | done | with_reducible rfl)
  try simp only [Act.put, List.setIfInBounds_toArray, List.set_cons_zero, List.set_cons_succ]
  refine wpAnyH_take (i := 2) (oi := { dst := some 32, op := Op.fieldAddr 57 (Operand.tmp 31) 0, type := 0, pos := "feed.go:73", after := #[{ on := 1, ground := Ground.data }], guard := none }) (v := ?_) rfl (by kernel_rfl) (by kernel_rfl) (by kernel_rfl) (fun _ _ _ h => h) (Or.inl ⟨by rfl, ?_⟩) (by assumption) ?_
  rotate_left
  · (intro W hSw; go_simp; first | done | with_reducible rfl)
  try simp only [Act.put, List.setIfInBounds_toArray, List.set_cons_zero, List.set_cons_succ]
  refine wpAnyH_take (i := 3) (oi := { dst := some 33, op := Op.load 54 (Operand.tmp 32), type := 54, pos := "feed.go:73", after := #[{ on := 2, ground := Ground.data }], guard := none }) (v := ?_) rfl (by kernel_rfl) (by kernel_rfl) (by kernel_rfl) (fun _ _ _ h => h) (Or.inl ⟨by rfl, ?_⟩) (by assumption) ?_
  rotate_left
  · (intro W hSw; go_simp; first | done | with_reducible rfl)
  try simp only [Act.put, List.setIfInBounds_toArray, List.set_cons_zero, List.set_cons_succ]
  refine wpAnyH_take (i := 4) (oi := { dst := some 34, op := Op.fieldAddr 38 (Operand.tmp 3) 0, type := 0, pos := "feed.go:73", after := #[], guard := none }) (v := ?_) rfl (by kernel_rfl) (by kernel_rfl) (by kernel_rfl) (fun _ _ _ h => h) (Or.inl ⟨by rfl, ?_⟩) (by assumption) ?_
  rotate_left
  · (intro W hSw; go_simp; first | done | with_reducible rfl)
  try simp only [Act.put, List.setIfInBounds_toArray, List.set_cons_zero, List.set_cons_succ]
  refine wpAnyH_take (i := 5) (oi := { dst := some 35, op := Op.load 3 (Operand.tmp 34), type := 3, pos := "feed.go:73", after := #[{ on := 4, ground := Ground.data }], guard := none }) (v := ?_) rfl (by kernel_rfl) (by kernel_rfl) (by kernel_rfl) (fun _ _ _ h => h) (Or.inl ⟨by rfl, ?_⟩) (by assumption) ?_
  rotate_left
  · (intro W hSw; go_simp; first | done | with_reducible rfl)
  try simp only [Act.put, List.setIfInBounds_toArray, List.set_cons_zero, List.set_cons_succ]
  refine wpAnyH_take (i := 6) (oi := { dst := some 36, op := Op.load 38 (Operand.tmp 3), type := 38, pos := "feed.go:73", after := #[], guard := none }) (v := ?_) rfl (by kernel_rfl) (by kernel_rfl) (by kernel_rfl) (fun _ _ _ h => h) (Or.inl ⟨by rfl, ?_⟩) (by assumption) ?_
  rotate_left
  · (intro W hSw; go_simp; first | done | with_reducible rfl)
  try simp only [Act.put, List.setIfInBounds_toArray, List.set_cons_zero, List.set_cons_succ]
  refine wpAnyH_take (i := 7) (oi := { dst := some 37, op := Op.build 42 #[(0, Operand.tmp 35), (1, Operand.tmp 36)], type := 42, pos := "feed.go:73", after := #[{ on := 5, ground := Ground.data }, { on := 6, ground := Ground.data }], guard := none }) (v := ?_) rfl (by kernel_rfl) (by kernel_rfl) (by kernel_rfl) (fun _ _ _ h => h) (Or.inl ⟨by rfl, ?_⟩) (by assumption) ?_
  rotate_left
  · (intro W hSw; go_simp; first | done | with_reducible rfl)
  try simp only [Act.put, List.setIfInBounds_toArray, List.set_cons_zero, List.set_cons_succ]
  refine wpAnyH_ready (rs := [8]) (by kernel_rfl) (by simp) ?_
  refine AllReadyH.cons (o := { dst := some 38, op := Op.call { callee := Callee.value (Operand.func 25), args := #[Operand.tmp 33, Operand.tmp 37], argTypes := #[54, 42] }, type := 4, pos := "feed.go:73", after := #[{ on := 3, ground := Ground.data }, { on := 7, ground := Ground.data }], guard := none }) rfl (fun K hK => ?_) AllReadyH.nil
  go_simp
  refine (KN.push_rg (x 0, x) (HR3.out.drewN 1) HQ.out).mono ?_; rintro e w5 ⟨rfl, hR5⟩; have hS5 : St (bareW w0) [(gx, 38, CC x), (gf, 57, FC gr true kd n (x 0) 0)] w5 := bareN hR5.sr.st.below.os hR5.sr.st.below.tape hR5.sr.st.below.output (by have := hR5.sr.st.nodup; simp at this ⊢; omega) (by intro y hy; simp at hy; rcases hy with rfl | rfl; exact hR5.sr.st.get 0 rfl; exact hR5.sr.st.get 1 rfl)
  refine hK.out _ _ (by assumption) (fun hHeld => ?_)
  clear hK K
  try simp only [Act.put, List.setIfInBounds_toArray, List.set_cons_zero, List.set_cons_succ]
  refine wpAnyH_take (i := 9) (oi := { dst := some 39, op := Op.unOp UnOp.not 4 (Operand.tmp 38), type := 4, pos := "feed.go:73", after := #[{ on := 8, ground := Ground.data }], guard := none }) (v := ?_) rfl (by kernel_rfl) (by kernel_rfl) (by kernel_rfl) (fun _ _ _ h => h) (Or.inl ⟨by rfl, ?_⟩) (by assumption) ?_
  rotate_left
  · (intro W hSw; go_simp; first | done | with_reducible rfl)
  try simp only [Act.put, List.setIfInBounds_toArray, List.set_cons_zero, List.set_cons_succ]
  refine wpAnyH_done (by kernel_rfl) ?_ _
  go_wp2_with fail
  exact bodyPost_end (results_none rfl _ _ _) rfl ⟨rfl, hR5.sub (List.sublist_cons_self _ _)⟩
set_option maxRecDepth 100000 in
set_option maxHeartbeats 2000000 in
theorem hear_full (h : FG w0 L R gf gr room true kd n hd 0 q w) (x : Nat → Int) (hx : hd < x 0) (hp : passV kd n x = true) (hq : q.length = room) : Calls Try.prog 23 #[.pointer (some ⟨gf, 0, none⟩), .agg (CC x)] w fun e w' => e = .returned (.tuple #[]) ∧ FG w0 L R gf gr room true kd n (x 0) (x 0) q w' := by
  have hA : RG KN w0 ((w.heap.size, 38, CC x) :: (gf, 57, FC gr true kd n hd 0) :: L) R gr room q (w.alloc (.cells (CC x) 38)) := h.alloc _ _
  clear h
  have HQ := Lib.hid hq
  clear hq
  have hnx : ¬ x 0 ≤ hd := by omega
  have HP := Lib.hid hp
  clear hp
  go_enter Try.func23, Try.ntmps23
  go_wp2_with fail
  generalize w.alloc (.cells (CC x) 38) = wA at hA ⊢
  generalize w.heap.size = gx at hA ⊢
  have x0 : wA.cell? ⟨gx, 0, none⟩ = some (.int .i64 (x 0)) := (hA.sr.st.get 0 rfl).cell 0
  have h4 : wA.cell? ⟨gf, 4, none⟩ = some (.int .i64 hd) := (hA.sr.st.get 1 rfl).cell 4
  have f4 := (hA.sr.st.get 1 rfl).frozen 4
  have HA := Lib.hid hA
  clear hA
  go_quiet (fail)
  go_wp2_with fail
  have hR2 : RG KN w0 ((gx, 38, CC x) :: (gf, 57, FC gr true kd n (x 0) 0) :: L) R gr room q ((wA.drewN nq).setCell ⟨gf, 4, none⟩ (.int .i64 (x 0))) := (HA.out.drewN nq).setAt 1 rfl (Only.setCell _ gf 4 _) (((HA.out.drewN nq).sr.st.get 1 rfl).set_ 4 (.int .i64 (x 0)))
  generalize (wA.drewN nq).setCell ⟨gf, 4, none⟩ (.int .i64 (x 0)) = w2 at hR2 ⊢
  clear x0 h4 f4 HA
  have hS0 : St (bareW w0) [(gx, 38, CC x), (gf, 57, FC gr true kd n (x 0) 0)] w2.drew := (bareN hR2.sr.st.below.os hR2.sr.st.below.tape hR2.sr.st.below.output (by have := hR2.sr.st.nodup; simp at this ⊢; omega) (by intro y hy; simp at hy; rcases hy with rfl | rfl; exact hR2.sr.st.get 0 rfl; exact hR2.sr.st.get 1 rfl)).drew
  have G0 : ∀ W, St (bareW w0) [(gx, 38, CC x), (gf, 57, FC gr true kd n (x 0) 0)] W → W.cell? ⟨gf, 0, none⟩ = some (.pointer (some ⟨gr, 0, none⟩)) := St.cell 1 rfl 0 rfl
  have G2 : ∀ W, St (bareW w0) [(gx, 38, CC x), (gf, 57, FC gr true kd n (x 0) 0)] W → W.cell? ⟨gf, 2, none⟩ = some (.int .i64 kd) := St.cell 1 rfl 2 rfl
  have G3 : ∀ W, St (bareW w0) [(gx, 38, CC x), (gf, 57, FC gr true kd n (x 0) 0)] W → W.cell? ⟨gf, 3, none⟩ = some (.int .i64 n) := St.cell 1 rfl 3 rfl
  have G5 : ∀ W, St (bareW w0) [(gx, 38, CC x), (gf, 57, FC gr true kd n (x 0) 0)] W → W.cell? ⟨gf, 5, none⟩ = some (.int .i64 0) := St.cell 1 rfl 5 rfl
  have X0 : ∀ W, St (bareW w0) [(gx, 38, CC x), (gf, 57, FC gr true kd n (x 0) 0)] W → W.cell? ⟨gx, 0, none⟩ = some (.int .i64 (x 0)) := St.cell 0 rfl 0 rfl
  have XL : ∀ W, St (bareW w0) [(gx, 38, CC x), (gf, 57, FC gr true kd n (x 0) 0)] W → (loadBig 38 ⟨gx, 0, none⟩).run Try.prog W = .ok (.agg (CC x)) W := St.big 0 38 _ rfl Try.underlying38 rfl (by kernel_rfl)
  have HR2 := Lib.hid hR2
  clear hR2
  refine wp_region_held_drew (S := St (bareW w0) [(gx, 38, CC x), (gf, 57, FC gr true kd n (x 0) 0)]) (by kernel_rfl) hS0 (fun hHeld => ?_)
  refine wpAnyH_take (i := 0) (oi := { dst := some 16, op := Op.move (Operand.tmp 0), type := 29, pos := "feed.go:70", after := #[], guard := none }) (v := ?_) rfl (by kernel_rfl) (by kernel_rfl) (by kernel_rfl) (fun _ _ _ h => h) (Or.inl ⟨by rfl, ?_⟩) (by assumption) ?_
  rotate_left
  · (intro W hSw; go_simp; first | done | with_reducible rfl)
  try simp only [Act.put, List.setIfInBounds_toArray, List.set_cons_zero, List.set_cons_succ]
  refine wpAnyH_take (i := 1) (oi := { dst := some 17, op := Op.nilCheck (Operand.tmp 16), type := 0, pos := "feed.go:70", after := #[{ on := 0, ground := Ground.data }], guard := none }) (v := ?_) rfl (by kernel_rfl) (by kernel_rfl) (by kernel_rfl) (fun _ _ _ h => h) (Or.inl ⟨by rfl, ?_⟩) (by assumption) ?_
  rotate_left
  · (intro W hSw; go_simp; first | done | with_reducible rfl)
  try simp only [Act.put, List.setIfInBounds_toArray, List.set_cons_zero, List.set_cons_succ]
  refine wpAnyH_take (i := 2) (oi := { dst := some 18, op := Op.fieldAddr 57 (Operand.tmp 17) 4, type := 0, pos := "feed.go:70", after := #[{ on := 1, ground := Ground.data }], guard := none }) (v := ?_) rfl (by kernel_rfl) (by kernel_rfl) (by kernel_rfl) (fun _ _ _ h => h) (Or.inl ⟨by rfl, ?_⟩) (by assumption) ?_
  rotate_left
  · (intro W hSw; go_simp; first | done | with_reducible rfl)
  try simp only [Act.put, List.setIfInBounds_toArray, List.set_cons_zero, List.set_cons_succ]
  refine wpAnyH_take (i := 3) (oi := { dst := some 19, op := Op.load 3 (Operand.tmp 18), type := 3, pos := "feed.go:70", after := #[{ on := 2, ground := Ground.data }], guard := none }) (v := ?_) rfl (by kernel_rfl) (by kernel_rfl) (by kernel_rfl) (fun _ _ _ h => h) (Or.inl ⟨by rfl, ?_⟩) (by assumption) ?_
  rotate_left
  · (intro W hSw; go_simp; first | done | with_reducible rfl)
  try simp only [Act.put, List.setIfInBounds_toArray, List.set_cons_zero, List.set_cons_succ]
  refine wpAnyH_take (i := 4) (oi := { dst := some 20, op := Op.binOp BinOp.gtr 3 (Operand.tmp 19) (Operand.const (Value.int IntKind.i64 0)) 3, type := 4, pos := "feed.go:70", after := #[{ on := 3, ground := Ground.data }], guard := none }) (v := ?_) rfl (by kernel_rfl) (by kernel_rfl) (by kernel_rfl) (fun _ _ _ h => h) (Or.inl ⟨by rfl, ?_⟩) (by assumption) ?_
  rotate_left
  · (intro W hSw; go_simp; first | done | with_reducible rfl)
  try simp only [Act.put, List.setIfInBounds_toArray, List.set_cons_zero, List.set_cons_succ]
  refine wpAnyH_take (i := 5) (oi := { dst := some 21, op := Op.move (Operand.tmp 20), type := 4, pos := "feed.go:70", after := #[{ on := 4, ground := Ground.data }], guard := none }) (v := ?_) rfl (by kernel_rfl) (by kernel_rfl) (by kernel_rfl) (fun _ _ _ h => h) (Or.inl ⟨by rfl, ?_⟩) (by assumption) ?_
  rotate_left
  · (intro W hSw; go_simp; first | done | with_reducible rfl)
  try simp only [Act.put, List.setIfInBounds_toArray, List.set_cons_zero, List.set_cons_succ]
  refine wpAnyH_take (i := 6) (oi := { dst := some 22, op := Op.move (Operand.tmp 0), type := 29, pos := "feed.go:70", after := #[{ on := 5, ground := Ground.guard }], guard := some (5, false) }) (v := ?_) rfl (by kernel_rfl) (by kernel_rfl) (by kernel_rfl) (fun _ _ _ h => h) (Or.inl ⟨by rfl, ?_⟩) (by assumption) ?_
  rotate_left
  · (intro W hSw; go_simp; first | done | with_reducible rfl)
  try simp only [Act.put, List.setIfInBounds_toArray, List.set_cons_zero, List.set_cons_succ]
  refine wpAnyH_take (i := 7) (oi := { dst := some 23, op := Op.nilCheck (Operand.tmp 22), type := 0, pos := "feed.go:70", after := #[{ on := 6, ground := Ground.data }, { on := 5, ground := Ground.guard }], guard := some (5, false) }) (v := ?_) rfl (by kernel_rfl) (by kernel_rfl) (by kernel_rfl) (fun _ _ _ h => h) (Or.inl ⟨by rfl, ?_⟩) (by assumption) ?_
  rotate_left
  · (intro W hSw; go_simp; first | done | with_reducible rfl)
  try simp only [Act.put, List.setIfInBounds_toArray, List.set_cons_zero, List.set_cons_succ]
  refine wpAnyH_take (i := 8) (oi := { dst := some 24, op := Op.fieldAddr 57 (Operand.tmp 23) 2, type := 0, pos := "feed.go:70", after := #[{ on := 7, ground := Ground.data }, { on := 5, ground := Ground.guard }], guard := some (5, false) }) (v := ?_) rfl (by kernel_rfl) (by kernel_rfl) (by kernel_rfl) (fun _ _ _ h => h) (Or.inl ⟨by rfl, ?_⟩) (by assumption) ?_
  rotate_left
  · (intro W hSw; go_simp; first | done | with_reducible rfl)
  try simp only [Act.put, List.setIfInBounds_toArray, List.set_cons_zero, List.set_cons_succ]
  refine wpAnyH_take (i := 9) (oi := { dst := some 25, op := Op.load 26 (Operand.tmp 24), type := 26, pos := "feed.go:70", after := #[{ on := 8, ground := Ground.data }, { on := 5, ground := Ground.guard }], guard := some (5, false) }) (v := ?_) rfl (by kernel_rfl) (by kernel_rfl) (by kernel_rfl) (fun _ _ _ h => h) (Or.inl ⟨by rfl, ?_⟩) (by assumption) ?_
  rotate_left
  · (intro W hSw; go_simp; first | done | with_reducible rfl)
  try simp only [Act.put, List.setIfInBounds_toArray, List.set_cons_zero, List.set_cons_succ]
  refine wpAnyH_take (i := 10) (oi := { dst := some 26, op := Op.load 38 (Operand.tmp 3), type := 38, pos := "feed.go:70", after := #[{ on := 5, ground := Ground.guard }], guard := some (5, false) }) (v := ?_) rfl (by kernel_rfl) (by kernel_rfl) (by kernel_rfl) (fun _ _ _ h => h) (Or.inl ⟨by rfl, ?_⟩) (by assumption) ?_
  rotate_left
  · (intro W hSw; go_simp; first | done | with_reducible rfl)
  try simp only [Act.put, List.setIfInBounds_toArray, List.set_cons_zero, List.set_cons_succ]
  refine wpAnyH_ready (rs := [11]) (by kernel_rfl) (by simp) ?_
  refine AllReadyH.cons (o := { dst := some 27, op := Op.call { callee := Callee.value (Operand.func 29), args := #[Operand.tmp 25, Operand.tmp 26], argTypes := #[26, 38] }, type := 4, pos := "feed.go:70", after := #[{ on := 9, ground := Ground.data }, { on := 10, ground := Ground.data }, { on := 5, ground := Ground.chain }, { on := 5, ground := Ground.guard }], guard := some (5, false) }) rfl (fun K hK => ?_) AllReadyH.nil
  go_simp
  refine (pass_any _ _ _ _).mono ?_; rintro e w3 ⟨rfl, hB3⟩; rw [HP.out]; have hS3 := St.step hHeld hB3; have hR3 := (HR2.out.drewN 1).step hB3; have HR3 := Lib.hid hR3; clear hR3 hB3
  refine hK.out _ _ (by assumption) (fun hHeld => ?_)
  clear hK K
  try simp only [Act.put, List.setIfInBounds_toArray, List.set_cons_zero, List.set_cons_succ]
  refine wpAnyH_take (i := 12) (oi := { dst := some 28, op := Op.unOp UnOp.not 4 (Operand.tmp 27), type := 4, pos := "feed.go:70", after := #[{ on := 11, ground := Ground.data }, { on := 5, ground := Ground.guard }], guard := some (5, false) }) (v := ?_) rfl (by kernel_rfl) (by kernel_rfl) (by kernel_rfl) (fun _ _ _ h => h) (Or.inl ⟨by rfl, ?_⟩) (by assumption) ?_
  rotate_left
  · (intro W hSw; go_simp; first | done | with_reducible rfl)
  try simp only [Act.put, List.setIfInBounds_toArray, List.set_cons_zero, List.set_cons_succ]
  refine wpAnyH_take (i := 13) (oi := { dst := some 29, op := Op.pick (Operand.tmp 21) (Operand.const (Value.bool true)) (Operand.tmp 28), type := 4, pos := "feed.go:70", after := #[{ on := 5, ground := Ground.data }, { on := 12, ground := Ground.data }], guard := none }) (v := ?_) rfl (by kernel_rfl) (by kernel_rfl) (by kernel_rfl) (fun _ _ _ h => h) (Or.inl ⟨by rfl, ?_⟩) (by assumption) ?_
  rotate_left
  · (intro W hSw; go_simp; first | done | with_reducible rfl)
  try simp only [Act.put, List.setIfInBounds_toArray, List.set_cons_zero, List.set_cons_succ]
  refine wpAnyH_done (by kernel_rfl) ?_ _
  go_wp2_with fail
  have hS4 := hS3.drew
  refine wp_region_held_drew (S := St (bareW w0) [(gx, 38, CC x), (gf, 57, FC gr true kd n (x 0) 0)]) (by kernel_rfl) hS4 (fun hHeld => ?_)
  refine wpAnyH_take (i := 0) (oi := { dst := some 30, op := Op.move (Operand.tmp 0), type := 29, pos := "feed.go:73", after := #[], guard := none }) (v := ?_) rfl (by kernel_rfl) (by kernel_rfl) (by kernel_rfl) (fun _ _ _ h => h) (Or.inl ⟨by rfl, ?_⟩) (by assumption) ?_
  rotate_left
  · (intro W hSw; go_simp; first | done | with_reducible rfl)
  try simp only [Act.put, List.setIfInBounds_toArray, List.set_cons_zero, List.set_cons_succ]
  refine wpAnyH_take (i := 1) (oi := { dst := some 31, op := Op.nilCheck (Operand.tmp 30), type := 0, pos := "feed.go:73", after := #[{ on := 0, ground := Ground.data }], guard := none }) (v := ?_) rfl (by kernel_rfl) (by kernel_rfl) (by kernel_rfl) (fun _ _ _ h => h) (Or.inl ⟨by rfl, ?_⟩) (by assumption) ?_
  rotate_left
  · (intro W hSw; go_simp; first | done | with_reducible rfl)
  try simp only [Act.put, List.setIfInBounds_toArray, List.set_cons_zero, List.set_cons_succ]
  refine wpAnyH_take (i := 2) (oi := { dst := some 32, op := Op.fieldAddr 57 (Operand.tmp 31) 0, type := 0, pos := "feed.go:73", after := #[{ on := 1, ground := Ground.data }], guard := none }) (v := ?_) rfl (by kernel_rfl) (by kernel_rfl) (by kernel_rfl) (fun _ _ _ h => h) (Or.inl ⟨by rfl, ?_⟩) (by assumption) ?_
  rotate_left
  · (intro W hSw; go_simp; first | done | with_reducible rfl)
  try simp only [Act.put, List.setIfInBounds_toArray, List.set_cons_zero, List.set_cons_succ]
  refine wpAnyH_take (i := 3) (oi := { dst := some 33, op := Op.load 54 (Operand.tmp 32), type := 54, pos := "feed.go:73", after := #[{ on := 2, ground := Ground.data }], guard := none }) (v := ?_) rfl (by kernel_rfl) (by kernel_rfl) (by kernel_rfl) (fun _ _ _ h => h) (Or.inl ⟨by rfl, ?_⟩) (by assumption) ?_
  rotate_left
  · (intro W hSw; go_simp; first | done | with_reducible rfl)
  try simp only [Act.put, List.setIfInBounds_toArray, List.set_cons_zero, List.set_cons_succ]
  refine wpAnyH_take (i := 4) (oi := { dst := some 34, op := Op.fieldAddr 38 (Operand.tmp 3) 0, type := 0, pos := "feed.go:73", after := #[], guard := none }) (v := ?_) rfl (by kernel_rfl) (by kernel_rfl) (by kernel_rfl) (fun _ _ _ h => h) (Or.inl ⟨by rfl, ?_⟩) (by assumption) ?_
  rotate_left
  · (intro W hSw; go_simp; first | done | with_reducible rfl)
  try simp only [Act.put, List.setIfInBounds_toArray, List.set_cons_zero, List.set_cons_succ]
  refine wpAnyH_take (i := 5) (oi := { dst := some 35, op := Op.load 3 (Operand.tmp 34), type := 3, pos := "feed.go:73", after := #[{ on := 4, ground := Ground.data }], guard := none }) (v := ?_) rfl (by kernel_rfl) (by kernel_rfl) (by kernel_rfl) (fun _ _ _ h => h) (Or.inl ⟨by rfl, ?_⟩) (by assumption) ?_
  rotate_left
  · (intro W hSw; go_simp; first | done | with_reducible rfl)
  try simp only [Act.put, List.setIfInBounds_toArray, List.set_cons_zero, List.set_cons_succ]
  refine wpAnyH_take (i := 6) (oi := { dst := some 36, op := Op.load 38 (Operand.tmp 3), type := 38, pos := "feed.go:73", after := #[], guard := none }) (v := ?_) rfl (by kernel_rfl) (by kernel_rfl) (by kernel_rfl) (fun _ _ _ h => h) (Or.inl ⟨by rfl, ?_⟩) (by assumption) ?_
  rotate_left
  · (intro W hSw; go_simp; first | done | with_reducible rfl)
  try simp only [Act.put, List.setIfInBounds_toArray, List.set_cons_zero, List.set_cons_succ]
  refine wpAnyH_take (i := 7) (oi := { dst := some 37, op := Op.build 42 #[(0, Operand.tmp 35), (1, Operand.tmp 36)], type := 42, pos := "feed.go:73", after := #[{ on := 5, ground := Ground.data }, { on := 6, ground := Ground.data }], guard := none }) (v := ?_) rfl (by kernel_rfl) (by kernel_rfl) (by kernel_rfl) (fun _ _ _ h => h) (Or.inl ⟨by rfl, ?_⟩) (by assumption) ?_
  rotate_left
  · (intro W hSw; go_simp; first | done | with_reducible rfl)
  try simp only [Act.put, List.setIfInBounds_toArray, List.set_cons_zero, List.set_cons_succ]
  refine wpAnyH_ready (rs := [8]) (by kernel_rfl) (by simp) ?_
  refine AllReadyH.cons (o := { dst := some 38, op := Op.call { callee := Callee.value (Operand.func 25), args := #[Operand.tmp 33, Operand.tmp 37], argTypes := #[54, 42] }, type := 4, pos := "feed.go:73", after := #[{ on := 3, ground := Ground.data }, { on := 7, ground := Ground.data }], guard := none }) rfl (fun K hK => ?_) AllReadyH.nil
  go_simp
  refine (KN.push_no (x 0, x) (HR3.out.drewN 1) HQ.out).mono ?_; rintro e w5 ⟨rfl, hR5⟩; have hS5 : St (bareW w0) [(gx, 38, CC x), (gf, 57, FC gr true kd n (x 0) 0)] w5 := bareN hR5.sr.st.below.os hR5.sr.st.below.tape hR5.sr.st.below.output (by have := hR5.sr.st.nodup; simp at this ⊢; omega) (by intro y hy; simp at hy; rcases hy with rfl | rfl; exact hR5.sr.st.get 0 rfl; exact hR5.sr.st.get 1 rfl)
  refine hK.out _ _ (by assumption) (fun hHeld => ?_)
  clear hK K
  try simp only [Act.put, List.setIfInBounds_toArray, List.set_cons_zero, List.set_cons_succ]
  refine wpAnyH_take (i := 9) (oi := { dst := some 39, op := Op.unOp UnOp.not 4 (Operand.tmp 38), type := 4, pos := "feed.go:73", after := #[{ on := 8, ground := Ground.data }], guard := none }) (v := ?_) rfl (by kernel_rfl) (by kernel_rfl) (by kernel_rfl) (fun _ _ _ h => h) (Or.inl ⟨by rfl, ?_⟩) (by assumption) ?_
  rotate_left
  · (intro W hSw; go_simp; first | done | with_reducible rfl)
  try simp only [Act.put, List.setIfInBounds_toArray, List.set_cons_zero, List.set_cons_succ]
  refine wpAnyH_done (by kernel_rfl) ?_ _
  have x0 : w5.cell? ⟨gx, 0, none⟩ = some (.int .i64 (x 0)) := (hR5.sr.st.get 0 rfl).cell 0
  have h5 : w5.cell? ⟨gf, 5, none⟩ = some (.int .i64 0) := (hR5.sr.st.get 1 rfl).cell 5
  have f5 := (hR5.sr.st.get 1 rfl).frozen 5
  have HR5 := Lib.hid hR5
  clear hR5 hS0 hS3 hS4 hS5 hHeld
  go_wp2_with fail
  exact bodyPost_end (results_none rfl _ _ _) rfl ⟨rfl, (HR5.out.setAt 1 rfl (Only.setCell _ gf 5 _) ((HR5.out.sr.st.get 1 rfl).set_ 5 (.int .i64 (x 0)))).sub (List.sublist_cons_self _ _)⟩
end
end Go.Proofs.Ytjfpmolnipiphaa
