/- Layer 22: feed.Tell. No condition. -/
import Derived.Test.YtjfpmolnipiphaaFeed5
namespace Go.Proofs.Ytjfpmolnipiphaa
open Go.RowKit
set_option linter.unusedVariables false
set_option linter.unusedSimpArgs false
attribute [local go_sem ↓] Go.wp_at_zero Go.wp_at_succ

section
variable {w0 w : World} {L : List (Nat × TypeId × Array Value)} {R : List Ow} {gf gr room : Nat} {on : Bool} {kd n hd l : Int} {q : List (Int × (Nat → Int))}
set_option maxRecDepth 100000 in
set_option maxHeartbeats 2000000 in
theorem tell_none (h : FG w0 L R gf gr room true kd n hd 0 [] w) : Calls Try.prog 10 #[.pointer (some ⟨gf, 0, none⟩)] w fun e w' => e = .returned (.tuple #[.agg #[.int .i64 0, .int .i64 0, .int .i64 0, .int .i64 0, .int .i64 0, .int .i64 0, .int .i64 0, .int .i64 0, .int .i64 0, .int .i64 0, .int .i64 0, .int .i64 0], .bool false]) ∧ FG w0 L R gf gr room true kd n hd 0 [] w' := by
  have hA : RG KN w0 ((w.heap.size, 42, (#[.int .i64 0, .int .i64 0, .int .i64 0, .int .i64 0, .int .i64 0, .int .i64 0, .int .i64 0, .int .i64 0, .int .i64 0, .int .i64 0, .int .i64 0, .int .i64 0] : Array Value)) :: (gf, 57, FC gr true kd n hd 0) :: L) R gr room [] (w.alloc (.cells (#[.int .i64 0, .int .i64 0, .int .i64 0, .int .i64 0, .int .i64 0, .int .i64 0, .int .i64 0, .int .i64 0, .int .i64 0, .int .i64 0, .int .i64 0, .int .i64 0] : Array Value) 42)) := h.alloc _ _
  clear h
  go_enter Try.func10, Try.ntmps10
  go_wp2_with fail
  generalize w.alloc (.cells (#[.int .i64 0, .int .i64 0, .int .i64 0, .int .i64 0, .int .i64 0, .int .i64 0, .int .i64 0, .int .i64 0, .int .i64 0, .int .i64 0, .int .i64 0, .int .i64 0] : Array Value) 42) = wA at hA ⊢
  generalize w.heap.size = g2 at hA ⊢
  have c0 : wA.cell? ⟨gf, 0, none⟩ = some (.pointer (some ⟨gr, 0, none⟩)) := (hA.sr.st.get 1 rfl).cell 0
  have HA := Lib.hid (hA.permL (List.Perm.swap _ _ _))
  have HB := Lib.hid hA
  clear hA
  go_wp2_with (first
    | (go_at_call 17; refine (isOn_any HA.out).mono ?_; rintro e w1 ⟨rfl, rfl⟩)
    | (go_at_call 24; refine (KN.pop_no HB.out).mono ?_; rintro e w2 ⟨rfl, hR2⟩; clear c0)
    | (refine store_newF hR2 rfl rfl 42 _ _ rfl 42 _ (#[.int .i64 0, .int .i64 0, .int .i64 0, .int .i64 0, .int .i64 0, .int .i64 0, .int .i64 0, .int .i64 0, .int .i64 0, .int .i64 0, .int .i64 0, .int .i64 0] : Array Value) rfl rfl (by kernel_rfl) rfl (by simp [Value.oneCell']) ?_; intro w3 hR3 hlt3; generalize w2.heap.size = g4 at hR3 hlt3 ⊢; clear hlt3 hR2; have c5 : w3.cell? ⟨gf, 5, none⟩ = some (.int .i64 0) := (hR3.sr.st.get 2 rfl).cell 5; have ld3 := St.big (w0 := w0) 0 42 _ rfl Try.underlying42 rfl (by kernel_rfl) w3 hR3.sr.st; have HR3 := Lib.hid hR3; clear hR3)
    | (refine store_atF HR3.out rfl rfl 42 _ _ rfl 1 g2 42 (#[.int .i64 0, .int .i64 0, .int .i64 0, .int .i64 0, .int .i64 0, .int .i64 0, .int .i64 0, .int .i64 0, .int .i64 0, .int .i64 0, .int .i64 0, .int .i64 0] : Array Value) (#[.int .i64 0, .int .i64 0, .int .i64 0, .int .i64 0, .int .i64 0, .int .i64 0, .int .i64 0, .int .i64 0, .int .i64 0, .int .i64 0, .int .i64 0, .int .i64 0] : Array Value) rfl rfl rfl (by kernel_rfl) rfl (by simp [Value.oneCell']) ?_; intro w9 hR9))
  refine bodyPost_ret (Go.Proofs.Ytjfpmolnipiphaa.results_cell_tmp rfl _ _ g2 42 (#[.int .i64 0, .int .i64 0, .int .i64 0, .int .i64 0, .int .i64 0, .int .i64 0, .int .i64 0, .int .i64 0, .int .i64 0, .int .i64 0, .int .i64 0, .int .i64 0] : Array Value) _ rfl (hR9.sr.st.get 1 rfl) Try.underlying42 rfl (by kernel_rfl)) rfl ?_
  exact ⟨rfl, hR9.sub ((List.sublist_cons_self _ _).trans (List.sublist_cons_self _ _))⟩
set_option maxRecDepth 100000 in
set_option maxHeartbeats 2000000 in
theorem tell_one {y : Int × (Nat → Int)} (h : FG w0 L R gf gr room true kd n hd 0 (y :: q) w) : Calls Try.prog 10 #[.pointer (some ⟨gf, 0, none⟩)] w fun e w' => e = .returned (.tuple #[.agg #[.int .i64 y.1, .int .i64 (y.2 0), .int .i64 (y.2 1), .int .i64 (y.2 2), .int .i64 (y.2 3), .int .i64 (y.2 4), .int .i64 (y.2 5), .int .i64 (y.2 6), .int .i64 (y.2 7), .int .i64 (y.2 8), .int .i64 (y.2 9), .int .i64 (y.2 10)], .bool true]) ∧ FG w0 L R gf gr room true kd n hd 0 q w' := by
  have hA : RG KN w0 ((w.heap.size, 42, (#[.int .i64 0, .int .i64 0, .int .i64 0, .int .i64 0, .int .i64 0, .int .i64 0, .int .i64 0, .int .i64 0, .int .i64 0, .int .i64 0, .int .i64 0, .int .i64 0] : Array Value)) :: (gf, 57, FC gr true kd n hd 0) :: L) R gr room (y :: q) (w.alloc (.cells (#[.int .i64 0, .int .i64 0, .int .i64 0, .int .i64 0, .int .i64 0, .int .i64 0, .int .i64 0, .int .i64 0, .int .i64 0, .int .i64 0, .int .i64 0, .int .i64 0] : Array Value) 42)) := h.alloc _ _
  clear h
  go_enter Try.func10, Try.ntmps10
  go_wp2_with fail
  generalize w.alloc (.cells (#[.int .i64 0, .int .i64 0, .int .i64 0, .int .i64 0, .int .i64 0, .int .i64 0, .int .i64 0, .int .i64 0, .int .i64 0, .int .i64 0, .int .i64 0, .int .i64 0] : Array Value) 42) = wA at hA ⊢
  generalize w.heap.size = g2 at hA ⊢
  have c0 : wA.cell? ⟨gf, 0, none⟩ = some (.pointer (some ⟨gr, 0, none⟩)) := (hA.sr.st.get 1 rfl).cell 0
  have HA := Lib.hid (hA.permL (List.Perm.swap _ _ _))
  have HB := Lib.hid hA
  clear hA
  go_wp2_with (first
    | (go_at_call 17; refine (isOn_any HA.out).mono ?_; rintro e w1 ⟨rfl, rfl⟩)
    | (go_at_call 24; refine (KN.pop_rg HB.out).mono ?_; rintro e w2 ⟨rfl, hR2⟩; clear c0)
    | (refine store_newF hR2 rfl rfl 42 _ _ rfl 42 _ (#[.int .i64 y.1, .int .i64 (y.2 0), .int .i64 (y.2 1), .int .i64 (y.2 2), .int .i64 (y.2 3), .int .i64 (y.2 4), .int .i64 (y.2 5), .int .i64 (y.2 6), .int .i64 (y.2 7), .int .i64 (y.2 8), .int .i64 (y.2 9), .int .i64 (y.2 10)] : Array Value) rfl rfl (by kernel_rfl) rfl (by simp [Value.oneCell']) ?_; intro w3 hR3 hlt3; generalize w2.heap.size = g4 at hR3 hlt3 ⊢; clear hlt3 hR2; have c5 : w3.cell? ⟨gf, 5, none⟩ = some (.int .i64 0) := (hR3.sr.st.get 2 rfl).cell 5; have ld3 := St.big (w0 := w0) 0 42 _ rfl Try.underlying42 rfl (by kernel_rfl) w3 hR3.sr.st; have HR3 := Lib.hid hR3; clear hR3)
    | (refine store_atF HR3.out rfl rfl 42 _ _ rfl 1 g2 42 (#[.int .i64 0, .int .i64 0, .int .i64 0, .int .i64 0, .int .i64 0, .int .i64 0, .int .i64 0, .int .i64 0, .int .i64 0, .int .i64 0, .int .i64 0, .int .i64 0] : Array Value) (#[.int .i64 y.1, .int .i64 (y.2 0), .int .i64 (y.2 1), .int .i64 (y.2 2), .int .i64 (y.2 3), .int .i64 (y.2 4), .int .i64 (y.2 5), .int .i64 (y.2 6), .int .i64 (y.2 7), .int .i64 (y.2 8), .int .i64 (y.2 9), .int .i64 (y.2 10)] : Array Value) rfl rfl rfl (by kernel_rfl) rfl (by simp [Value.oneCell']) ?_; intro w9 hR9))
  refine bodyPost_ret (Go.Proofs.Ytjfpmolnipiphaa.results_cell_tmp rfl _ _ g2 42 (#[.int .i64 y.1, .int .i64 (y.2 0), .int .i64 (y.2 1), .int .i64 (y.2 2), .int .i64 (y.2 3), .int .i64 (y.2 4), .int .i64 (y.2 5), .int .i64 (y.2 6), .int .i64 (y.2 7), .int .i64 (y.2 8), .int .i64 (y.2 9), .int .i64 (y.2 10)] : Array Value) _ rfl (hR9.sr.st.get 1 rfl) Try.underlying42 rfl (by kernel_rfl)) rfl ?_
  exact ⟨rfl, hR9.sub ((List.sublist_cons_self _ _).trans (List.sublist_cons_self _ _))⟩
set_option maxRecDepth 100000 in
set_option maxHeartbeats 2000000 in
theorem tell_gap {y : Int × (Nat → Int)} (h : FG w0 L R gf gr room true kd n hd l (y :: q) w) (hl : 0 < l) (hq : q.length < room) : Calls Try.prog 10 #[.pointer (some ⟨gf, 0, none⟩)] w fun e w' => e = .returned (.tuple #[.agg #[.int .i64 y.1, .int .i64 (y.2 0), .int .i64 (y.2 1), .int .i64 (y.2 2), .int .i64 (y.2 3), .int .i64 (y.2 4), .int .i64 (y.2 5), .int .i64 (y.2 6), .int .i64 (y.2 7), .int .i64 (y.2 8), .int .i64 (y.2 9), .int .i64 (y.2 10)], .bool true]) ∧ FG w0 L R gf gr room true kd n hd 0 (q ++ [(l, fun _ => 0)]) w' := by
  have hA : RG KN w0 ((w.heap.size, 42, (#[.int .i64 0, .int .i64 0, .int .i64 0, .int .i64 0, .int .i64 0, .int .i64 0, .int .i64 0, .int .i64 0, .int .i64 0, .int .i64 0, .int .i64 0, .int .i64 0] : Array Value)) :: (gf, 57, FC gr true kd n hd l) :: L) R gr room (y :: q) (w.alloc (.cells (#[.int .i64 0, .int .i64 0, .int .i64 0, .int .i64 0, .int .i64 0, .int .i64 0, .int .i64 0, .int .i64 0, .int .i64 0, .int .i64 0, .int .i64 0, .int .i64 0] : Array Value) 42)) := h.alloc _ _
  have HQ := Lib.hid hq
  clear h hq
  go_enter Try.func10, Try.ntmps10
  go_wp2_with fail
  generalize w.alloc (.cells (#[.int .i64 0, .int .i64 0, .int .i64 0, .int .i64 0, .int .i64 0, .int .i64 0, .int .i64 0, .int .i64 0, .int .i64 0, .int .i64 0, .int .i64 0, .int .i64 0] : Array Value) 42) = wA at hA ⊢
  generalize w.heap.size = g2 at hA ⊢
  have c0 : wA.cell? ⟨gf, 0, none⟩ = some (.pointer (some ⟨gr, 0, none⟩)) := (hA.sr.st.get 1 rfl).cell 0
  have HA := Lib.hid (hA.permL (List.Perm.swap _ _ _))
  have HB := Lib.hid hA
  clear hA
  go_wp2_with (first
    | (go_at_call 17; refine (isOn_any HA.out).mono ?_; rintro e w1 ⟨rfl, rfl⟩)
    | (go_at_call 24; refine (KN.pop_rg HB.out).mono ?_; rintro e w2 ⟨rfl, hR2⟩; clear c0)
    | (refine store_newF hR2 rfl rfl 42 _ _ rfl 42 _ (#[.int .i64 y.1, .int .i64 (y.2 0), .int .i64 (y.2 1), .int .i64 (y.2 2), .int .i64 (y.2 3), .int .i64 (y.2 4), .int .i64 (y.2 5), .int .i64 (y.2 6), .int .i64 (y.2 7), .int .i64 (y.2 8), .int .i64 (y.2 9), .int .i64 (y.2 10)] : Array Value) rfl rfl (by kernel_rfl) rfl (by simp [Value.oneCell']) ?_; intro w3 hR3 hlt3; generalize w2.heap.size = g4 at hR3 hlt3 ⊢; clear hlt3 hR2; have c5 : w3.cell? ⟨gf, 5, none⟩ = some (.int .i64 l) := (hR3.sr.st.get 2 rfl).cell 5; have ld3 := St.big (w0 := w0) 0 42 _ rfl Try.underlying42 rfl (by kernel_rfl) w3 hR3.sr.st; have HR3 := Lib.hid hR3; clear hR3))
  have hS0 : St (bareW w0) [(gf, 57, FC gr true kd n hd l)] w3.drew := (bareN HR3.out.sr.st.below.os HR3.out.sr.st.below.tape HR3.out.sr.st.below.output (by simp) (by intro z hz; simp at hz; subst hz; exact HR3.out.sr.st.get 2 rfl)).drew
  have G0 : ∀ W, St (bareW w0) [(gf, 57, FC gr true kd n hd l)] W → W.cell? ⟨gf, 0, none⟩ = some (.pointer (some ⟨gr, 0, none⟩)) := St.cell 0 rfl 0 rfl
  have G5 : ∀ W, St (bareW w0) [(gf, 57, FC gr true kd n hd l)] W → W.cell? ⟨gf, 5, none⟩ = some (.int .i64 l) := St.cell 0 rfl 5 rfl
  refine wp_region_held_drew (S := St (bareW w0) [(gf, 57, FC gr true kd n hd l)]) (by kernel_rfl) hS0 (fun hHeld => ?_)
  refine wpAnyH_take (i := 0) (oi := { dst := some 23, op := Op.move (Operand.tmp 0), type := 29, pos := "feed.go:97", after := #[], guard := none }) (v := ?_) rfl (by kernel_rfl) (by kernel_rfl) (by kernel_rfl) (fun _ _ _ h => h) (Or.inl ⟨by rfl, ?_⟩) (by assumption) ?_
  rotate_left
  · (intro W hSw; go_simp; first | done | with_reducible rfl)
  try simp only [Act.put, List.setIfInBounds_toArray, List.set_cons_zero, List.set_cons_succ]
  refine wpAnyH_take (i := 1) (oi := { dst := some 24, op := Op.nilCheck (Operand.tmp 23), type := 0, pos := "feed.go:97", after := #[{ on := 0, ground := Ground.data }], guard := none }) (v := ?_) rfl (by kernel_rfl) (by kernel_rfl) (by kernel_rfl) (fun _ _ _ h => h) (Or.inl ⟨by rfl, ?_⟩) (by assumption) ?_
  rotate_left
  · (intro W hSw; go_simp; first | done | with_reducible rfl)
  try simp only [Act.put, List.setIfInBounds_toArray, List.set_cons_zero, List.set_cons_succ]
  refine wpAnyH_take (i := 2) (oi := { dst := some 25, op := Op.fieldAddr 57 (Operand.tmp 24) 0, type := 0, pos := "feed.go:97", after := #[{ on := 1, ground := Ground.data }], guard := none }) (v := ?_) rfl (by kernel_rfl) (by kernel_rfl) (by kernel_rfl) (fun _ _ _ h => h) (Or.inl ⟨by rfl, ?_⟩) (by assumption) ?_
  rotate_left
  · (intro W hSw; go_simp; first | done | with_reducible rfl)
  try simp only [Act.put, List.setIfInBounds_toArray, List.set_cons_zero, List.set_cons_succ]
  refine wpAnyH_take (i := 3) (oi := { dst := some 26, op := Op.load 54 (Operand.tmp 25), type := 54, pos := "feed.go:97", after := #[{ on := 2, ground := Ground.data }], guard := none }) (v := ?_) rfl (by kernel_rfl) (by kernel_rfl) (by kernel_rfl) (fun _ _ _ h => h) (Or.inl ⟨by rfl, ?_⟩) (by assumption) ?_
  rotate_left
  · (intro W hSw; go_simp; first | done | with_reducible rfl)
  try simp only [Act.put, List.setIfInBounds_toArray, List.set_cons_zero, List.set_cons_succ]
  refine wpAnyH_take (i := 4) (oi := { dst := some 27, op := Op.move (Operand.tmp 0), type := 29, pos := "feed.go:97", after := #[], guard := none }) (v := ?_) rfl (by kernel_rfl) (by kernel_rfl) (by kernel_rfl) (fun _ _ _ h => h) (Or.inl ⟨by rfl, ?_⟩) (by assumption) ?_
  rotate_left
  · (intro W hSw; go_simp; first | done | with_reducible rfl)
  try simp only [Act.put, List.setIfInBounds_toArray, List.set_cons_zero, List.set_cons_succ]
  refine wpAnyH_take (i := 5) (oi := { dst := some 28, op := Op.nilCheck (Operand.tmp 27), type := 0, pos := "feed.go:97", after := #[{ on := 4, ground := Ground.data }], guard := none }) (v := ?_) rfl (by kernel_rfl) (by kernel_rfl) (by kernel_rfl) (fun _ _ _ h => h) (Or.inl ⟨by rfl, ?_⟩) (by assumption) ?_
  rotate_left
  · (intro W hSw; go_simp; first | done | with_reducible rfl)
  try simp only [Act.put, List.setIfInBounds_toArray, List.set_cons_zero, List.set_cons_succ]
  refine wpAnyH_take (i := 6) (oi := { dst := some 29, op := Op.fieldAddr 57 (Operand.tmp 28) 4, type := 0, pos := "feed.go:97", after := #[{ on := 5, ground := Ground.data }], guard := none }) (v := ?_) rfl (by kernel_rfl) (by kernel_rfl) (by kernel_rfl) (fun _ _ _ h => h) (Or.inl ⟨by rfl, ?_⟩) (by assumption) ?_
  rotate_left
  · (intro W hSw; go_simp; first | done | with_reducible rfl)
  try simp only [Act.put, List.setIfInBounds_toArray, List.set_cons_zero, List.set_cons_succ]
  refine wpAnyH_take (i := 7) (oi := { dst := some 30, op := Op.load 3 (Operand.tmp 29), type := 3, pos := "feed.go:97", after := #[{ on := 6, ground := Ground.data }], guard := none }) (v := ?_) rfl (by kernel_rfl) (by kernel_rfl) (by kernel_rfl) (fun _ _ _ h => h) (Or.inl ⟨by rfl, ?_⟩) (by assumption) ?_
  rotate_left
  · (intro W hSw; go_simp; first | done | with_reducible rfl)
  try simp only [Act.put, List.setIfInBounds_toArray, List.set_cons_zero, List.set_cons_succ]
  refine wpAnyH_take (i := 8) (oi := { dst := some 31, op := Op.build 42 #[(0, Operand.tmp 30)], type := 42, pos := "feed.go:97", after := #[{ on := 7, ground := Ground.data }], guard := none }) (v := ?_) rfl (by kernel_rfl) (by kernel_rfl) (by kernel_rfl) (fun _ _ _ h => h) (Or.inl ⟨by rfl, ?_⟩) (by assumption) ?_
  rotate_left
  · (intro W hSw; go_simp; first | done | with_reducible rfl)
  try simp only [Act.put, List.setIfInBounds_toArray, List.set_cons_zero, List.set_cons_succ]
  refine wpAnyH_ready (rs := [9]) (by kernel_rfl) (by simp) ?_
  refine AllReadyH.cons (o := { dst := some 32, op := Op.call { callee := Callee.value (Operand.func 25), args := #[Operand.tmp 26, Operand.tmp 31], argTypes := #[54, 42] }, type := 4, pos := "feed.go:97", after := #[{ on := 3, ground := Ground.data }, { on := 8, ground := Ground.data }], guard := none }) rfl (fun K hK => ?_) AllReadyH.nil
  go_simp
  refine (KN.push_rg (l, fun _ => 0) (HR3.out.drewN 1) HQ.out).mono ?_; rintro e w5 ⟨rfl, hR5⟩; have hS5 : St (bareW w0) [(gf, 57, FC gr true kd n hd l)] w5 := bareN hR5.sr.st.below.os hR5.sr.st.below.tape hR5.sr.st.below.output (by simp) (by intro z hz; simp at hz; subst hz; exact hR5.sr.st.get 2 rfl)
  refine hK.out _ _ (by assumption) (fun hHeld => ?_)
  clear hK K
  try simp only [Act.put, List.setIfInBounds_toArray, List.set_cons_zero, List.set_cons_succ]
  refine wpAnyH_done (by kernel_rfl) ?_ _
  have c5b : w5.cell? ⟨gf, 5, none⟩ = some (.int .i64 l) := (hR5.sr.st.get 2 rfl).cell 5
  have f5 := (hR5.sr.st.get 2 rfl).frozen 5
  have hR6 : RG KN w0 ((g4, 42, (#[.int .i64 y.1, .int .i64 (y.2 0), .int .i64 (y.2 1), .int .i64 (y.2 2), .int .i64 (y.2 3), .int .i64 (y.2 4), .int .i64 (y.2 5), .int .i64 (y.2 6), .int .i64 (y.2 7), .int .i64 (y.2 8), .int .i64 (y.2 9), .int .i64 (y.2 10)] : Array Value)) :: (g2, 42, (#[.int .i64 0, .int .i64 0, .int .i64 0, .int .i64 0, .int .i64 0, .int .i64 0, .int .i64 0, .int .i64 0, .int .i64 0, .int .i64 0, .int .i64 0, .int .i64 0] : Array Value)) :: (gf, 57, FC gr true kd n hd 0) :: L) R gr room (q ++ [(l, fun _ => 0)]) (w5.setCell ⟨gf, 5, none⟩ (.int .i64 0)) := hR5.setAt 2 rfl (Only.setCell _ gf 5 _) ((hR5.sr.st.get 2 rfl).set_ 5 (.int .i64 0))
  have ld6 := St.big (w0 := w0) 0 42 _ rfl Try.underlying42 rfl (by kernel_rfl) _ hR6.sr.st
  have HR6 := Lib.hid hR6
  clear hR5 hR6 hS0 G0 G5 hS5 hHeld ld3 c5
  go_wp2_with (first
    | (refine store_atF HR6.out rfl rfl 42 _ _ rfl 1 g2 42 (#[.int .i64 0, .int .i64 0, .int .i64 0, .int .i64 0, .int .i64 0, .int .i64 0, .int .i64 0, .int .i64 0, .int .i64 0, .int .i64 0, .int .i64 0, .int .i64 0] : Array Value) (#[.int .i64 y.1, .int .i64 (y.2 0), .int .i64 (y.2 1), .int .i64 (y.2 2), .int .i64 (y.2 3), .int .i64 (y.2 4), .int .i64 (y.2 5), .int .i64 (y.2 6), .int .i64 (y.2 7), .int .i64 (y.2 8), .int .i64 (y.2 9), .int .i64 (y.2 10)] : Array Value) rfl rfl rfl (by kernel_rfl) rfl (by simp [Value.oneCell']) ?_; intro w9 hR9))
  refine bodyPost_ret (Go.Proofs.Ytjfpmolnipiphaa.results_cell_tmp rfl _ _ g2 42 (#[.int .i64 y.1, .int .i64 (y.2 0), .int .i64 (y.2 1), .int .i64 (y.2 2), .int .i64 (y.2 3), .int .i64 (y.2 4), .int .i64 (y.2 5), .int .i64 (y.2 6), .int .i64 (y.2 7), .int .i64 (y.2 8), .int .i64 (y.2 9), .int .i64 (y.2 10)] : Array Value) _ rfl (hR9.sr.st.get 1 rfl) Try.underlying42 rfl (by kernel_rfl)) rfl ?_
  exact ⟨rfl, hR9.sub ((List.sublist_cons_self _ _).trans (List.sublist_cons_self _ _))⟩
end
end Go.Proofs.Ytjfpmolnipiphaa
