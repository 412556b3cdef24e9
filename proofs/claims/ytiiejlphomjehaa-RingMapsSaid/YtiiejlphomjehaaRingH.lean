/- Layer 5: the reference's Pop. No condition. -/
import Derived.Test.YtiiejlphomjehaaRingG
namespace Go.Proofs.Ytiiejlphomjehaa
open Go.RowKit

section
variable {ops : Array Oper} {o : Oper} {a : Act} {w0 w : World} {Q : Exit → Act → World → Prop} {L : List (Nat × TypeId × Array Value)} {R : List Ow} {v : Value} {n : Nat} {xs : List Value}
theorem step_app_src {K : Act → World → Prop} {E : Prop} (hS : SR w0 L (⟨v, 3, 1, n, xs⟩ :: R) w) (hgd : o.guard = none) (s x : Operand) (ho : o.op = .call { callee := .builtin .append, args := #[s, x], argTypes := #[22, 22] }) (hs : a.eval s = v)
    (l : List Int) (g f cap : Nat) (hx : a.eval x = .slice (some ⟨g, f, none⟩) l.length cap) (hc : ∀ i y, l[i]? = some y → w.cell? ⟨g, f + i, none⟩ = some (.int .i64 y)) (hn : n ≤ 1000000) (hl : l.length ≤ 1000000)
    (h : ∀ v' w', SR w0 L (⟨v', 3, 1, n + l.length, xs ++ KI.flat l⟩ :: R) w' → K (a.put o.dst v') w') : if Region.wanted o (yielded ops a.tmps) = true then Oper.wp Try.prog o a w K Q else E := by
  have hw : Region.wanted o (yielded ops a.tmps) = true := by simp [Region.wanted, hgd]
  rw [if_pos hw]
  obtain ⟨i0, hi, hz0, hz1, hz2⟩ := info_parts KI.info
  obtain ⟨v', w', hr, h2, h3, _, h5⟩ := run_append_own_at (P := Try.prog) w w0.heap.size 22 o.type 3 i0 _ 1 8 Try.underlying22 hi hz0 hz1 hz2 rfl (by omega) v n xs (hS.own _ List.mem_cons_self) ⟨g, f, none⟩ l.length cap (KI.flat l) (by rw [flat_int]; simp) (by
    intro j u hj
    rw [flat_int, List.getElem?_map] at hj
    obtain ⟨y, hy, rfl⟩ := Option.map_eq_some_iff.1 hj
    rw [Go.WideShapes.add_plain]
    exact hc j y hy) (by
    intro u hu
    rw [flat_int] at hu
    obtain ⟨y, _, rfl⟩ := List.mem_map.1 hu
    rfl) (by unfold maxLen; omega) (by
    have : (n + l.length) * 8 ≤ 2000000 * 8 := Nat.mul_le_mul (by omega) (Nat.le_refl _)
    omega) hS.st.below.size
  unfold Oper.wp execOp
  simp only [ho, resolve, invoke, builtin, Sem.run_bind, Sem.run_pure, Result.andThen_ok, List.map_toArray, List.map_cons, List.map_nil, hs, hx, hr]
  exact h v' w' (hS.appended h2 h3 h5)
end
theorem rpop_nil {w : World} {v : Value} (h : Rs w v []) : Calls Try.prog 18 #[v] w fun e w' => e = .returned (.tuple #[v, .int .i64 0, .bool false]) ∧ w = w' := by
  obtain ⟨p, cap, rfl, _⟩ := h
  show Calls Try.prog 18 #[.slice p 0 cap] w _
  go_enter Try.func18, Try.ntmps18
  go_wp2
  go_ret3
  exact ⟨rfl, rfl⟩
set_option maxRecDepth 100000 in
set_option maxHeartbeats 4000000 in
theorem rpop_cons {w : World} {v : Value} {y : Int} {l : List Int} (h : Rs w v (y :: l)) (hcap : ∀ p n cap, v = .slice p n cap → n ≤ cap) (hm : l.length ≤ 1000) : Calls Try.prog 18 #[v] w fun e w' => ∃ v2, e = .returned (.tuple #[v2, .int .i64 y, .bool true]) ∧ SR w [] [⟨v2, 3, 1, l.length, KI.flat l⟩] w' := by
  obtain ⟨p, cap, rfl, hp, hc⟩ := h
  obtain ⟨g, rfl, hg⟩ := hc 0 y rfl
  obtain ⟨n, hn⟩ : ∃ n, (y :: l).length = n := ⟨_, rfl⟩
  have hn1 : (n : Int) = (l.length : Int) + 1 := by rw [← hn]; simp
  have hn2 : n - 1 = l.length := by rw [← hn]; simp
  have hcn := hcap _ _ _ rfl
  have z0 : (1 : Int) ≤ (n : Int) := by omega
  have z0' : ¬ (n : Int) = 0 := by omega
  have z0'' : (0 : Int) < (n : Int) := by omega
  have z2 : 0 < n := by omega
  have z1 : (n : Int) ≤ 1001 := by omega
  have hgl : g < w.heap.size := World.block_lt_of_cell? w _ hg
  have q0 : ∀ W, SR w [] [] W → W.cell? ⟨g, 0, none⟩ = some (.int .i64 y) := fun W hW => (hW.oldCell hgl).trans hg
  obtain ⟨f, hf, hc2⟩ : ∃ f, (if cap = 1 then some (⟨g, 0, none⟩ : Addr) else some ⟨g, 1, none⟩) = some ⟨g, f, none⟩ ∧ ∀ W, SR w [] [] W → ∀ i x, l[i]? = some x → W.cell? ⟨g, f + i, none⟩ = some (.int .i64 x) := by
    by_cases h1 : cap = 1
    · refine ⟨0, if_pos h1, fun W hW i x hx => ?_⟩
      have := lt_of_get hx
      omega
    · refine ⟨1, if_neg h1, fun W hW i x hx => ?_⟩
      obtain ⟨g', he, hcx⟩ := hc (i + 1) x hx
      injection he with he
      injection he with he
      subst he
      rw [Nat.add_comm 1 i]
      exact (hW.oldCell hgl).trans hcx
  rw [hn]
  have HC2 := Lib.hid hc2
  clear hc hp hn hc2 hn1 hcap hcn
  have hS0 : SR w [] [] w.drew := (SR.ofSt (St.nil w)).drew
  go_enter Try.func18, Try.ntmps18
  go_wp2_with fail
  refine wp_region_held_drew (S := SR w [] []) (by kernel_rfl) hS0 (fun hHeld => ?_)
  refine wpAnyH_take (i := 1) (oi := { dst := some 10, op := Op.move (Operand.tmp 0), type := 22, pos := "ref.go:17", after := #[], guard := none }) (v := ?_) rfl (by kernel_rfl) (by kernel_rfl) (by kernel_rfl) (fun _ _ _ h => h) (Or.inl ⟨by rfl, ?_⟩) (by assumption) ?_
  rotate_left
  · (intro W hSw; go_simp; first | done | with_reducible rfl)
  try simp only [Act.put, List.setIfInBounds_toArray, List.set_cons_zero, List.set_cons_succ]
  refine wpAnyH_take (i := 2) (oi := { dst := some 11, op := Op.slice 22 (Operand.tmp 10) (some (Operand.const (Value.int IntKind.i64 1))) none none, type := 22, pos := "ref.go:17", after := #[{ on := 1, ground := Ground.data }], guard := none }) (v := ?_) rfl (by kernel_rfl) (by kernel_rfl) (by kernel_rfl) (fun _ _ _ h => h) (Or.inl ⟨by rfl, ?_⟩) (by assumption) ?_
  rotate_left
  · (intro W hSw; go_simp; first | done | with_reducible rfl)
  try simp only [Act.put, List.setIfInBounds_toArray, List.set_cons_zero, List.set_cons_succ]
  refine wpAnyH_take (i := 4) (oi := { dst := some 13, op := Op.move (Operand.tmp 0), type := 22, pos := "ref.go:17", after := #[{ on := 7, ground := Ground.gcOnly Departure.lateStores }], guard := none }) (v := ?_) rfl (by kernel_rfl) (by kernel_rfl) (by kernel_rfl) (fun _ _ _ h => h) (Or.inl ⟨by rfl, ?_⟩) (by assumption) ?_
  rotate_left
  · (intro W hSw; go_simp; first | done | with_reducible rfl)
  try simp only [Act.put, List.setIfInBounds_toArray, List.set_cons_zero, List.set_cons_succ]
  refine wpAnyH_take (i := 5) (oi := { dst := some 14, op := Op.indexAddr 22 (Operand.tmp 13) (Operand.const (Value.int IntKind.i64 0)), type := 0, pos := "ref.go:17", after := #[{ on := 4, ground := Ground.data }, { on := 7, ground := Ground.gcOnly Departure.lateStores }], guard := none }) (v := ?_) rfl (by kernel_rfl) (by kernel_rfl) (by kernel_rfl) (fun _ _ _ h => h) (Or.inl ⟨by rfl, ?_⟩) (by assumption) ?_
  rotate_left
  · (intro W hSw; go_simp; first | done | with_reducible rfl)
  try simp only [Act.put, List.setIfInBounds_toArray, List.set_cons_zero, List.set_cons_succ]
  refine wpAnyH_take (i := 6) (oi := { dst := some 15, op := Op.load 3 (Operand.tmp 14), type := 3, pos := "ref.go:17", after := #[{ on := 5, ground := Ground.data }, { on := 7, ground := Ground.gcOnly Departure.lateStores }], guard := none }) (v := ?_) rfl (by kernel_rfl) (by kernel_rfl) (by kernel_rfl) (fun _ _ _ h => h) (Or.inl ⟨by rfl, ?_⟩) (by assumption) ?_
  rotate_left
  · (intro W hSw; go_simp; first | done | with_reducible rfl)
  try simp only [Act.put, List.setIfInBounds_toArray, List.set_cons_zero, List.set_cons_succ]
  refine wpAnyH_ready (rs := [0]) (by kernel_rfl) (by simp) ?_
  refine AllReadyH.cons (o := { dst := some 9, op := Op.buildSlice 22 0 #[], type := 22, pos := "ref.go:17", after := #[], guard := none }) rfl (fun K hK => ?_) AllReadyH.nil
  go_simp
  have hR7 := hS0.newRow KI.T 1 0 #[] (by decide) rfl; have hS7 := hR7.dropRow
  refine hK.out _ _ (by assumption) (fun hHeld => ?_)
  clear hK K
  try simp only [Act.put, List.setIfInBounds_toArray, List.set_cons_zero, List.set_cons_succ]
  refine wpAnyH_ready (rs := [3]) (by kernel_rfl) (by simp) ?_
  refine AllReadyH.cons (o := { dst := some 12, op := Op.call { callee := Callee.builtin Builtin.append, args := #[Operand.tmp 9, Operand.tmp 11], argTypes := #[22, 22] }, type := 22, pos := "ref.go:17", after := #[{ on := 0, ground := Ground.data }, { on := 2, ground := Ground.data }], guard := none }) rfl (fun K hK => ?_) AllReadyH.nil
  refine step_app_src hR7 (by rfl) _ _ (by rfl) (by rfl) l g f (cap - 1) (by rfl) (HC2.out _ hS7) (by omega) (by omega) ?_; intro v9 w9 hR8; have hS8 := hR8.dropRow
  refine hK.out _ _ (by assumption) (fun hHeld => ?_)
  clear hK K
  try simp only [Act.put, List.setIfInBounds_toArray, List.set_cons_zero, List.set_cons_succ]
  refine wpAnyH_take (i := 7) (oi := { dst := some 2, op := Op.assign (Operand.tmp 12), type := 22, pos := "ref.go:17", after := #[{ on := 3, ground := Ground.data }, { on := 3, ground := Ground.chain }, { on := 0, ground := Ground.phase }, { on := 1, ground := Ground.phase }, { on := 2, ground := Ground.phase }, { on := 3, ground := Ground.phase }, { on := 4, ground := Ground.textOnly Departure.lateStores }, { on := 5, ground := Ground.textOnly Departure.lateStores }, { on := 6, ground := Ground.textOnly Departure.lateStores }], guard := none }) (v := ?_) rfl (by kernel_rfl) (by kernel_rfl) (by kernel_rfl) (fun _ _ _ h => h) (Or.inl ⟨by rfl, ?_⟩) (by assumption) ?_
  rotate_left
  · (intro W hSw; go_simp; first | done | with_reducible rfl)
  try simp only [Act.put, List.setIfInBounds_toArray, List.set_cons_zero, List.set_cons_succ]
  refine wpAnyH_take (i := 8) (oi := { dst := some 3, op := Op.assign (Operand.tmp 15), type := 3, pos := "ref.go:17", after := #[{ on := 6, ground := Ground.data }, { on := 7, ground := Ground.chain }, { on := 0, ground := Ground.phase }, { on := 1, ground := Ground.phase }, { on := 2, ground := Ground.phase }, { on := 3, ground := Ground.phase }, { on := 4, ground := Ground.phase }, { on := 5, ground := Ground.phase }, { on := 6, ground := Ground.phase }, { on := 7, ground := Ground.phase }], guard := none }) (v := ?_) rfl (by kernel_rfl) (by kernel_rfl) (by kernel_rfl) (fun _ _ _ h => h) (Or.inl ⟨by rfl, ?_⟩) (by assumption) ?_
  rotate_left
  · (intro W hSw; go_simp; first | done | with_reducible rfl)
  try simp only [Act.put, List.setIfInBounds_toArray, List.set_cons_zero, List.set_cons_succ]
  refine wpAnyH_take (i := 9) (oi := { dst := some 4, op := Op.assign (Operand.const (Value.bool true)), type := 4, pos := "ref.go:17", after := #[{ on := 8, ground := Ground.chain }, { on := 0, ground := Ground.phase }, { on := 1, ground := Ground.phase }, { on := 2, ground := Ground.phase }, { on := 3, ground := Ground.phase }, { on := 4, ground := Ground.phase }, { on := 5, ground := Ground.phase }, { on := 6, ground := Ground.phase }, { on := 7, ground := Ground.phase }, { on := 8, ground := Ground.phase }], guard := none }) (v := ?_) rfl (by kernel_rfl) (by kernel_rfl) (by kernel_rfl) (fun _ _ _ h => h) (Or.inl ⟨by rfl, ?_⟩) (by assumption) ?_
  rotate_left
  · (intro W hSw; go_simp; first | done | with_reducible rfl)
  try simp only [Act.put, List.setIfInBounds_toArray, List.set_cons_zero, List.set_cons_succ]
  refine wpAnyH_done (by kernel_rfl) ?_ _
  go_wp2_with fail
  go_ret3
  rw [Nat.zero_add, List.nil_append] at hR8
  exact ⟨_, rfl, hR8⟩
end Go.Proofs.Ytiiejlphomjehaa
