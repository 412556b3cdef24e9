/- Layer 5, rings of hoistway/note.Notice: List hands back a new row of what stands in the ring, in order; nothing that was in memory is changed. No condition. -/
import Derived.Test.YtjfpmolnipiphaaRingN1
import Derived.Deep.LoopGhost
import Derived.Deep.RegionHeld3
import Derived.Deep.DrawnRows
namespace Go.Proofs.Ytjfpmolnipiphaa
open Go.RowKit
attribute [local go_sem ↓] Go.wp_at_zero Go.wp_at_succ

theorem KN.info : (Try.prog.info? 42).map (fun i => (i.zero, i.size, i.bytes)) = some (some (.agg #[.int .i64 0, .int .i64 0, .int .i64 0, .int .i64 0, .int .i64 0, .int .i64 0, .int .i64 0, .int .i64 0, .int .i64 0, .int .i64 0, .int .i64 0, .int .i64 0]), 12, 96) := by kernel_rfl
/-- The cells of things in a row. -/
def KN.flat (q : List (Int × (Nat → Int))) : List Value := q.flatMap KN.ec
theorem KN.flat_take {q : List (Int × (Nat → Int))} {k : Nat} {y : (Int × (Nat → Int))} (h : q[k]? = some y) : KN.flat (q.take (k + 1)) = KN.flat (q.take k) ++ [.int .i64 y.1, .int .i64 (y.2 0), .int .i64 (y.2 1), .int .i64 (y.2 2), .int .i64 (y.2 3), .int .i64 (y.2 4), .int .i64 (y.2 5), .int .i64 (y.2 6), .int .i64 (y.2 7), .int .i64 (y.2 8), .int .i64 (y.2 9), .int .i64 (y.2 10)] := by
  unfold KN.flat
  have hk : k < q.length := by
    rcases Nat.lt_or_ge k q.length with hlt | hge
    · exact hlt
    · rw [List.getElem?_eq_none hge] at h; cases h
  rw [List.take_succ_eq_append_getElem hk, List.flatMap_append]
  rw [List.getElem?_eq_getElem hk] at h
  injection h with h
  rw [h]
  simp
  rfl
section
variable {w : World} {gr fr len room : Nat} {v : Value} {q : List (Int × (Nat → Int))}
theorem KN.at_is (h : RingAt KN w gr v fr len room q) (h0 : 0 < len) (i : Nat) (hi : i ≤ 65536) {ix : Nat} (hix : (fr + i) % len = ix) :
    Calls Try.prog 34 #[.pointer (some ⟨gr, 0, none⟩), .int .i64 (i : Int)] w fun e w' => e = .returned (.int .i64 (ix : Int)) ∧ ∃ n, w' = w.drewN n := hix ▸ KN.at_any h h0 i hi

theorem KN.list_nil (w : World) : Calls Try.prog 36 #[.pointer none] w fun e w' => e = .returned (.slice none 0 0) ∧ w = w' := by
  go_enter Try.func36, Try.ntmps36
  go_wp2_with (go_at_call 22; refine (KN.len_nil _).mono ?_; rintro e w1 ⟨rfl, rfl⟩)
  refine wp_loop_rounds 1 ?_
  rw [rounds_succ]
  go_wp2
  go_ret
  exact ⟨rfl, rfl⟩

set_option maxRecDepth 100000 in
set_option maxHeartbeats 4000000 in
theorem KN.list_any (h : RingAt KN w gr v fr len room q) :
    Calls Try.prog 36 #[.pointer (some ⟨gr, 0, none⟩)] w fun e w' => ∃ v2, e = .returned v2 ∧ w'.ownsRow w.heap.size 42 12 v2 q.length (KN.flat q) ∧ Below w.heap.size w w' := by
  have hS := (SR.ofSt (St.nil w)).nilRow 42 12
  have hlr := h.lenroom
  have hr2 := h.room2
  have hnl := h.nlen
  have hq1 : (q.length : Int) ≤ 65536 := by omega
  have hq0 : (0 : Int) ≤ (q.length : Int) := by omega
  have H := Lib.hid h
  have hgrl := h.obj.lt
  have HGR := Lib.hid hgrl
  clear h hlr hr2 hnl hgrl
  go_enter Try.func36, Try.ntmps36
  go_wp2_with (go_at_call 22; refine (KN.len_any H.out).mono ?_; rintro e w1 ⟨rfl, rfl⟩)
  go_loopg [3, 7] q.length (fun m o i wr => ∃ k : Nat, m + k = q.length ∧ i = .int .i64 k ∧ SR w [] [⟨o, 42, 12, k, KN.flat (q.take k)⟩] wr)
  case atStart => exact ⟨0, by omega, rfl, hS⟩
  case round =>
    clear hS
    obtain ⟨k, hk, rfl, hR⟩ := hrel
    have k0 : (0 : Int) ≤ (k : Int) := by omega
    have hlr := H.out.lenroom
    have hr2 := H.out.room2
    have hnl := H.out.nlen
    by_cases hlt : k < q.length
    · have hkz : (k : Int) < (q.length : Int) := by omega
      obtain ⟨y, hy⟩ : ∃ y, q[k]? = some y := ⟨_, List.getElem?_eq_getElem hlt⟩
      have hl0 : 0 < len := by omega
      obtain ⟨ix, hix⟩ : ∃ ix, (fr + k) % len = ix := ⟨_, rfl⟩
      have hixl : ix < len := by rw [← hix]; exact Nat.mod_lt _ hl0
      obtain ⟨g, cs, rfl, hne, hb, hcz, hfr, hcs⟩ : ∃ g cs, v = .slice (some ⟨g, 0, none⟩) len len ∧ g ≠ gr ∧ Blk w g 42 cs ∧ cs.size = len * 12 ∧ fr < len ∧ ∀ i x, q[i]? = some x → ∀ j, j < 12 → cs[(fr + i) % len * 12 + j]? = (KN.ec x)[j]? := by
        rcases H.out.cells with ⟨h1, _⟩ | hc
        · omega
        · exact hc
      have hgl := hb.lt
      have z1 : (0 : Int) ≤ (ix : Int) := by omega
      have z2 : (ix : Int) < (len : Int) := by omega
      have z3 : (len : Int) ≤ 65536 := by omega
      have q0 : ∀ W, SR w [] [] W → W.cell? ⟨gr, 0, none⟩ = some (.slice (some ⟨g, 0, none⟩) len len) := fun W hW => (hW.oldCell HGR.out).trans (KN.c0 H.out)
      have qe : ∀ W, SR w [] [] W → (loadBig 42 ⟨g, ix * 12, none⟩).run Try.prog W = .ok (.agg #[.int .i64 y.1, .int .i64 (y.2 0), .int .i64 (y.2 1), .int .i64 (y.2 2), .int .i64 (y.2 3), .int .i64 (y.2 4), .int .i64 (y.2 5), .int .i64 (y.2 6), .int .i64 (y.2 7), .int .i64 (y.2 8), .int .i64 (y.2 9), .int .i64 (y.2 10)]) W := fun W hW => big_mid 42 #[.int .i64 y.1, .int .i64 (y.2 0), .int .i64 (y.2 1), .int .i64 (y.2 2), .int .i64 (y.2 3), .int .i64 (y.2 4), .int .i64 (y.2 5), .int .i64 (y.2 6), .int .i64 (y.2 7), .int .i64 (y.2 8), .int .i64 (y.2 9), .int .i64 (y.2 10)] _ (fun j v hj => (hW.oldCell hgl).trans ((hb.cell _).trans (by rw [← hix]; exact (hcs k y hy j (by have := lt_of_get hj; exact this)).trans hj))) Try.underlying42 rfl (by kernel_rfl)
      have hRW : ∀ W, SR w [] [] W → RingAt KN W gr (.slice (some ⟨g, 0, none⟩) len len) fr len room q := fun W hW => by
        have hf : Frame w W [] := ⟨hW.st.below.os, hW.st.below.tape, hW.st.below.output, hW.st.below.size, fun k hk _ => hW.st.below.block k hk⟩
        exact H.out.frame hf (by simp) (by simp)
      have HK := Lib.hid hk
      have HY := Lib.hid hy
      have HL := Lib.hid hlt
      clear hk hy hlt hcs hcz
      go_wp2_with fail
      have hRr := hR.drew
      have hS0 := hRr.dropRow
      refine wp_region_held_drew (S := SR w [] []) (by kernel_rfl) hS0 (fun hHeld => ?_)
      refine wpAnyH_take (i := 0) (oi := { dst := some 10, op := Op.move (Operand.tmp 3), type := 33, pos := "ring.go:86", after := #[], guard := none }) (v := ?_) rfl (by kernel_rfl) (by kernel_rfl) (by kernel_rfl) (fun _ _ _ h => h) (Or.inl ⟨by rfl, ?_⟩) (by assumption) ?_
      rotate_left
      · (intro W hSw; go_simp; first | done | with_reducible rfl)
      try simp only [Act.put, List.setIfInBounds_toArray, List.set_cons_zero, List.set_cons_succ]
      refine wpAnyH_take (i := 1) (oi := { dst := some 11, op := Op.move (Operand.tmp 0), type := 54, pos := "ring.go:86", after := #[], guard := none }) (v := ?_) rfl (by kernel_rfl) (by kernel_rfl) (by kernel_rfl) (fun _ _ _ h => h) (Or.inl ⟨by rfl, ?_⟩) (by assumption) ?_
      rotate_left
      · (intro W hSw; go_simp; first | done | with_reducible rfl)
      try simp only [Act.put, List.setIfInBounds_toArray, List.set_cons_zero, List.set_cons_succ]
      refine wpAnyH_take (i := 2) (oi := { dst := some 12, op := Op.nilCheck (Operand.tmp 11), type := 0, pos := "ring.go:86", after := #[{ on := 1, ground := Ground.data }], guard := none }) (v := ?_) rfl (by kernel_rfl) (by kernel_rfl) (by kernel_rfl) (fun _ _ _ h => h) (Or.inl ⟨by rfl, ?_⟩) (by assumption) ?_
      rotate_left
      · (intro W hSw; go_simp; first | done | with_reducible rfl)
      try simp only [Act.put, List.setIfInBounds_toArray, List.set_cons_zero, List.set_cons_succ]
      refine wpAnyH_take (i := 3) (oi := { dst := some 13, op := Op.fieldAddr 73 (Operand.tmp 12) 0, type := 0, pos := "ring.go:86", after := #[{ on := 2, ground := Ground.data }], guard := none }) (v := ?_) rfl (by kernel_rfl) (by kernel_rfl) (by kernel_rfl) (fun _ _ _ h => h) (Or.inl ⟨by rfl, ?_⟩) (by assumption) ?_
      rotate_left
      · (intro W hSw; go_simp; first | done | with_reducible rfl)
      try simp only [Act.put, List.setIfInBounds_toArray, List.set_cons_zero, List.set_cons_succ]
      refine wpAnyH_take (i := 4) (oi := { dst := some 14, op := Op.load 33 (Operand.tmp 13), type := 33, pos := "ring.go:86", after := #[{ on := 3, ground := Ground.data }], guard := none }) (v := ?_) rfl (by kernel_rfl) (by kernel_rfl) (by kernel_rfl) (fun _ _ _ h => h) (Or.inl ⟨by rfl, ?_⟩) (by assumption) ?_
      rotate_left
      · (intro W hSw; go_simp; first | done | with_reducible rfl)
      try simp only [Act.put, List.setIfInBounds_toArray, List.set_cons_zero, List.set_cons_succ]
      refine wpAnyH_take (i := 5) (oi := { dst := some 15, op := Op.move (Operand.tmp 0), type := 54, pos := "ring.go:86", after := #[], guard := none }) (v := ?_) rfl (by kernel_rfl) (by kernel_rfl) (by kernel_rfl) (fun _ _ _ h => h) (Or.inl ⟨by rfl, ?_⟩) (by assumption) ?_
      rotate_left
      · (intro W hSw; go_simp; first | done | with_reducible rfl)
      try simp only [Act.put, List.setIfInBounds_toArray, List.set_cons_zero, List.set_cons_succ]
      refine wpAnyH_take (i := 6) (oi := { dst := some 16, op := Op.move (Operand.tmp 4), type := 3, pos := "ring.go:86", after := #[], guard := none }) (v := ?_) rfl (by kernel_rfl) (by kernel_rfl) (by kernel_rfl) (fun _ _ _ h => h) (Or.inl ⟨by rfl, ?_⟩) (by assumption) ?_
      rotate_left
      · (intro W hSw; go_simp; first | done | with_reducible rfl)
      try simp only [Act.put, List.setIfInBounds_toArray, List.set_cons_zero, List.set_cons_succ]
      refine wpAnyH_ready (rs := [7]) (by kernel_rfl) (by simp) ?_
      refine AllReadyH.cons (o := { dst := some 17, op := Op.call { callee := Callee.value (Operand.func 34), args := #[Operand.tmp 15, Operand.tmp 16], argTypes := #[54, 3] }, type := 3, pos := "ring.go:86", after := #[{ on := 5, ground := Ground.data }, { on := 6, ground := Ground.data }], guard := none }) rfl (fun K hK => ?_) AllReadyH.nil
      go_simp
      refine (KN.at_is (q := q) (hRW _ hHeld) hl0 k (by omega) hix).mono ?_; rintro e w9 ⟨rfl, na, rfl⟩; have hR9 := hRr.drewN na; have hS9 := hR9.dropRow
      refine hK.out _ _ (by assumption) (fun hHeld => ?_)
      clear hK K
      try simp only [Act.put, List.setIfInBounds_toArray, List.set_cons_zero, List.set_cons_succ]
      refine wpAnyH_take (i := 8) (oi := { dst := some 18, op := Op.indexAddr 33 (Operand.tmp 14) (Operand.tmp 17), type := 0, pos := "ring.go:86", after := #[{ on := 4, ground := Ground.data }, { on := 7, ground := Ground.data }], guard := none }) (v := ?_) rfl (by kernel_rfl) (by kernel_rfl) (by kernel_rfl) (fun _ _ _ h => h) (Or.inl ⟨by rfl, ?_⟩) (by assumption) ?_
      rotate_left
      · (intro W hSw; go_simp; first | done | with_reducible rfl)
      try simp only [Act.put, List.setIfInBounds_toArray, List.set_cons_zero, List.set_cons_succ]
      refine wpAnyH_take (i := 9) (oi := { dst := some 19, op := Op.load 42 (Operand.tmp 18), type := 42, pos := "ring.go:86", after := #[{ on := 8, ground := Ground.data }], guard := none }) (v := ?_) rfl (by kernel_rfl) (by kernel_rfl) (by kernel_rfl) (fun _ _ _ h => h) (Or.inl ⟨by rfl, ?_⟩) (by assumption) ?_
      rotate_left
      · (intro W hSw; go_simp; first | done | with_reducible rfl)
      try simp only [Act.put, List.setIfInBounds_toArray, List.set_cons_zero, List.set_cons_succ]
      refine wpAnyH_ready (rs := [10]) (by kernel_rfl) (by simp) ?_
      refine AllReadyH.cons (o := { dst := some 20, op := Op.buildSlice 33 1 #[(0, Operand.tmp 19)], type := 33, pos := "ring.go:86", after := #[{ on := 9, ground := Ground.data }], guard := none }) rfl (fun K hK => ?_) AllReadyH.nil
      go_simp
      have hR7 := hR9; simp only [World.drewN_drew] at hR7; have hSA := SR.old hR7.dropRow (.cells #[.int .i64 y.1, .int .i64 (y.2 0), .int .i64 (y.2 1), .int .i64 (y.2 2), .int .i64 (y.2 3), .int .i64 (y.2 4), .int .i64 (y.2 5), .int .i64 (y.2 6), .int .i64 (y.2 7), .int .i64 (y.2 8), .int .i64 (y.2 9), .int .i64 (y.2 10)] 42)
      refine hK.out _ _ (by assumption) (fun hHeld => ?_)
      clear hK K
      try simp only [Act.put, List.setIfInBounds_toArray, List.set_cons_zero, List.set_cons_succ]
      refine wpAnyH_ready (rs := [11]) (by kernel_rfl) (by simp) ?_
      refine AllReadyH.cons (o := { dst := some 21, op := Op.call { callee := Callee.builtin Builtin.append, args := #[Operand.tmp 10, Operand.tmp 20], argTypes := #[33, 33] }, type := 33, pos := "ring.go:86", after := #[{ on := 0, ground := Ground.data }, { on := 10, ground := Ground.data }, { on := 7, ground := Ground.chain }], guard := none }) rfl (fun K hK => ?_) AllReadyH.nil
      refine step_app_row (SR.old hR7 _) (by rfl) _ _ 33 (by rfl) (.agg #[.int .i64 0, .int .i64 0, .int .i64 0, .int .i64 0, .int .i64 0, .int .i64 0, .int .i64 0, .int .i64 0, .int .i64 0, .int .i64 0, .int .i64 0, .int .i64 0]) 96 Try.underlying33 KN.info (by rfl) (by show 0 < 12; omega) (by rfl) _ #[.int .i64 y.1, .int .i64 (y.2 0), .int .i64 (y.2 1), .int .i64 (y.2 2), .int .i64 (y.2 3), .int .i64 (y.2 4), .int .i64 (y.2 5), .int .i64 (y.2 6), .int .i64 (y.2 7), .int .i64 (y.2 8), .int .i64 (y.2 9), .int .i64 (y.2 10)] 42 (by rfl) (Blk.new _ _ _) (by rfl) (by simp [Value.oneCell']) (by (try simp only); omega) (by omega) ?_; intro v9 w9 hR8; have hS8 := hR8.dropRow
      refine hK.out _ _ (by assumption) (fun hHeld => ?_)
      clear hK K
      try simp only [Act.put, List.setIfInBounds_toArray, List.set_cons_zero, List.set_cons_succ]
      refine wpAnyH_take (i := 12) (oi := { dst := some 3, op := Op.assign (Operand.tmp 21), type := 33, pos := "ring.go:86", after := #[{ on := 11, ground := Ground.data }, { on := 11, ground := Ground.chain }, { on := 0, ground := Ground.phase }, { on := 1, ground := Ground.phase }, { on := 2, ground := Ground.phase }, { on := 3, ground := Ground.phase }, { on := 4, ground := Ground.phase }, { on := 5, ground := Ground.phase }, { on := 6, ground := Ground.phase }, { on := 7, ground := Ground.phase }, { on := 8, ground := Ground.phase }, { on := 9, ground := Ground.phase }, { on := 10, ground := Ground.phase }, { on := 11, ground := Ground.phase }], guard := none }) (v := ?_) rfl (by kernel_rfl) (by kernel_rfl) (by kernel_rfl) (fun _ _ _ h => h) (Or.inl ⟨by rfl, ?_⟩) (by assumption) ?_
      rotate_left
      · (intro W hSw; go_simp; first | done | with_reducible rfl)
      try simp only [Act.put, List.setIfInBounds_toArray, List.set_cons_zero, List.set_cons_succ]
      refine wpAnyH_done (by kernel_rfl) ?_ _
      go_wp2_with fail
      go_roundg (gk - 1)
      case measure => have := HK.out; have := HL.out; omega
      case rel => exact ⟨k + 1, by have := HK.out; have := HL.out; omega, by go_num, by rw [KN.flat_take HY.out]; exact hR8⟩
    · obtain rfl : k = q.length := by omega
      rw [List.take_length] at hR
      clear hlt hk hlr hr2 hnl
      go_wp2_with fail
      go_ret
      exact ⟨_, rfl, hR.own _ List.mem_cons_self, hR.below⟩
end
end Go.Proofs.Ytjfpmolnipiphaa
