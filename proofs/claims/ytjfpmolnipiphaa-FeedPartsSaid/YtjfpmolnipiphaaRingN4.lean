/- Layer 5, rings of hoistway/note.Notice: grow. No condition. -/
import Derived.Test.YtjfpmolnipiphaaRingN2
import Derived.Test.YtjfpmolnipiphaaRingMath
import Derived.Deep.RegionWith
namespace Go.Proofs.Ytjfpmolnipiphaa
open Go.RowKit
attribute [local go_sem ↓] Go.wp_at_zero Go.wp_at_succ

section
variable {w : World} {gr fr len room : Nat} {v : Value} {q : List (Int × (Nat → Int))}
set_option maxRecDepth 100000 in
set_option maxHeartbeats 4000000 in
theorem KN.grow_any (h : RingAt KN w gr v fr len room q) (hl : q.length = len) (hlt : len < room) :
    Calls Try.prog 35 #[.pointer (some ⟨gr, 0, none⟩)] w fun e w' => e = .returned (.tuple #[]) ∧ ∃ g len', RingAt KN w' gr (.slice (some ⟨g, 0, none⟩) len' len') 0 len' room q ∧ len < len' ∧ Frame w w' [gr] ∧ w.heap.size ≤ g := by
  have H := Lib.hid h
  have hr2 := h.room2
  obtain ⟨p, rfl⟩ : ∃ p, v = .slice p len len := by
    rcases h.cells with ⟨rfl, rfl, _⟩ | ⟨g, cs, rfl, _⟩
    · exact ⟨_, rfl⟩
    · exact ⟨_, rfl⟩
  obtain ⟨len', hlen', hl', hlr⟩ : ∃ len' : Nat, (if (if (4 : Int) < 2 * (len : Int) then 2 * (len : Int) else 4) < (room : Int) then if (4 : Int) < 2 * (len : Int) then 2 * (len : Int) else 4 else (room : Int)) = (len' : Int) ∧ len < len' ∧ len' ≤ room := by
    refine ⟨if 4 < 2 * len then (if 2 * len < room then 2 * len else room) else (if 4 < room then 4 else room), ?_, ?_, ?_⟩ <;> (repeat' split) <;> omega
  have e1 : IntKind.i64.wrap (2 * (len : Int)) = 2 * (len : Int) := IntWalk.i64_in _ (by omega)
  have hmk := run_make_any (P := Try.prog) 33 42 (.agg #[.int .i64 0, .int .i64 0, .int .i64 0, .int .i64 0, .int .i64 0, .int .i64 0, .int .i64 0, .int .i64 0, .int .i64 0, .int .i64 0, .int .i64 0, .int .i64 0]) 12 96 Try.underlying33 KN.info len' (by omega) (by omega)
  obtain ⟨zs, hzs⟩ : ∃ zs, madeCells (.agg #[.int .i64 0, .int .i64 0, .int .i64 0, .int .i64 0, .int .i64 0, .int .i64 0, .int .i64 0, .int .i64 0, .int .i64 0, .int .i64 0, .int .i64 0, .int .i64 0] : Value).cells (len' * 12) = zs := ⟨_, rfl⟩
  rw [hzs] at hmk
  have HL := Lib.hid hl
  clear h hl
  go_enter Try.func35, Try.ntmps35
  go_wp2_with (go_at_call 36; refine (KN.list_any H.out).mono ?_; rintro e w1 ⟨v2, rfl, hown, hB⟩)
  have h1 := H.out.frame (Frame.ofBelow hB []) (by simp) (by simp)
  have hS := bare_start h1.obj
  have Q0 : ∀ W, St (bareW w) [(gr, 73, #[.slice p len len, .int .i64 (fr : Int), .int .i64 (q.length : Int), .int .i64 (room : Int)])] W → W.cell? ⟨gr, 0, none⟩ = some (.slice p len len) := fun W hW => (hW.get 0 rfl).cell 0
  have Q3 : ∀ W, St (bareW w) [(gr, 73, #[.slice p len len, .int .i64 (fr : Int), .int .i64 (q.length : Int), .int .i64 (room : Int)])] W → W.cell? ⟨gr, 3, none⟩ = some (.int .i64 (room : Int)) := fun W hW => (hW.get 0 rfl).cell 3
  have hS0 : St (bareW w) [(gr, 73, #[.slice p len len, .int .i64 (fr : Int), .int .i64 (q.length : Int), .int .i64 (room : Int)])] w1.drew := ⟨⟨by have := hB.os; exact this, by have := hB.tape; exact this, by have := hB.output; exact this, Nat.zero_le _, fun k hk => absurd hk (Nat.not_lt_zero k)⟩, hS.nodup, hS.drew.blk⟩
  refine wp_region_held_drew (S := St (bareW w) [(gr, 73, #[.slice p len len, .int .i64 (fr : Int), .int .i64 (q.length : Int), .int .i64 (room : Int)])]) (by kernel_rfl) hS0 (fun hHeld => ?_)
  refine wpAnyH_take (i := 0) (oi := { dst := some 6, op := Op.move (Operand.tmp 0), type := 54, pos := "ring.go:44", after := #[], guard := none }) (v := ?_) rfl (by kernel_rfl) (by kernel_rfl) (by kernel_rfl) (fun _ _ _ h => h) (Or.inl ⟨by rfl, ?_⟩) (by assumption) ?_
  rotate_left
  · (intro W hSw; go_simp; first | done | with_reducible rfl)
  try simp only [Act.put, List.setIfInBounds_toArray, List.set_cons_zero, List.set_cons_succ]
  refine wpAnyH_take (i := 1) (oi := { dst := some 7, op := Op.nilCheck (Operand.tmp 6), type := 0, pos := "ring.go:44", after := #[{ on := 0, ground := Ground.data }], guard := none }) (v := ?_) rfl (by kernel_rfl) (by kernel_rfl) (by kernel_rfl) (fun _ _ _ h => h) (Or.inl ⟨by rfl, ?_⟩) (by assumption) ?_
  rotate_left
  · (intro W hSw; go_simp; first | done | with_reducible rfl)
  try simp only [Act.put, List.setIfInBounds_toArray, List.set_cons_zero, List.set_cons_succ]
  refine wpAnyH_take (i := 2) (oi := { dst := some 8, op := Op.fieldAddr 73 (Operand.tmp 7) 3, type := 0, pos := "ring.go:44", after := #[{ on := 1, ground := Ground.data }], guard := none }) (v := ?_) rfl (by kernel_rfl) (by kernel_rfl) (by kernel_rfl) (fun _ _ _ h => h) (Or.inl ⟨by rfl, ?_⟩) (by assumption) ?_
  rotate_left
  · (intro W hSw; go_simp; first | done | with_reducible rfl)
  try simp only [Act.put, List.setIfInBounds_toArray, List.set_cons_zero, List.set_cons_succ]
  refine wpAnyH_take (i := 3) (oi := { dst := some 9, op := Op.load 3 (Operand.tmp 8), type := 3, pos := "ring.go:44", after := #[{ on := 2, ground := Ground.data }], guard := none }) (v := ?_) rfl (by kernel_rfl) (by kernel_rfl) (by kernel_rfl) (fun _ _ _ h => h) (Or.inl ⟨by rfl, ?_⟩) (by assumption) ?_
  rotate_left
  · (intro W hSw; go_simp; first | done | with_reducible rfl)
  try simp only [Act.put, List.setIfInBounds_toArray, List.set_cons_zero, List.set_cons_succ]
  refine wpAnyH_take (i := 4) (oi := { dst := some 10, op := Op.move (Operand.tmp 0), type := 54, pos := "ring.go:44", after := #[], guard := none }) (v := ?_) rfl (by kernel_rfl) (by kernel_rfl) (by kernel_rfl) (fun _ _ _ h => h) (Or.inl ⟨by rfl, ?_⟩) (by assumption) ?_
  rotate_left
  · (intro W hSw; go_simp; first | done | with_reducible rfl)
  try simp only [Act.put, List.setIfInBounds_toArray, List.set_cons_zero, List.set_cons_succ]
  refine wpAnyH_take (i := 5) (oi := { dst := some 11, op := Op.nilCheck (Operand.tmp 10), type := 0, pos := "ring.go:44", after := #[{ on := 4, ground := Ground.data }], guard := none }) (v := ?_) rfl (by kernel_rfl) (by kernel_rfl) (by kernel_rfl) (fun _ _ _ h => h) (Or.inl ⟨by rfl, ?_⟩) (by assumption) ?_
  rotate_left
  · (intro W hSw; go_simp; first | done | with_reducible rfl)
  try simp only [Act.put, List.setIfInBounds_toArray, List.set_cons_zero, List.set_cons_succ]
  refine wpAnyH_take (i := 6) (oi := { dst := some 12, op := Op.fieldAddr 73 (Operand.tmp 11) 0, type := 0, pos := "ring.go:44", after := #[{ on := 5, ground := Ground.data }], guard := none }) (v := ?_) rfl (by kernel_rfl) (by kernel_rfl) (by kernel_rfl) (fun _ _ _ h => h) (Or.inl ⟨by rfl, ?_⟩) (by assumption) ?_
  rotate_left
  · (intro W hSw; go_simp; first | done | with_reducible rfl)
  try simp only [Act.put, List.setIfInBounds_toArray, List.set_cons_zero, List.set_cons_succ]
  refine wpAnyH_take (i := 7) (oi := { dst := some 13, op := Op.load 33 (Operand.tmp 12), type := 33, pos := "ring.go:44", after := #[{ on := 6, ground := Ground.data }], guard := none }) (v := ?_) rfl (by kernel_rfl) (by kernel_rfl) (by kernel_rfl) (fun _ _ _ h => h) (Or.inl ⟨by rfl, ?_⟩) (by assumption) ?_
  rotate_left
  · (intro W hSw; go_simp; first | done | with_reducible rfl)
  try simp only [Act.put, List.setIfInBounds_toArray, List.set_cons_zero, List.set_cons_succ]
  refine wpAnyH_take (i := 8) (oi := { dst := some 14, op := Op.call { callee := Callee.builtin Builtin.len, args := #[Operand.tmp 13], argTypes := #[33] }, type := 3, pos := "ring.go:44", after := #[{ on := 7, ground := Ground.data }], guard := none }) (v := ?_) rfl (by kernel_rfl) (by kernel_rfl) (by kernel_rfl) (fun _ _ _ h => h) (Or.inl ⟨by rfl, ?_⟩) (by assumption) ?_
  rotate_left
  · (intro W hSw; go_simp; first | done | with_reducible rfl)
  try simp only [Act.put, List.setIfInBounds_toArray, List.set_cons_zero, List.set_cons_succ]
  refine wpAnyH_take (i := 9) (oi := { dst := some 15, op := Op.binOp BinOp.mul 3 (Operand.const (Value.int IntKind.i64 2)) (Operand.tmp 14) 3, type := 3, pos := "ring.go:44", after := #[{ on := 8, ground := Ground.data }], guard := none }) (v := ?_) rfl (by kernel_rfl) (by kernel_rfl) (by kernel_rfl) (fun _ _ _ h => h) (Or.inl ⟨by rfl, ?_⟩) (by assumption) ?_
  rotate_left
  · (intro W hSw; go_simp; first | done | with_reducible rfl)
  try simp only [Act.put, List.setIfInBounds_toArray, List.set_cons_zero, List.set_cons_succ]
  refine wpAnyH_take (i := 10) (oi := { dst := some 16, op := Op.call { callee := Callee.builtin Builtin.max, args := #[Operand.const (Value.int IntKind.i64 4), Operand.tmp 15], argTypes := #[3, 3] }, type := 3, pos := "ring.go:44", after := #[{ on := 9, ground := Ground.data }], guard := none }) (v := ?_) rfl (by kernel_rfl) (by kernel_rfl) (by kernel_rfl) (fun _ _ _ h => h) (Or.inl ⟨by rfl, ?_⟩) (by assumption) ?_
  rotate_left
  · (intro W hSw; go_simp; first | done | with_reducible rfl)
  try simp only [Act.put, List.setIfInBounds_toArray, List.set_cons_zero, List.set_cons_succ]
  refine wpAnyH_take (i := 11) (oi := { dst := some 17, op := Op.call { callee := Callee.builtin Builtin.min, args := #[Operand.tmp 9, Operand.tmp 16], argTypes := #[3, 3] }, type := 3, pos := "ring.go:44", after := #[{ on := 3, ground := Ground.data }, { on := 10, ground := Ground.data }], guard := none }) (v := ?_) rfl (by kernel_rfl) (by kernel_rfl) (by kernel_rfl) (fun _ _ _ h => h) (Or.inl ⟨by rfl, ?_⟩) (by assumption) ?_
  rotate_left
  · (intro W hSw; go_simp; first | done | with_reducible rfl)
  try simp only [Act.put, List.setIfInBounds_toArray, List.set_cons_zero, List.set_cons_succ]
  refine wpAnyH_ready (rs := [12]) (by kernel_rfl) (by simp) ?_
  refine AllReadyH.cons (o := { dst := some 18, op := Op.makeSlice 33 (Operand.tmp 17) (Operand.tmp 17), type := 33, pos := "ring.go:44", after := #[{ on := 11, ground := Ground.data }, { on := 11, ground := Ground.data }], guard := none }) rfl (fun K hK => ?_) AllReadyH.nil
  go_simp
  have hS8 : St (bareW w) [(gr, 73, #[.slice p len len, .int .i64 (fr : Int), .int .i64 (q.length : Int), .int .i64 (room : Int)])] (w1.alloc (.cells zs 42)).drew := St.old hHeld (.cells zs 42)
  refine hK.out _ _ (by assumption) (fun hHeld => ?_)
  clear hK K
  try simp only [Act.put, List.setIfInBounds_toArray, List.set_cons_zero, List.set_cons_succ]
  refine wpAnyH_take (i := 13) (oi := { dst := some 3, op := Op.assign (Operand.tmp 18), type := 33, pos := "ring.go:44", after := #[{ on := 12, ground := Ground.data }, { on := 0, ground := Ground.phase }, { on := 1, ground := Ground.phase }, { on := 2, ground := Ground.phase }, { on := 3, ground := Ground.phase }, { on := 4, ground := Ground.phase }, { on := 5, ground := Ground.phase }, { on := 6, ground := Ground.phase }, { on := 7, ground := Ground.phase }, { on := 8, ground := Ground.phase }, { on := 9, ground := Ground.phase }, { on := 10, ground := Ground.phase }, { on := 11, ground := Ground.phase }, { on := 12, ground := Ground.phase }], guard := none }) (v := ?_) rfl (by kernel_rfl) (by kernel_rfl) (by kernel_rfl) (fun _ _ _ h => h) (Or.inl ⟨by rfl, ?_⟩) (by assumption) ?_
  rotate_left
  · (intro W hSw; go_simp; first | done | with_reducible rfl)
  try simp only [Act.put, List.setIfInBounds_toArray, List.set_cons_zero, List.set_cons_succ]
  refine wpAnyH_done (by kernel_rfl) ?_ _
  have hzz : zs.size = len' * 12 := by rw [← hzs]; exact size_madeCells _ _
  have hBW : Below w1.heap.size w1 (w1.alloc (.cells zs 42)).drew := ((Below.refl _ _).alloc (Nat.le_refl _) _).drew
  have hgW : Blk (w1.alloc (.cells zs 42)).drew w1.heap.size 42 zs := (Blk.new _ _ _).drew
  obtain ⟨m, W', hrun, ho, hb⟩ := run_copy_owned (P := Try.prog) (L := len') (cp := len') 33 33 3 Try.underlying33 (by kernel_rfl) hown hBW hgW (by have := HL.out; omega) hzz (by
    intro c hc
    unfold KN.flat at hc
    obtain ⟨y, _, hy⟩ := List.mem_flatMap.1 hc
    have hy' : c ∈ [.int .i64 y.1, .int .i64 (y.2 0), .int .i64 (y.2 1), .int .i64 (y.2 2), .int .i64 (y.2 3), .int .i64 (y.2 4), .int .i64 (y.2 5), .int .i64 (y.2 6), .int .i64 (y.2 7), .int .i64 (y.2 8), .int .i64 (y.2 9), .int .i64 (y.2 10)] := hy
    simp at hy'
    rcases hy' with rfl | rfl | rfl | rfl | rfl | rfl | rfl | rfl | rfl | rfl | rfl | rfl <;> rfl)
  have hgr : gr ≠ w1.heap.size := Nat.ne_of_lt h1.obj.lt
  have hbg : Blk W' gr 73 #[.slice p len len, .int .i64 (fr : Int), .int .i64 (q.length : Int), .int .i64 (room : Int)] := ((h1.obj.alloc _).drew).only ho hgr
  have c0 := hbg.cell 0
  have c1 := hbg.cell 1
  have f0 := hbg.frozen 0
  have f1 := hbg.frozen 1
  have HR := Lib.hid hlr
  clear hlr hlen'
  go_wp2
  all_goals
    refine bodyPost_end (results_none rfl _ _ _) rfl ?_
    have hG := RingAt.grown H.out hl' HR.out HL.out hB hBW ho hb hzz hbg
    exact ⟨rfl, _, _, hG.1, hl', hG.2, hB.size⟩
end
end Go.Proofs.Ytjfpmolnipiphaa
