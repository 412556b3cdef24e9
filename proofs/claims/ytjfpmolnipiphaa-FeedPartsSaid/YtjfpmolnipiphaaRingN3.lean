/- Layer 5, rings of hoistway/note.Notice: Clear, Peek and Pop. No condition. -/
import Derived.Test.YtjfpmolnipiphaaRingN2
import Derived.Test.YtjfpmolnipiphaaRingMath
import Derived.Deep.RegionWith
namespace Go.Proofs.Ytjfpmolnipiphaa
open Go.RowKit
attribute [local go_sem ↓] Go.wp_at_zero Go.wp_at_succ

set_option linter.unusedSimpArgs false
section
variable {w : World} {gr fr len room : Nat} {v : Value} {q : List (Int × (Nat → Int))}
theorem KN.same (h : RingAt KN w gr v fr len room q) (n : Nat) : RPost KN w gr v room q (w.drewN n) := ⟨v, fr, len, h.drewN n, Frame.drewN _ _ _, .inl rfl⟩
theorem KN.clear_any (h : RingAt KN w gr v fr len room q) : Calls Try.prog 21 #[.pointer (some ⟨gr, 0, none⟩)] w fun e w' => e = .returned (.int .i64 (q.length : Int)) ∧ RPost KN w gr v room [] w' := by
  have q0 := KN.c0 h
  have q1 := KN.c1 h
  have q2 := KN.c2 h
  have f0 := h.obj.frozen 0
  have f1 := h.obj.frozen 1
  have f2 := h.obj.frozen 2
  have H := Lib.hid h
  clear h
  by_cases hq : q.length = 0
  · have hq0 : q = [] := List.eq_nil_of_length_eq_zero hq
    have hz : ¬ (0 : Int) < (q.length : Int) := by omega
    have HQ := Lib.hid hq0
    clear hq hq0
    go_enter Try.func21, Try.ntmps21
    go_wp2_with (go_at_call 22; refine (KN.len_any H.out).mono ?_; rintro e w1 ⟨rfl, rfl⟩)
    go_ret
    exact ⟨rfl, by have := KN.same H.out 0; rw [HQ.out] at this; exact this⟩
  · have hz : (0 : Int) < (q.length : Int) := by omega
    have hq1 : ¬ (q.length : Int) = 0 := by omega
    clear hq
    go_enter Try.func21, Try.ntmps21
    go_wp2_with (go_at_call 22; refine (KN.len_any H.out).mono ?_; rintro e w1 ⟨rfl, rfl⟩)
    go_ret
    have hb := ((H.out.obj.set_ 0 (.slice none 0 0)).set_ 1 (.int .i64 0)).set_ 2 (.int .i64 0)
    have hf := ((Frame.setCell w gr 0 (.slice none 0 0) (bad := [gr]) (by simp)).trans (Frame.setCell _ gr 1 (.int .i64 0) (bad := [gr]) (by simp)) (fun _ h => h) (fun _ h _ => h)).trans (Frame.setCell _ gr 2 (.int .i64 0) (bad := [gr]) (by simp)) (fun _ h => h) (fun _ h _ => h)
    exact ⟨rfl, .slice none 0 0, 0, 0, ⟨hb, H.out.room1, H.out.room2, Nat.le_refl _, Nat.zero_le _, .inl ⟨rfl, rfl, rfl⟩⟩, hf.mono (by intro i hi; simp at hi; simp [hi]), .inr fun k hk => by cases hk⟩

set_option maxRecDepth 100000 in
theorem KN.peek_nil (h : RingAt KN w gr v fr len room []) : Calls Try.prog 33 #[.pointer (some ⟨gr, 0, none⟩)] w fun e w' => e = .returned (.tuple #[.agg #[.int .i64 0, .int .i64 0, .int .i64 0, .int .i64 0, .int .i64 0, .int .i64 0, .int .i64 0, .int .i64 0, .int .i64 0, .int .i64 0, .int .i64 0, .int .i64 0], .bool false]) ∧ Below w.heap.size w w' := by
  have H := Lib.hid h
  have hS : St w [(w.heap.size + 1, 42, (#[.int .i64 0, .int .i64 0, .int .i64 0, .int .i64 0, .int .i64 0, .int .i64 0, .int .i64 0, .int .i64 0, .int .i64 0, .int .i64 0, .int .i64 0, .int .i64 0] : Array Value)), (w.heap.size, 42, (#[.int .i64 0, .int .i64 0, .int .i64 0, .int .i64 0, .int .i64 0, .int .i64 0, .int .i64 0, .int .i64 0, .int .i64 0, .int .i64 0, .int .i64 0, .int .i64 0] : Array Value))] _ := ((St.nil w).alloc 42 (#[.int .i64 0, .int .i64 0, .int .i64 0, .int .i64 0, .int .i64 0, .int .i64 0, .int .i64 0, .int .i64 0, .int .i64 0, .int .i64 0, .int .i64 0, .int .i64 0] : Array Value)).alloc' (w.heap.size + 1) (by simp) 42 (#[.int .i64 0, .int .i64 0, .int .i64 0, .int .i64 0, .int .i64 0, .int .i64 0, .int .i64 0, .int .i64 0, .int .i64 0, .int .i64 0, .int .i64 0, .int .i64 0] : Array Value)
  have HL := St.big (w0 := w) (L := [(w.heap.size + 1, 42, (#[.int .i64 0, .int .i64 0, .int .i64 0, .int .i64 0, .int .i64 0, .int .i64 0, .int .i64 0, .int .i64 0, .int .i64 0, .int .i64 0, .int .i64 0, .int .i64 0] : Array Value)), (w.heap.size, 42, (#[.int .i64 0, .int .i64 0, .int .i64 0, .int .i64 0, .int .i64 0, .int .i64 0, .int .i64 0, .int .i64 0, .int .i64 0, .int .i64 0, .int .i64 0, .int .i64 0] : Array Value))]) 0 42 _ rfl Try.underlying42 rfl (by kernel_rfl)
  clear h
  go_enter Try.func33, Try.ntmps33
  go_wp2_with (first
    | (go_at_call 22; refine (KN.len_any ((H.out.frame (Frame.alloc _ _ []) (by simp) (by simp)).frame (Frame.alloc _ _ []) (by simp) (by simp))).mono ?_; rintro e w1 ⟨rfl, rfl⟩)
    | (refine store_at hS rfl rfl 42 _ _ rfl 1 w.heap.size 42 (#[.int .i64 0, .int .i64 0, .int .i64 0, .int .i64 0, .int .i64 0, .int .i64 0, .int .i64 0, .int .i64 0, .int .i64 0, .int .i64 0, .int .i64 0, .int .i64 0] : Array Value) (#[.int .i64 0, .int .i64 0, .int .i64 0, .int .i64 0, .int .i64 0, .int .i64 0, .int .i64 0, .int .i64 0, .int .i64 0, .int .i64 0, .int .i64 0, .int .i64 0] : Array Value) rfl rfl rfl (by kernel_rfl) rfl (by simp [Value.oneCell']) ?_; intro w2 hS2))
  refine bodyPost_ret (Go.Proofs.Ytjfpmolnipiphaa.results_cell_tmp rfl _ _ w.heap.size 42 (#[.int .i64 0, .int .i64 0, .int .i64 0, .int .i64 0, .int .i64 0, .int .i64 0, .int .i64 0, .int .i64 0, .int .i64 0, .int .i64 0, .int .i64 0, .int .i64 0] : Array Value) _ rfl (hS2.get 1 rfl) Try.underlying42 rfl (by kernel_rfl)) rfl ?_
  exact ⟨rfl, hS2.below⟩
set_option maxRecDepth 100000 in
set_option maxHeartbeats 4000000 in
theorem KN.peek_cons {y : (Int × (Nat → Int))} (h : RingAt KN w gr v fr len room (y :: q)) : Calls Try.prog 33 #[.pointer (some ⟨gr, 0, none⟩)] w fun e w' => e = .returned (.tuple #[.agg #[.int .i64 y.1, .int .i64 (y.2 0), .int .i64 (y.2 1), .int .i64 (y.2 2), .int .i64 (y.2 3), .int .i64 (y.2 4), .int .i64 (y.2 5), .int .i64 (y.2 6), .int .i64 (y.2 7), .int .i64 (y.2 8), .int .i64 (y.2 9), .int .i64 (y.2 10)], .bool true]) ∧ Below w.heap.size w w' := by
  have H := Lib.hid h
  have hlr := h.lenroom
  have hr2 := h.room2
  have hn := h.nlen
  obtain ⟨g, cs, rfl, hne, hb, hcz, hfr, hcs⟩ : ∃ g cs, v = .slice (some ⟨g, 0, none⟩) len len ∧ g ≠ gr ∧ Blk w g 42 cs ∧ cs.size = len * 12 ∧ fr < len ∧ ∀ i x, (y :: q)[i]? = some x → ∀ j, j < 12 → cs[(fr + i) % len * 12 + j]? = (KN.ec x)[j]? := by
    rcases h.cells with ⟨h1, _⟩ | hc
    · simp at hn; omega
    · exact hc
  have hgl := hb.lt
  have hgrl := h.obj.lt
  have q0 : ∀ W, St w [] W → W.cell? ⟨gr, 0, none⟩ = some (.slice (some ⟨g, 0, none⟩) len len) := fun W hW => (hW.oldCell hgrl).trans (KN.c0 H.out)
  have q1 : ∀ W, St w [] W → W.cell? ⟨gr, 1, none⟩ = some (.int .i64 (fr : Int)) := fun W hW => (hW.oldCell hgrl).trans (KN.c1 H.out)
  have ld : ∀ W, St w [] W → (loadBig 42 ⟨g, fr * 12, none⟩).run Try.prog W = .ok (.agg #[.int .i64 y.1, .int .i64 (y.2 0), .int .i64 (y.2 1), .int .i64 (y.2 2), .int .i64 (y.2 3), .int .i64 (y.2 4), .int .i64 (y.2 5), .int .i64 (y.2 6), .int .i64 (y.2 7), .int .i64 (y.2 8), .int .i64 (y.2 9), .int .i64 (y.2 10)]) W := fun W hW => big_mid 42 (#[.int .i64 y.1, .int .i64 (y.2 0), .int .i64 (y.2 1), .int .i64 (y.2 2), .int .i64 (y.2 3), .int .i64 (y.2 4), .int .i64 (y.2 5), .int .i64 (y.2 6), .int .i64 (y.2 7), .int .i64 (y.2 8), .int .i64 (y.2 9), .int .i64 (y.2 10)] : Array Value) _ (fun j v hj => (hW.oldCell hgl).trans ((hb.cell _).trans (by have := hcs 0 y rfl j (by have := lt_of_get hj; exact this); rw [show (fr + 0) % len = fr from Nat.mod_eq_of_lt (by omega)] at this; exact this.trans hj))) Try.underlying42 rfl (by kernel_rfl)
  have z1 : (0 : Int) ≤ (fr : Int) := by omega
  have z2 : (fr : Int) < (len : Int) := by omega
  have z3 : (len : Int) ≤ 65536 := by omega
  have z4 : (((y :: q).length : Int) == 0) = false := by simp; omega
  have hS0 : St w [] (((w.alloc (.cells (#[.int .i64 0, .int .i64 0, .int .i64 0, .int .i64 0, .int .i64 0, .int .i64 0, .int .i64 0, .int .i64 0, .int .i64 0, .int .i64 0, .int .i64 0, .int .i64 0] : Array Value) 42)).alloc (.cells (#[.int .i64 0, .int .i64 0, .int .i64 0, .int .i64 0, .int .i64 0, .int .i64 0, .int .i64 0, .int .i64 0, .int .i64 0, .int .i64 0, .int .i64 0, .int .i64 0] : Array Value) 42)).drew) := (((St.nil w).old _).old _).drew
  clear h hcs hcz hn hb hgl hgrl hlr hr2
  go_enter Try.func33, Try.ntmps33
  go_wp2_with (go_at_call 22; refine (KN.len_any ((H.out.frame (Frame.alloc _ _ []) (by simp) (by simp)).frame (Frame.alloc _ _ []) (by simp) (by simp))).mono ?_; rintro e w1 ⟨rfl, rfl⟩)
  refine wp_region_held_drew (S := St w []) (by kernel_rfl) hS0 (fun hHeld => ?_)
  refine wpAnyH_take (i := 0) (oi := { dst := some 9, op := Op.move (Operand.tmp 0), type := 54, pos := "ring.go:68", after := #[], guard := none }) (v := ?_) rfl (by kernel_rfl) (by kernel_rfl) (by kernel_rfl) (fun _ _ _ h => h) (Or.inl ⟨by rfl, ?_⟩) (by assumption) ?_
  rotate_left
  · (intro W hSw; go_simp; first | done | with_reducible rfl)
  try simp only [Act.put, List.setIfInBounds_toArray, List.set_cons_zero, List.set_cons_succ]
  refine wpAnyH_take (i := 1) (oi := { dst := some 10, op := Op.nilCheck (Operand.tmp 9), type := 0, pos := "ring.go:68", after := #[{ on := 0, ground := Ground.data }], guard := none }) (v := ?_) rfl (by kernel_rfl) (by kernel_rfl) (by kernel_rfl) (fun _ _ _ h => h) (Or.inl ⟨by rfl, ?_⟩) (by assumption) ?_
  rotate_left
  · (intro W hSw; go_simp; first | done | with_reducible rfl)
  try simp only [Act.put, List.setIfInBounds_toArray, List.set_cons_zero, List.set_cons_succ]
  refine wpAnyH_take (i := 2) (oi := { dst := some 11, op := Op.fieldAddr 73 (Operand.tmp 10) 0, type := 0, pos := "ring.go:68", after := #[{ on := 1, ground := Ground.data }], guard := none }) (v := ?_) rfl (by kernel_rfl) (by kernel_rfl) (by kernel_rfl) (fun _ _ _ h => h) (Or.inl ⟨by rfl, ?_⟩) (by assumption) ?_
  rotate_left
  · (intro W hSw; go_simp; first | done | with_reducible rfl)
  try simp only [Act.put, List.setIfInBounds_toArray, List.set_cons_zero, List.set_cons_succ]
  refine wpAnyH_take (i := 3) (oi := { dst := some 12, op := Op.load 33 (Operand.tmp 11), type := 33, pos := "ring.go:68", after := #[{ on := 2, ground := Ground.data }], guard := none }) (v := ?_) rfl (by kernel_rfl) (by kernel_rfl) (by kernel_rfl) (fun _ _ _ h => h) (Or.inl ⟨by rfl, ?_⟩) (by assumption) ?_
  rotate_left
  · (intro W hSw; go_simp; first | done | with_reducible rfl)
  try simp only [Act.put, List.setIfInBounds_toArray, List.set_cons_zero, List.set_cons_succ]
  refine wpAnyH_take (i := 4) (oi := { dst := some 13, op := Op.move (Operand.tmp 0), type := 54, pos := "ring.go:68", after := #[], guard := none }) (v := ?_) rfl (by kernel_rfl) (by kernel_rfl) (by kernel_rfl) (fun _ _ _ h => h) (Or.inl ⟨by rfl, ?_⟩) (by assumption) ?_
  rotate_left
  · (intro W hSw; go_simp; first | done | with_reducible rfl)
  try simp only [Act.put, List.setIfInBounds_toArray, List.set_cons_zero, List.set_cons_succ]
  refine wpAnyH_take (i := 5) (oi := { dst := some 14, op := Op.nilCheck (Operand.tmp 13), type := 0, pos := "ring.go:68", after := #[{ on := 4, ground := Ground.data }], guard := none }) (v := ?_) rfl (by kernel_rfl) (by kernel_rfl) (by kernel_rfl) (fun _ _ _ h => h) (Or.inl ⟨by rfl, ?_⟩) (by assumption) ?_
  rotate_left
  · (intro W hSw; go_simp; first | done | with_reducible rfl)
  try simp only [Act.put, List.setIfInBounds_toArray, List.set_cons_zero, List.set_cons_succ]
  refine wpAnyH_take (i := 6) (oi := { dst := some 15, op := Op.fieldAddr 73 (Operand.tmp 14) 1, type := 0, pos := "ring.go:68", after := #[{ on := 5, ground := Ground.data }], guard := none }) (v := ?_) rfl (by kernel_rfl) (by kernel_rfl) (by kernel_rfl) (fun _ _ _ h => h) (Or.inl ⟨by rfl, ?_⟩) (by assumption) ?_
  rotate_left
  · (intro W hSw; go_simp; first | done | with_reducible rfl)
  try simp only [Act.put, List.setIfInBounds_toArray, List.set_cons_zero, List.set_cons_succ]
  refine wpAnyH_take (i := 7) (oi := { dst := some 16, op := Op.load 3 (Operand.tmp 15), type := 3, pos := "ring.go:68", after := #[{ on := 6, ground := Ground.data }], guard := none }) (v := ?_) rfl (by kernel_rfl) (by kernel_rfl) (by kernel_rfl) (fun _ _ _ h => h) (Or.inl ⟨by rfl, ?_⟩) (by assumption) ?_
  rotate_left
  · (intro W hSw; go_simp; first | done | with_reducible rfl)
  try simp only [Act.put, List.setIfInBounds_toArray, List.set_cons_zero, List.set_cons_succ]
  refine wpAnyH_take (i := 8) (oi := { dst := some 17, op := Op.indexAddr 33 (Operand.tmp 12) (Operand.tmp 16), type := 0, pos := "ring.go:68", after := #[{ on := 3, ground := Ground.data }, { on := 7, ground := Ground.data }], guard := none }) (v := ?_) rfl (by kernel_rfl) (by kernel_rfl) (by kernel_rfl) (fun _ _ _ h => h) (Or.inl ⟨by rfl, ?_⟩) (by assumption) ?_
  rotate_left
  · (intro W hSw; go_simp; first | done | with_reducible rfl)
  try simp only [Act.put, List.setIfInBounds_toArray, List.set_cons_zero, List.set_cons_succ]
  refine wpAnyH_take (i := 9) (oi := { dst := some 18, op := Op.load 42 (Operand.tmp 17), type := 42, pos := "ring.go:68", after := #[{ on := 8, ground := Ground.data }], guard := none }) (v := ?_) rfl (by kernel_rfl) (by kernel_rfl) (by kernel_rfl) (fun _ _ _ h => h) (Or.inl ⟨by rfl, ?_⟩) (by assumption) ?_
  rotate_left
  · (intro W hSw; go_simp; first | done | with_reducible rfl)
  try simp only [Act.put, List.setIfInBounds_toArray, List.set_cons_zero, List.set_cons_succ]
  refine wpAnyH_ready (rs := [10]) (by kernel_rfl) (by simp) ?_
  refine AllReadyH.cons (o := { dst := none, op := Op.store 42 (Operand.tmp 2) (Operand.tmp 18), type := 0, pos := "ring.go:68", after := #[{ on := 9, ground := Ground.data }, { on := 0, ground := Ground.phase }, { on := 1, ground := Ground.phase }, { on := 2, ground := Ground.phase }, { on := 3, ground := Ground.phase }, { on := 4, ground := Ground.phase }, { on := 5, ground := Ground.phase }, { on := 6, ground := Ground.phase }, { on := 7, ground := Ground.phase }, { on := 8, ground := Ground.phase }, { on := 9, ground := Ground.phase }], guard := none }) rfl (fun K hK => ?_) AllReadyH.nil
  refine step_store_mid (by rfl) 42 _ _ (by rfl) w.heap.size 0 (#[.int .i64 y.1, .int .i64 (y.2 0), .int .i64 (y.2 1), .int .i64 (y.2 2), .int .i64 (y.2 3), .int .i64 (y.2 4), .int .i64 (y.2 5), .int .i64 (y.2 6), .int .i64 (y.2 7), .int .i64 (y.2 8), .int .i64 (y.2 9), .int .i64 (y.2 10)] : Array Value) (by rfl) (by rfl) (there_blk (((Blk.new w 42 (#[.int .i64 0, .int .i64 0, .int .i64 0, .int .i64 0, .int .i64 0, .int .i64 0, .int .i64 0, .int .i64 0, .int .i64 0, .int .i64 0, .int .i64 0, .int .i64 0] : Array Value)).alloc _).drew) (by show 0 + 12 ≤ 12; omega)) (by kernel_rfl) (by simp [Value.oneCell']) ?_; have hS8 := hHeld.setCellsFar (g := w.heap.size) (by simp) (Nat.le_refl _) 0 (#[.int .i64 y.1, .int .i64 (y.2 0), .int .i64 (y.2 1), .int .i64 (y.2 2), .int .i64 (y.2 3), .int .i64 (y.2 4), .int .i64 (y.2 5), .int .i64 (y.2 6), .int .i64 (y.2 7), .int .i64 (y.2 8), .int .i64 (y.2 9), .int .i64 (y.2 10)] : Array Value).toList
  refine hK.out _ _ (by assumption) (fun hHeld => ?_)
  clear hK K
  try simp only [Act.put, List.setIfInBounds_toArray, List.set_cons_zero, List.set_cons_succ]
  refine wpAnyH_take (i := 11) (oi := { dst := some 3, op := Op.assign (Operand.const (Value.bool true)), type := 4, pos := "ring.go:68", after := #[{ on := 10, ground := Ground.chain }, { on := 0, ground := Ground.phase }, { on := 1, ground := Ground.phase }, { on := 2, ground := Ground.phase }, { on := 3, ground := Ground.phase }, { on := 4, ground := Ground.phase }, { on := 5, ground := Ground.phase }, { on := 6, ground := Ground.phase }, { on := 7, ground := Ground.phase }, { on := 8, ground := Ground.phase }, { on := 9, ground := Ground.phase }, { on := 10, ground := Ground.phase }], guard := none }) (v := ?_) rfl (by kernel_rfl) (by kernel_rfl) (by kernel_rfl) (fun _ _ _ h => h) (Or.inl ⟨by rfl, ?_⟩) (by assumption) ?_
  rotate_left
  · (intro W hSw; go_simp; first | done | with_reducible rfl)
  try simp only [Act.put, List.setIfInBounds_toArray, List.set_cons_zero, List.set_cons_succ]
  refine wpAnyH_done (by kernel_rfl) ?_ _
  obtain ⟨W3, hW3⟩ : ∃ W3, ((((w.alloc (.cells (#[.int .i64 0, .int .i64 0, .int .i64 0, .int .i64 0, .int .i64 0, .int .i64 0, .int .i64 0, .int .i64 0, .int .i64 0, .int .i64 0, .int .i64 0, .int .i64 0] : Array Value) 42)).alloc (.cells (#[.int .i64 0, .int .i64 0, .int .i64 0, .int .i64 0, .int .i64 0, .int .i64 0, .int .i64 0, .int .i64 0, .int .i64 0, .int .i64 0, .int .i64 0, .int .i64 0] : Array Value) 42)).drew)).setCells w.heap.size 0 (#[.int .i64 y.1, .int .i64 (y.2 0), .int .i64 (y.2 1), .int .i64 (y.2 2), .int .i64 (y.2 3), .int .i64 (y.2 4), .int .i64 (y.2 5), .int .i64 (y.2 6), .int .i64 (y.2 7), .int .i64 (y.2 8), .int .i64 (y.2 9), .int .i64 (y.2 10)] : Array Value).toList = W3 := ⟨_, rfl⟩
  have hb3 : Blk W3 w.heap.size 42 (#[.int .i64 y.1, .int .i64 (y.2 0), .int .i64 (y.2 1), .int .i64 (y.2 2), .int .i64 (y.2 3), .int .i64 (y.2 4), .int .i64 (y.2 5), .int .i64 (y.2 6), .int .i64 (y.2 7), .int .i64 (y.2 8), .int .i64 (y.2 9), .int .i64 (y.2 10)] : Array Value) := by rw [← hW3]; have := setCells_blk (#[.int .i64 y.1, .int .i64 (y.2 0), .int .i64 (y.2 1), .int .i64 (y.2 2), .int .i64 (y.2 3), .int .i64 (y.2 4), .int .i64 (y.2 5), .int .i64 (y.2 6), .int .i64 (y.2 7), .int .i64 (y.2 8), .int .i64 (y.2 9), .int .i64 (y.2 10)] : Array Value).toList 0 (((Blk.new w 42 (#[.int .i64 0, .int .i64 0, .int .i64 0, .int .i64 0, .int .i64 0, .int .i64 0, .int .i64 0, .int .i64 0, .int .i64 0, .int .i64 0, .int .i64 0, .int .i64 0] : Array Value)).alloc (.cells (#[.int .i64 0, .int .i64 0, .int .i64 0, .int .i64 0, .int .i64 0, .int .i64 0, .int .i64 0, .int .i64 0, .int .i64 0, .int .i64 0, .int .i64 0, .int .i64 0] : Array Value) 42)).drew); rw [putC_all (#[.int .i64 0, .int .i64 0, .int .i64 0, .int .i64 0, .int .i64 0, .int .i64 0, .int .i64 0, .int .i64 0, .int .i64 0, .int .i64 0, .int .i64 0, .int .i64 0] : Array Value) (#[.int .i64 y.1, .int .i64 (y.2 0), .int .i64 (y.2 1), .int .i64 (y.2 2), .int .i64 (y.2 3), .int .i64 (y.2 4), .int .i64 (y.2 5), .int .i64 (y.2 6), .int .i64 (y.2 7), .int .i64 (y.2 8), .int .i64 (y.2 9), .int .i64 (y.2 10)] : Array Value).toList rfl] at this; exact this
  first | rw [hW3] at hS8 ⊢ | (simp only [List.toList_toArray] at hW3; rw [hW3] at hS8 ⊢)
  go_wp2_with fail
  refine bodyPost_ret (Go.Proofs.Ytjfpmolnipiphaa.results_cell_tmp rfl _ _ w.heap.size 42 (#[.int .i64 y.1, .int .i64 (y.2 0), .int .i64 (y.2 1), .int .i64 (y.2 2), .int .i64 (y.2 3), .int .i64 (y.2 4), .int .i64 (y.2 5), .int .i64 (y.2 6), .int .i64 (y.2 7), .int .i64 (y.2 8), .int .i64 (y.2 9), .int .i64 (y.2 10)] : Array Value) _ rfl hb3 Try.underlying42 rfl (by kernel_rfl)) rfl ?_
  exact ⟨rfl, hS8.below⟩
set_option maxRecDepth 100000 in
theorem KN.pop_nil (h : RingAt KN w gr v fr len room []) : Calls Try.prog 24 #[.pointer (some ⟨gr, 0, none⟩)] w fun e w' => e = .returned (.tuple #[.agg #[.int .i64 0, .int .i64 0, .int .i64 0, .int .i64 0, .int .i64 0, .int .i64 0, .int .i64 0, .int .i64 0, .int .i64 0, .int .i64 0, .int .i64 0, .int .i64 0], .bool false]) ∧ Below w.heap.size w w' := by
  have H := Lib.hid h
  have hS : St w [(w.heap.size + 1, 42, (#[.int .i64 0, .int .i64 0, .int .i64 0, .int .i64 0, .int .i64 0, .int .i64 0, .int .i64 0, .int .i64 0, .int .i64 0, .int .i64 0, .int .i64 0, .int .i64 0] : Array Value)), (w.heap.size, 42, (#[.int .i64 0, .int .i64 0, .int .i64 0, .int .i64 0, .int .i64 0, .int .i64 0, .int .i64 0, .int .i64 0, .int .i64 0, .int .i64 0, .int .i64 0, .int .i64 0] : Array Value))] _ := ((St.nil w).alloc 42 (#[.int .i64 0, .int .i64 0, .int .i64 0, .int .i64 0, .int .i64 0, .int .i64 0, .int .i64 0, .int .i64 0, .int .i64 0, .int .i64 0, .int .i64 0, .int .i64 0] : Array Value)).alloc' (w.heap.size + 1) (by simp) 42 (#[.int .i64 0, .int .i64 0, .int .i64 0, .int .i64 0, .int .i64 0, .int .i64 0, .int .i64 0, .int .i64 0, .int .i64 0, .int .i64 0, .int .i64 0, .int .i64 0] : Array Value)
  clear h
  go_enter Try.func24, Try.ntmps24
  go_wp2_with (first
    | (go_at_call 33; refine (KN.peek_nil ((H.out.frame (Frame.alloc _ _ []) (by simp) (by simp)).frame (Frame.alloc _ _ []) (by simp) (by simp))).mono ?_; rintro e w1 ⟨rfl, hB⟩; have hS1 := hS.step hB; clear hS hB)
    | (refine store_new hS1 rfl rfl 42 _ _ rfl 42 _ (#[.int .i64 0, .int .i64 0, .int .i64 0, .int .i64 0, .int .i64 0, .int .i64 0, .int .i64 0, .int .i64 0, .int .i64 0, .int .i64 0, .int .i64 0, .int .i64 0] : Array Value) rfl rfl (by kernel_rfl) rfl (by simp [Value.oneCell']) ?_; intro w2 hS2 hlt; generalize w1.heap.size = g5 at hS2 hlt ⊢; clear hlt hS1; have HL5 := St.big (w0 := w) (L := [(g5, 42, (#[.int .i64 0, .int .i64 0, .int .i64 0, .int .i64 0, .int .i64 0, .int .i64 0, .int .i64 0, .int .i64 0, .int .i64 0, .int .i64 0, .int .i64 0, .int .i64 0] : Array Value)), (w.heap.size + 1, 42, (#[.int .i64 0, .int .i64 0, .int .i64 0, .int .i64 0, .int .i64 0, .int .i64 0, .int .i64 0, .int .i64 0, .int .i64 0, .int .i64 0, .int .i64 0, .int .i64 0] : Array Value)), (w.heap.size, 42, (#[.int .i64 0, .int .i64 0, .int .i64 0, .int .i64 0, .int .i64 0, .int .i64 0, .int .i64 0, .int .i64 0, .int .i64 0, .int .i64 0, .int .i64 0, .int .i64 0] : Array Value))]) 0 42 _ rfl Try.underlying42 rfl (by kernel_rfl))
    | (refine store_at hS2 rfl rfl 42 _ _ rfl 2 w.heap.size 42 (#[.int .i64 0, .int .i64 0, .int .i64 0, .int .i64 0, .int .i64 0, .int .i64 0, .int .i64 0, .int .i64 0, .int .i64 0, .int .i64 0, .int .i64 0, .int .i64 0] : Array Value) (#[.int .i64 0, .int .i64 0, .int .i64 0, .int .i64 0, .int .i64 0, .int .i64 0, .int .i64 0, .int .i64 0, .int .i64 0, .int .i64 0, .int .i64 0, .int .i64 0] : Array Value) rfl rfl rfl (by kernel_rfl) rfl (by simp [Value.oneCell']) ?_; intro w3 hS3))
  refine bodyPost_ret (Go.Proofs.Ytjfpmolnipiphaa.results_cell_tmp rfl _ _ w.heap.size 42 (#[.int .i64 0, .int .i64 0, .int .i64 0, .int .i64 0, .int .i64 0, .int .i64 0, .int .i64 0, .int .i64 0, .int .i64 0, .int .i64 0, .int .i64 0, .int .i64 0] : Array Value) _ rfl (hS3.get 2 rfl) Try.underlying42 rfl (by kernel_rfl)) rfl ?_
  exact ⟨rfl, hS3.below⟩
set_option maxRecDepth 100000 in
set_option maxHeartbeats 4000000 in
theorem KN.pop_cons {y : (Int × (Nat → Int))} (h : RingAt KN w gr v fr len room (y :: q)) : Calls Try.prog 24 #[.pointer (some ⟨gr, 0, none⟩)] w fun e w' => e = .returned (.tuple #[.agg #[.int .i64 y.1, .int .i64 (y.2 0), .int .i64 (y.2 1), .int .i64 (y.2 2), .int .i64 (y.2 3), .int .i64 (y.2 4), .int .i64 (y.2 5), .int .i64 (y.2 6), .int .i64 (y.2 7), .int .i64 (y.2 8), .int .i64 (y.2 9), .int .i64 (y.2 10)], .bool true]) ∧ RPost KN w gr v room q w' := by
  have H := Lib.hid h
  have hS : St w [(w.heap.size + 1, 42, (#[.int .i64 0, .int .i64 0, .int .i64 0, .int .i64 0, .int .i64 0, .int .i64 0, .int .i64 0, .int .i64 0, .int .i64 0, .int .i64 0, .int .i64 0, .int .i64 0] : Array Value)), (w.heap.size, 42, (#[.int .i64 0, .int .i64 0, .int .i64 0, .int .i64 0, .int .i64 0, .int .i64 0, .int .i64 0, .int .i64 0, .int .i64 0, .int .i64 0, .int .i64 0, .int .i64 0] : Array Value))] _ := ((St.nil w).alloc 42 (#[.int .i64 0, .int .i64 0, .int .i64 0, .int .i64 0, .int .i64 0, .int .i64 0, .int .i64 0, .int .i64 0, .int .i64 0, .int .i64 0, .int .i64 0, .int .i64 0] : Array Value)).alloc' (w.heap.size + 1) (by simp) 42 (#[.int .i64 0, .int .i64 0, .int .i64 0, .int .i64 0, .int .i64 0, .int .i64 0, .int .i64 0, .int .i64 0, .int .i64 0, .int .i64 0, .int .i64 0, .int .i64 0] : Array Value)
  have hgrl := h.obj.lt
  obtain ⟨g, hv, hgl⟩ : ∃ g, v = .slice (some ⟨g, 0, none⟩) len len ∧ g < w.heap.size := by
    rcases h.cells with ⟨h1, _⟩ | ⟨g, cs, hv, _, hb, _⟩
    · have hn := h.nlen; simp at hn; omega
    · exact ⟨g, hv, hb.lt⟩
  subst hv
  have HGRL := Lib.hid hgrl
  have HGL := Lib.hid hgl
  clear h hgrl hgl
  go_enter Try.func24, Try.ntmps24
  go_wp2_with (first
    | (go_at_call 33; refine (KN.peek_cons ((H.out.frame (Frame.alloc _ _ []) (by simp) (by simp)).frame (Frame.alloc _ _ []) (by simp) (by simp))).mono ?_; rintro e w1 ⟨rfl, hB⟩; have hS1 := hS.step hB; clear hS hB)
    | (refine store_new hS1 rfl rfl 42 _ _ rfl 42 _ (#[.int .i64 y.1, .int .i64 (y.2 0), .int .i64 (y.2 1), .int .i64 (y.2 2), .int .i64 (y.2 3), .int .i64 (y.2 4), .int .i64 (y.2 5), .int .i64 (y.2 6), .int .i64 (y.2 7), .int .i64 (y.2 8), .int .i64 (y.2 9), .int .i64 (y.2 10)] : Array Value) rfl rfl (by kernel_rfl) rfl (by simp [Value.oneCell']) ?_; intro w2 hS2 hlt; have h5 := hS1.below.size; generalize w1.heap.size = g5 at hS2 hlt h5 ⊢; clear hlt hS1))
  have H2 := Lib.hid (H.out.frame (Frame.ofSt hS2) (by simp) (by simp))
  obtain ⟨cs, hne, hb, hcz, hfr, hcs⟩ : ∃ cs, g ≠ gr ∧ Blk w2 g 42 cs ∧ cs.size = len * 12 ∧ fr < len ∧ Holds KN cs fr len (y :: q) := by
    rcases H2.out.cells with ⟨h1, _⟩ | ⟨g', cs, hv, hc⟩
    · have hn := H.out.nlen; simp at hn; omega
    · injection hv with hv
      injection hv with hv
      injection hv with hv
      subst hv
      exact ⟨cs, hc⟩
  have hgr := hne
  have hg2 : g ≠ w.heap.size := Nat.ne_of_lt HGL.out
  have hg4 : g ≠ w.heap.size + 1 := by have := HGL.out; omega
  have hg5 : g ≠ g5 := by have := HGL.out; omega
  have hr2 : gr ≠ w.heap.size := Nat.ne_of_lt HGRL.out
  have hr4 : gr ≠ w.heap.size + 1 := by have := HGRL.out; omega
  have hr5 : gr ≠ g5 := by have := HGRL.out; omega
  have hobj : Blk w2 gr 73 #[.slice (some ⟨g, 0, none⟩) len len, .int .i64 (fr : Int), .int .i64 ((q.length : Int) + 1), .int .i64 (room : Int)] := by
    have := H2.out.obj
    rw [show ((y :: q).length : Int) = (q.length : Int) + 1 by simp] at this
    exact this
  have hnd := hS2.nodup
  have hS0 : St (bareW w) [(gr, 73, (#[.slice (some ⟨g, 0, none⟩) len len, .int .i64 (fr : Int), .int .i64 ((q.length : Int) + 1), .int .i64 (room : Int)] : Array Value)), (w.heap.size + 1, 42, (#[.int .i64 0, .int .i64 0, .int .i64 0, .int .i64 0, .int .i64 0, .int .i64 0, .int .i64 0, .int .i64 0, .int .i64 0, .int .i64 0, .int .i64 0, .int .i64 0] : Array Value)), (g5, 42, (#[.int .i64 y.1, .int .i64 (y.2 0), .int .i64 (y.2 1), .int .i64 (y.2 2), .int .i64 (y.2 3), .int .i64 (y.2 4), .int .i64 (y.2 5), .int .i64 (y.2 6), .int .i64 (y.2 7), .int .i64 (y.2 8), .int .i64 (y.2 9), .int .i64 (y.2 10)] : Array Value)), (w.heap.size, 42, (#[.int .i64 0, .int .i64 0, .int .i64 0, .int .i64 0, .int .i64 0, .int .i64 0, .int .i64 0, .int .i64 0, .int .i64 0, .int .i64 0, .int .i64 0, .int .i64 0] : Array Value))] w2.drew := (bareN hS2.below.os hS2.below.tape hS2.below.output (by simp at hnd ⊢; omega) (by
    intro x hx
    simp at hx
    rcases hx with rfl | rfl | rfl | rfl
    · exact hobj
    · exact hS2.get 1 rfl
    · exact hS2.get 0 rfl
    · exact hS2.get 2 rfl)).drew
  have Q0 : ∀ W, St (bareW w) [(gr, 73, (#[.slice (some ⟨g, 0, none⟩) len len, .int .i64 (fr : Int), .int .i64 ((q.length : Int) + 1), .int .i64 (room : Int)] : Array Value)), (w.heap.size + 1, 42, (#[.int .i64 0, .int .i64 0, .int .i64 0, .int .i64 0, .int .i64 0, .int .i64 0, .int .i64 0, .int .i64 0, .int .i64 0, .int .i64 0, .int .i64 0, .int .i64 0] : Array Value)), (g5, 42, (#[.int .i64 y.1, .int .i64 (y.2 0), .int .i64 (y.2 1), .int .i64 (y.2 2), .int .i64 (y.2 3), .int .i64 (y.2 4), .int .i64 (y.2 5), .int .i64 (y.2 6), .int .i64 (y.2 7), .int .i64 (y.2 8), .int .i64 (y.2 9), .int .i64 (y.2 10)] : Array Value)), (w.heap.size, 42, (#[.int .i64 0, .int .i64 0, .int .i64 0, .int .i64 0, .int .i64 0, .int .i64 0, .int .i64 0, .int .i64 0, .int .i64 0, .int .i64 0, .int .i64 0, .int .i64 0] : Array Value))] W → W.cell? ⟨gr, 0, none⟩ = some (.slice (some ⟨g, 0, none⟩) len len) := St.cell 0 rfl 0 rfl
  have Q1 : ∀ W, St (bareW w) [(gr, 73, (#[.slice (some ⟨g, 0, none⟩) len len, .int .i64 (fr : Int), .int .i64 ((q.length : Int) + 1), .int .i64 (room : Int)] : Array Value)), (w.heap.size + 1, 42, (#[.int .i64 0, .int .i64 0, .int .i64 0, .int .i64 0, .int .i64 0, .int .i64 0, .int .i64 0, .int .i64 0, .int .i64 0, .int .i64 0, .int .i64 0, .int .i64 0] : Array Value)), (g5, 42, (#[.int .i64 y.1, .int .i64 (y.2 0), .int .i64 (y.2 1), .int .i64 (y.2 2), .int .i64 (y.2 3), .int .i64 (y.2 4), .int .i64 (y.2 5), .int .i64 (y.2 6), .int .i64 (y.2 7), .int .i64 (y.2 8), .int .i64 (y.2 9), .int .i64 (y.2 10)] : Array Value)), (w.heap.size, 42, (#[.int .i64 0, .int .i64 0, .int .i64 0, .int .i64 0, .int .i64 0, .int .i64 0, .int .i64 0, .int .i64 0, .int .i64 0, .int .i64 0, .int .i64 0, .int .i64 0] : Array Value))] W → W.cell? ⟨gr, 1, none⟩ = some (.int .i64 (fr : Int)) := St.cell 0 rfl 1 rfl
  have L4 : ∀ W, St (bareW w) [(gr, 73, (#[.slice (some ⟨g, 0, none⟩) len len, .int .i64 (fr : Int), .int .i64 ((q.length : Int) + 1), .int .i64 (room : Int)] : Array Value)), (w.heap.size + 1, 42, (#[.int .i64 0, .int .i64 0, .int .i64 0, .int .i64 0, .int .i64 0, .int .i64 0, .int .i64 0, .int .i64 0, .int .i64 0, .int .i64 0, .int .i64 0, .int .i64 0] : Array Value)), (g5, 42, (#[.int .i64 y.1, .int .i64 (y.2 0), .int .i64 (y.2 1), .int .i64 (y.2 2), .int .i64 (y.2 3), .int .i64 (y.2 4), .int .i64 (y.2 5), .int .i64 (y.2 6), .int .i64 (y.2 7), .int .i64 (y.2 8), .int .i64 (y.2 9), .int .i64 (y.2 10)] : Array Value)), (w.heap.size, 42, (#[.int .i64 0, .int .i64 0, .int .i64 0, .int .i64 0, .int .i64 0, .int .i64 0, .int .i64 0, .int .i64 0, .int .i64 0, .int .i64 0, .int .i64 0, .int .i64 0] : Array Value))] W → (loadBig 42 ⟨w.heap.size + 1, 0, none⟩).run Try.prog W = .ok (.agg (#[.int .i64 0, .int .i64 0, .int .i64 0, .int .i64 0, .int .i64 0, .int .i64 0, .int .i64 0, .int .i64 0, .int .i64 0, .int .i64 0, .int .i64 0, .int .i64 0] : Array Value)) W := St.big 1 42 _ rfl Try.underlying42 rfl (by kernel_rfl)
  have hlr := H.out.lenroom
  have hrm := H.out.room2
  have hn := H.out.nlen
  have z1 : (0 : Int) ≤ (fr : Int) := by omega
  have z2 : (fr : Int) < (len : Int) := by omega
  have z3 : (len : Int) ≤ 65536 := by omega
  have HB := Lib.hid hb
  have HN := Lib.hid hn
  have HCS := Lib.hid hcs
  have HCZ := Lib.hid hcz
  have HFR := Lib.hid hfr
  have HS2 := Lib.hid hS2
  clear hcs hcz hn hne hb hnd hS2 hobj
  refine wp_region_held_drew (S := St (bareW w) [(gr, 73, (#[.slice (some ⟨g, 0, none⟩) len len, .int .i64 (fr : Int), .int .i64 ((q.length : Int) + 1), .int .i64 (room : Int)] : Array Value)), (w.heap.size + 1, 42, (#[.int .i64 0, .int .i64 0, .int .i64 0, .int .i64 0, .int .i64 0, .int .i64 0, .int .i64 0, .int .i64 0, .int .i64 0, .int .i64 0, .int .i64 0, .int .i64 0] : Array Value)), (g5, 42, (#[.int .i64 y.1, .int .i64 (y.2 0), .int .i64 (y.2 1), .int .i64 (y.2 2), .int .i64 (y.2 3), .int .i64 (y.2 4), .int .i64 (y.2 5), .int .i64 (y.2 6), .int .i64 (y.2 7), .int .i64 (y.2 8), .int .i64 (y.2 9), .int .i64 (y.2 10)] : Array Value)), (w.heap.size, 42, (#[.int .i64 0, .int .i64 0, .int .i64 0, .int .i64 0, .int .i64 0, .int .i64 0, .int .i64 0, .int .i64 0, .int .i64 0, .int .i64 0, .int .i64 0, .int .i64 0] : Array Value))]) (by kernel_rfl) hS0 (fun hHeld => ?_)
  refine wpAnyH_take (i := 0) (oi := { dst := some 13, op := Op.move (Operand.tmp 0), type := 54, pos := "ring.go:76", after := #[], guard := none }) (v := ?_) rfl (by kernel_rfl) (by kernel_rfl) (by kernel_rfl) (fun _ _ _ h => h) (Or.inl ⟨by rfl, ?_⟩) (by assumption) ?_
  rotate_left
  · (intro W hSw; go_simp; first | done | with_reducible rfl)
  try simp only [Act.put, List.setIfInBounds_toArray, List.set_cons_zero, List.set_cons_succ]
  refine wpAnyH_take (i := 1) (oi := { dst := some 14, op := Op.nilCheck (Operand.tmp 13), type := 0, pos := "ring.go:76", after := #[{ on := 0, ground := Ground.data }], guard := none }) (v := ?_) rfl (by kernel_rfl) (by kernel_rfl) (by kernel_rfl) (fun _ _ _ h => h) (Or.inl ⟨by rfl, ?_⟩) (by assumption) ?_
  rotate_left
  · (intro W hSw; go_simp; first | done | with_reducible rfl)
  try simp only [Act.put, List.setIfInBounds_toArray, List.set_cons_zero, List.set_cons_succ]
  refine wpAnyH_take (i := 2) (oi := { dst := some 15, op := Op.fieldAddr 73 (Operand.tmp 14) 0, type := 0, pos := "ring.go:76", after := #[{ on := 1, ground := Ground.data }], guard := none }) (v := ?_) rfl (by kernel_rfl) (by kernel_rfl) (by kernel_rfl) (fun _ _ _ h => h) (Or.inl ⟨by rfl, ?_⟩) (by assumption) ?_
  rotate_left
  · (intro W hSw; go_simp; first | done | with_reducible rfl)
  try simp only [Act.put, List.setIfInBounds_toArray, List.set_cons_zero, List.set_cons_succ]
  refine wpAnyH_take (i := 3) (oi := { dst := some 16, op := Op.load 33 (Operand.tmp 15), type := 33, pos := "ring.go:76", after := #[{ on := 2, ground := Ground.data }], guard := none }) (v := ?_) rfl (by kernel_rfl) (by kernel_rfl) (by kernel_rfl) (fun _ _ _ h => h) (Or.inl ⟨by rfl, ?_⟩) (by assumption) ?_
  rotate_left
  · (intro W hSw; go_simp; first | done | with_reducible rfl)
  try simp only [Act.put, List.setIfInBounds_toArray, List.set_cons_zero, List.set_cons_succ]
  refine wpAnyH_take (i := 4) (oi := { dst := some 17, op := Op.move (Operand.tmp 0), type := 54, pos := "ring.go:76", after := #[], guard := none }) (v := ?_) rfl (by kernel_rfl) (by kernel_rfl) (by kernel_rfl) (fun _ _ _ h => h) (Or.inl ⟨by rfl, ?_⟩) (by assumption) ?_
  rotate_left
  · (intro W hSw; go_simp; first | done | with_reducible rfl)
  try simp only [Act.put, List.setIfInBounds_toArray, List.set_cons_zero, List.set_cons_succ]
  refine wpAnyH_take (i := 5) (oi := { dst := some 18, op := Op.nilCheck (Operand.tmp 17), type := 0, pos := "ring.go:76", after := #[{ on := 4, ground := Ground.data }], guard := none }) (v := ?_) rfl (by kernel_rfl) (by kernel_rfl) (by kernel_rfl) (fun _ _ _ h => h) (Or.inl ⟨by rfl, ?_⟩) (by assumption) ?_
  rotate_left
  · (intro W hSw; go_simp; first | done | with_reducible rfl)
  try simp only [Act.put, List.setIfInBounds_toArray, List.set_cons_zero, List.set_cons_succ]
  refine wpAnyH_take (i := 6) (oi := { dst := some 19, op := Op.fieldAddr 73 (Operand.tmp 18) 1, type := 0, pos := "ring.go:76", after := #[{ on := 5, ground := Ground.data }], guard := none }) (v := ?_) rfl (by kernel_rfl) (by kernel_rfl) (by kernel_rfl) (fun _ _ _ h => h) (Or.inl ⟨by rfl, ?_⟩) (by assumption) ?_
  rotate_left
  · (intro W hSw; go_simp; first | done | with_reducible rfl)
  try simp only [Act.put, List.setIfInBounds_toArray, List.set_cons_zero, List.set_cons_succ]
  refine wpAnyH_take (i := 7) (oi := { dst := some 20, op := Op.load 3 (Operand.tmp 19), type := 3, pos := "ring.go:76", after := #[{ on := 6, ground := Ground.data }], guard := none }) (v := ?_) rfl (by kernel_rfl) (by kernel_rfl) (by kernel_rfl) (fun _ _ _ h => h) (Or.inl ⟨by rfl, ?_⟩) (by assumption) ?_
  rotate_left
  · (intro W hSw; go_simp; first | done | with_reducible rfl)
  try simp only [Act.put, List.setIfInBounds_toArray, List.set_cons_zero, List.set_cons_succ]
  refine wpAnyH_take (i := 8) (oi := { dst := some 21, op := Op.load 42 (Operand.tmp 4), type := 42, pos := "ring.go:76", after := #[], guard := none }) (v := ?_) rfl (by kernel_rfl) (by kernel_rfl) (by kernel_rfl) (fun _ _ _ h => h) (Or.inl ⟨by rfl, ?_⟩) (by assumption) ?_
  rotate_left
  · (intro W hSw; go_simp; first | done | with_reducible rfl)
  try simp only [Act.put, List.setIfInBounds_toArray, List.set_cons_zero, List.set_cons_succ]
  refine wpAnyH_take (i := 9) (oi := { dst := some 22, op := Op.indexAddr 33 (Operand.tmp 16) (Operand.tmp 20), type := 0, pos := "ring.go:76", after := #[{ on := 3, ground := Ground.data }, { on := 7, ground := Ground.data }, { on := 0, ground := Ground.phase }, { on := 1, ground := Ground.phase }, { on := 2, ground := Ground.phase }, { on := 3, ground := Ground.phase }, { on := 4, ground := Ground.phase }, { on := 5, ground := Ground.phase }, { on := 6, ground := Ground.phase }, { on := 7, ground := Ground.phase }, { on := 8, ground := Ground.phase }], guard := none }) (v := ?_) rfl (by kernel_rfl) (by kernel_rfl) (by kernel_rfl) (fun _ _ _ h => h) (Or.inl ⟨by rfl, ?_⟩) (by assumption) ?_
  rotate_left
  · (intro W hSw; go_simp; first | done | with_reducible rfl)
  try simp only [Act.put, List.setIfInBounds_toArray, List.set_cons_zero, List.set_cons_succ]
  refine wpAnyH_ready (rs := [10]) (by kernel_rfl) (by simp) ?_
  refine AllReadyH.cons (o := { dst := none, op := Op.store 42 (Operand.tmp 22) (Operand.tmp 21), type := 0, pos := "ring.go:76", after := #[{ on := 9, ground := Ground.data }, { on := 8, ground := Ground.data }, { on := 0, ground := Ground.phase }, { on := 1, ground := Ground.phase }, { on := 2, ground := Ground.phase }, { on := 3, ground := Ground.phase }, { on := 4, ground := Ground.phase }, { on := 5, ground := Ground.phase }, { on := 6, ground := Ground.phase }, { on := 7, ground := Ground.phase }, { on := 8, ground := Ground.phase }], guard := none }) rfl (fun K hK => ?_) AllReadyH.nil
  refine step_store_mid (by rfl) 42 _ _ (by rfl) g (fr * 12) (#[.int .i64 0, .int .i64 0, .int .i64 0, .int .i64 0, .int .i64 0, .int .i64 0, .int .i64 0, .int .i64 0, .int .i64 0, .int .i64 0, .int .i64 0, .int .i64 0] : Array Value) (by rfl) (by rfl) (there_blk HB.out.drew (by show fr * 12 + 12 ≤ cs.size; have h1 := HCZ.out; rw [h1]; have : (fr + 1) * 12 ≤ len * 12 := Nat.mul_le_mul_right _ HFR.out; omega)) (by kernel_rfl) (by simp [Value.oneCell']) ?_; have hS8 := hHeld.setCellsFar (g := g) (by simp [hgr, hg2, hg4, hg5]) (Nat.zero_le _) (fr * 12) (#[.int .i64 0, .int .i64 0, .int .i64 0, .int .i64 0, .int .i64 0, .int .i64 0, .int .i64 0, .int .i64 0, .int .i64 0, .int .i64 0, .int .i64 0, .int .i64 0] : Array Value).toList
  refine hK.out _ _ (by assumption) (fun hHeld => ?_)
  clear hK K
  try simp only [Act.put, List.setIfInBounds_toArray, List.set_cons_zero, List.set_cons_succ]
  refine wpAnyH_done (by kernel_rfl) ?_ _
  obtain ⟨W3, hW3⟩ : ∃ W3, (w2.drew).setCells g (fr * 12) (#[.int .i64 0, .int .i64 0, .int .i64 0, .int .i64 0, .int .i64 0, .int .i64 0, .int .i64 0, .int .i64 0, .int .i64 0, .int .i64 0, .int .i64 0, .int .i64 0] : Array Value).toList = W3 := ⟨_, rfl⟩
  have hf3 : Frame w2 W3 [g] := by rw [← hW3]; exact (Frame.drewN w2 1 [g]).trans (Frame.setCells _ g (fr * 12) (#[.int .i64 0, .int .i64 0, .int .i64 0, .int .i64 0, .int .i64 0, .int .i64 0, .int .i64 0, .int .i64 0, .int .i64 0, .int .i64 0, .int .i64 0, .int .i64 0] : Array Value).toList List.mem_cons_self) (fun _ h => h) (fun _ h _ => h)
  have hb3 : Blk W3 g 42 (putC cs (fr * 12) (#[.int .i64 0, .int .i64 0, .int .i64 0, .int .i64 0, .int .i64 0, .int .i64 0, .int .i64 0, .int .i64 0, .int .i64 0, .int .i64 0, .int .i64 0, .int .i64 0] : Array Value).toList) := by rw [← hW3]; exact setCells_blk (#[.int .i64 0, .int .i64 0, .int .i64 0, .int .i64 0, .int .i64 0, .int .i64 0, .int .i64 0, .int .i64 0, .int .i64 0, .int .i64 0, .int .i64 0, .int .i64 0] : Array Value).toList (fr * 12) HB.out.drew
  first | rw [hW3] at hS8 ⊢ | (simp only [List.toList_toArray] at hW3; rw [hW3] at hS8 ⊢)
  have q2 : W3.cell? ⟨gr, 2, none⟩ = some (.int .i64 ((q.length : Int) + 1)) := (hS8.get 0 rfl).cell 2
  have q1 : W3.cell? ⟨gr, 1, none⟩ = some (.int .i64 (fr : Int)) := (hS8.get 0 rfl).cell 1
  have f1 := (hS8.get 0 rfl).frozen 1
  have f2 := (hS8.get 0 rfl).frozen 2
  have HS8 := Lib.hid hS8
  have HB3 := Lib.hid hb3
  obtain ⟨ix, hix⟩ : ∃ ix, (fr + 1) % len = ix := ⟨_, rfl⟩
  have e5 : IntKind.i64.wrap (q.length : Int) = (q.length : Int) := IntWalk.i64_in _ (by have := HN.out; simp at this; omega)
  clear hS0 Q0 Q1 L4 hS8 hHeld hb3 hW3
  go_wp2_with fail
  go_region_with (go_at_call 34; refine (KN.at_raw (nn := (q.length : Int) + 1) (g := g) (len := len) (fr := fr) (room := room) ((HS8.out.get 0 rfl).drew) (by omega) HFR.out (by omega) 1 (by omega) hix).mono ?_; rintro e w9 ⟨rfl, na, rfl⟩)
  all_goals
    have hS5 : St (bareW w) [(g5, 42, (#[.int .i64 y.1, .int .i64 (y.2 0), .int .i64 (y.2 1), .int .i64 (y.2 2), .int .i64 (y.2 3), .int .i64 (y.2 4), .int .i64 (y.2 5), .int .i64 (y.2 6), .int .i64 (y.2 7), .int .i64 (y.2 8), .int .i64 (y.2 9), .int .i64 (y.2 10)] : Array Value)), (w.heap.size, 42, (#[.int .i64 0, .int .i64 0, .int .i64 0, .int .i64 0, .int .i64 0, .int .i64 0, .int .i64 0, .int .i64 0, .int .i64 0, .int .i64 0, .int .i64 0, .int .i64 0] : Array Value))] _ := (((HS8.out.sub ((List.Sublist.refl _).cons _ |>.cons _)).drewN (1 + na)).farCell (g := gr) (by simp [hr2, hr5]) (Nat.zero_le _) 1 (.int .i64 (ix : Int))).farCell (g := gr) (by simp [hr2, hr5]) (Nat.zero_le _) 2 (.int .i64 (q.length : Int))
    obtain ⟨hR6, hF6⟩ := popped2 H2.out hgr hf3 HB3.out rfl rfl HCZ.out HCS.out HFR.out hix (1 + na)
    generalize ((W3.drewN (1 + na)).setCell ⟨gr, 1, none⟩ (.int .i64 (ix : Int))).setCell ⟨gr, 2, none⟩ (.int .i64 (q.length : Int)) = W6 at hS5 hR6 hF6 ⊢
    have HL5 := St.big (w0 := bareW w) (L := [(g5, 42, (#[.int .i64 y.1, .int .i64 (y.2 0), .int .i64 (y.2 1), .int .i64 (y.2 2), .int .i64 (y.2 3), .int .i64 (y.2 4), .int .i64 (y.2 5), .int .i64 (y.2 6), .int .i64 (y.2 7), .int .i64 (y.2 8), .int .i64 (y.2 9), .int .i64 (y.2 10)] : Array Value)), (w.heap.size, 42, (#[.int .i64 0, .int .i64 0, .int .i64 0, .int .i64 0, .int .i64 0, .int .i64 0, .int .i64 0, .int .i64 0, .int .i64 0, .int .i64 0, .int .i64 0, .int .i64 0] : Array Value))]) 0 42 _ rfl Try.underlying42 rfl (by kernel_rfl)
    go_wp2_with (refine store_blk rfl 42 _ _ rfl w.heap.size (#[.int .i64 y.1, .int .i64 (y.2 0), .int .i64 (y.2 1), .int .i64 (y.2 2), .int .i64 (y.2 3), .int .i64 (y.2 4), .int .i64 (y.2 5), .int .i64 (y.2 6), .int .i64 (y.2 7), .int .i64 (y.2 8), .int .i64 (y.2 9), .int .i64 (y.2 10)] : Array Value) rfl rfl 42 (#[.int .i64 0, .int .i64 0, .int .i64 0, .int .i64 0, .int .i64 0, .int .i64 0, .int .i64 0, .int .i64 0, .int .i64 0, .int .i64 0, .int .i64 0, .int .i64 0] : Array Value) (by kernel_rfl) rfl (by simp [Value.oneCell']) (hS5.get 1 rfl) ?_; intro w7 ho7 hb7)
    refine bodyPost_ret (Go.Proofs.Ytjfpmolnipiphaa.results_cell_tmp rfl _ _ w.heap.size 42 (#[.int .i64 y.1, .int .i64 (y.2 0), .int .i64 (y.2 1), .int .i64 (y.2 2), .int .i64 (y.2 3), .int .i64 (y.2 4), .int .i64 (y.2 5), .int .i64 (y.2 6), .int .i64 (y.2 7), .int .i64 (y.2 8), .int .i64 (y.2 9), .int .i64 (y.2 10)] : Array Value) _ rfl hb7 Try.underlying42 rfl (by kernel_rfl)) rfl ?_
    have hap : ∀ k, (Value.slice (some ⟨g, 0, none⟩) len len).ownBlock = some k → k ∉ [w.heap.size] := by
      intro k hk
      have hk' : g = k := by simpa [Value.ownBlock] using hk
      rw [← hk']
      simpa using hg2
    refine ⟨rfl, _, _, _, hR6.frame (Frame.ofOnly ho7) (by simpa using hr2) hap, ?_, .inl rfl⟩
    have hF0 : Frame w W6 [gr, g] := (Frame.ofSt HS2.out).trans hF6 (fun _ h => by cases h) (fun _ h _ => h)
    exact hF0.then_new (Frame.ofOnly ho7) (fun i hi => .inr (by simp at hi; omega))
end
end Go.Proofs.Ytjfpmolnipiphaa
