/- Layer 22: New, Start, hear. No condition. -/
import Derived.Test.YtjfpmolnipiphaaFeed1
namespace Go.Proofs.Ytjfpmolnipiphaa
open Go.RowKit
set_option linter.unusedVariables false
set_option linter.unusedSimpArgs false

section
variable {w0 w : World} {L : List (Nat × TypeId × Array Value)} {R : List Ow} {gf gr room : Nat} {on : Bool} {kd n hd l : Int} {q : List (Int × (Nat → Int))}
theorem fnew_no (c : Nat → Int) (s : Int) (w : World) (hg : good c = false) : Calls Try.prog 6 #[.agg (cfgCells c s)] w fun e w' => e = .returned (.pointer none) ∧ Below w.heap.size w w' := by
  have hS := (St.nil w).alloc 24 (cfgCells c s)
  have Q0 := St.loadC (L := [(w.heap.size, 24, cfgCells c s)]) (w0 := w) 0 rfl
  have HG := Lib.hid hg
  clear hg
  go_enter Try.func6, Try.ntmps6
  go_wp2_with (go_at_call 18; refine (check_no HG.out _ _).mono ?_; rintro e w1 ⟨rfl, hB⟩; replace hS := hS.step hB; clear hB)
  go_ret
  exact ⟨rfl, hS.below⟩
theorem fnew_ok {c : Nat → Int} {s : Int} (hS0 : SR w0 L R w) (hg : good c = true) : Calls Try.prog 6 #[.agg (cfgCells c s)] w fun e w' => ∃ gf gr room, e = .returned (.pointer (some ⟨gf, 0, none⟩)) ∧ FG w0 L R gf gr room false 0 0 0 0 [] w' ∧ (room : Int) = c 12 ∧ 1 ≤ room ∧ room ≤ 64 := by
  have hb := good_at hg 12 (by omega)
  have hb1 : (1 : Int) ≤ c 12 := hb.1
  have hb2 : c 12 ≤ 64 := hb.2
  obtain ⟨room, hr⟩ : ∃ room : Nat, c 12 = (room : Int) := ⟨(c 12).toNat, by omega⟩
  have h1 : 1 ≤ room := by omega
  have h2 : room ≤ 64 := by omega
  have hS := (St.nil w).alloc 24 (cfgCells c s)
  have Q0 := St.loadC (L := [(w.heap.size, 24, cfgCells c s)]) (w0 := w) 0 rfl
  have Q1 := St.cell (L := [(w.heap.size, 24, cfgCells c s)]) (w0 := w) 0 rfl 12 (v := .int .i64 (room : Int)) (by rw [← hr]; rfl)
  have HG := Lib.hid hg
  have H1 := Lib.hid h1
  have H2 := Lib.hid h2
  have HR := Lib.hid hr
  clear hg hb hb1 hb2 h1 h2 hr
  go_enter Try.func6, Try.ntmps6
  go_wp2_with (first
    | (go_at_call 18; refine (check_ok HG.out _ _).mono ?_; rintro e w1 ⟨rfl, hB⟩; replace hS := hS.step hB; clear hB)
    | (go_at_call 19; refine (KN.new_rg (room := room) (hS0.step hS.below) H1.out (Nat.le_trans H2.out (by omega))).mono ?_; rintro e w2 ⟨gr, rfl, hR2⟩; clear hS))
  go_ret
  exact ⟨_, gr, room, rfl, hR2.alloc _ _, HR.out.symm, H1.out, H2.out⟩
set_option maxRecDepth 100000 in
set_option maxHeartbeats 2000000 in
theorem start_any {x : Int} (h : FG w0 L R gf gr room on kd n hd l q w) {k2 n2 : Int} (hi : isV k2 n2 = true) (hx : 0 ≤ x) : Calls Try.prog 7 #[.pointer (some ⟨gf, 0, none⟩), .agg #[.int .i64 k2, .int .i64 n2], .int .i64 x] w fun e w' => e = .returned (.bool true) ∧ FG w0 L R gf gr room true k2 n2 x 0 [] w' := by
  have HI := Lib.hid hi
  have z1 : ¬ x < 0 := by omega
  have hA : RG KN w0 ((w.heap.size, 26, #[.int .i64 k2, .int .i64 n2]) :: (gf, 57, FC gr on kd n hd l) :: L) R gr room q (w.alloc (.cells #[.int .i64 k2, .int .i64 n2] 26)) := h.alloc _ _
  clear h hi hx
  go_enter Try.func7, Try.ntmps7
  go_wp2_with (first
    | (go_at_call 20; refine (is_any _ _ _).mono ?_; rintro e w1 ⟨rfl, hB⟩; rw [HI.out]; have hR1 := hA.step hB; clear hA hB; generalize w.heap.size = gx at hR1 ⊢; have c0 : w1.cell? ⟨gf, 0, none⟩ = some (.pointer (some ⟨gr, 0, none⟩)) := (hR1.sr.st.get 1 rfl).cell 0)
    | (go_at_call 21; refine (KN.clear_rg hR1 rfl).mono ?_; rintro e w2 ⟨rfl, hR2⟩; clear hR1 c0))
  have bF := hR2.sr.st.get 1 rfl
  have bX := hR2.sr.st.get 0 rfl
  have hne : gf ≠ gx := by have := hR2.sr.st.nodup; simp at this; omega
  have c1 : w2.cell? ⟨gf, 1, none⟩ = some (.bool on) := bF.cell 1
  have f1 := bF.frozen 1
  have c2 : w2.cell? ⟨gf, 2, none⟩ = some (.int .i64 kd) := bF.cell 2
  have f2 := bF.frozen 2
  have c3 : w2.cell? ⟨gf, 3, none⟩ = some (.int .i64 n) := bF.cell 3
  have f3 := bF.frozen 3
  have c4 : w2.cell? ⟨gf, 4, none⟩ = some (.int .i64 hd) := bF.cell 4
  have f4 := bF.frozen 4
  have c5 : w2.cell? ⟨gf, 5, none⟩ = some (.int .i64 l) := bF.cell 5
  have f5 := bF.frozen 5
  have hS0 : St (bareW w0) [(gx, 26, (#[.int .i64 k2, .int .i64 n2] : Array Value))] w2.drew := (bareN hR2.sr.st.below.os hR2.sr.st.below.tape hR2.sr.st.below.output (by simp) (by intro y hy; simp at hy; subst hy; exact bX)).drew
  have QX0 : ∀ W, St (bareW w0) [(gx, 26, (#[.int .i64 k2, .int .i64 n2] : Array Value))] W → W.cell? ⟨gx, 0, none⟩ = some (.int .i64 k2) := St.cell 0 rfl 0 rfl
  have QX1 : ∀ W, St (bareW w0) [(gx, 26, (#[.int .i64 k2, .int .i64 n2] : Array Value))] W → W.cell? ⟨gx, 1, none⟩ = some (.int .i64 n2) := St.cell 0 rfl 1 rfl
  have HR2 := Lib.hid hR2
  have HF := Lib.hid bF
  clear hR2 bF bX
  refine wp_region_held_drew (S := St (bareW w0) [(gx, 26, (#[.int .i64 k2, .int .i64 n2] : Array Value))]) (by kernel_rfl) hS0 (fun hHeld => ?_)
  refine wpAnyH_take (i := 0) (oi := { dst := some 23, op := Op.move (Operand.tmp 0), type := 29, pos := "feed.go:39", after := #[], guard := none }) (v := ?_) rfl (by kernel_rfl) (by kernel_rfl) (by kernel_rfl) (fun _ _ _ h => h) (Or.inl ⟨by rfl, ?_⟩) (by assumption) ?_
  rotate_left
  · (intro W hSw; go_simp; first | done | with_reducible rfl)
  try simp only [Act.put, List.setIfInBounds_toArray, List.set_cons_zero, List.set_cons_succ]
  refine wpAnyH_take (i := 1) (oi := { dst := some 24, op := Op.move (Operand.tmp 0), type := 29, pos := "feed.go:39", after := #[{ on := 8, ground := Ground.gcOnly Departure.lateStores }], guard := none }) (v := ?_) rfl (by kernel_rfl) (by kernel_rfl) (by kernel_rfl) (fun _ _ _ h => h) (Or.inl ⟨by rfl, ?_⟩) (by assumption) ?_
  rotate_left
  · (intro W hSw; go_simp; first | done | with_reducible rfl)
  try simp only [Act.put, List.setIfInBounds_toArray, List.set_cons_zero, List.set_cons_succ]
  refine wpAnyH_take (i := 2) (oi := { dst := some 25, op := Op.move (Operand.tmp 0), type := 29, pos := "feed.go:39", after := #[{ on := 11, ground := Ground.gcOnly Departure.lateStores }], guard := none }) (v := ?_) rfl (by kernel_rfl) (by kernel_rfl) (by kernel_rfl) (fun _ _ _ h => h) (Or.inl ⟨by rfl, ?_⟩) (by assumption) ?_
  rotate_left
  · (intro W hSw; go_simp; first | done | with_reducible rfl)
  try simp only [Act.put, List.setIfInBounds_toArray, List.set_cons_zero, List.set_cons_succ]
  refine wpAnyH_take (i := 3) (oi := { dst := some 26, op := Op.move (Operand.tmp 0), type := 29, pos := "feed.go:39", after := #[{ on := 14, ground := Ground.gcOnly Departure.lateStores }], guard := none }) (v := ?_) rfl (by kernel_rfl) (by kernel_rfl) (by kernel_rfl) (fun _ _ _ h => h) (Or.inl ⟨by rfl, ?_⟩) (by assumption) ?_
  rotate_left
  · (intro W hSw; go_simp; first | done | with_reducible rfl)
  try simp only [Act.put, List.setIfInBounds_toArray, List.set_cons_zero, List.set_cons_succ]
  refine wpAnyH_take (i := 4) (oi := { dst := some 27, op := Op.load 26 (Operand.tmp 4), type := 26, pos := "feed.go:39", after := #[{ on := 8, ground := Ground.gcOnly Departure.lateStores }], guard := none }) (v := ?_) rfl (by kernel_rfl) (by kernel_rfl) (by kernel_rfl) (fun _ _ _ h => h) (Or.inl ⟨by rfl, ?_⟩) (by assumption) ?_
  rotate_left
  · (intro W hSw; go_simp; first | done | with_reducible rfl)
  try simp only [Act.put, List.setIfInBounds_toArray, List.set_cons_zero, List.set_cons_succ]
  refine wpAnyH_take (i := 5) (oi := { dst := some 28, op := Op.move (Operand.tmp 2), type := 3, pos := "feed.go:39", after := #[{ on := 11, ground := Ground.gcOnly Departure.lateStores }], guard := none }) (v := ?_) rfl (by kernel_rfl) (by kernel_rfl) (by kernel_rfl) (fun _ _ _ h => h) (Or.inl ⟨by rfl, ?_⟩) (by assumption) ?_
  rotate_left
  · (intro W hSw; go_simp; first | done | with_reducible rfl)
  try simp only [Act.put, List.setIfInBounds_toArray, List.set_cons_zero, List.set_cons_succ]
  refine wpAnyH_take (i := 6) (oi := { dst := some 29, op := Op.nilCheck (Operand.tmp 23), type := 0, pos := "feed.go:39", after := #[{ on := 0, ground := Ground.data }, { on := 0, ground := Ground.phase }, { on := 1, ground := Ground.textOnly Departure.lateStores }, { on := 2, ground := Ground.textOnly Departure.lateStores }, { on := 3, ground := Ground.textOnly Departure.lateStores }, { on := 4, ground := Ground.textOnly Departure.lateStores }, { on := 5, ground := Ground.textOnly Departure.lateStores }], guard := none }) (v := ?_) rfl (by kernel_rfl) (by kernel_rfl) (by kernel_rfl) (fun _ _ _ h => h) (Or.inl ⟨by rfl, ?_⟩) (by assumption) ?_
  rotate_left
  · (intro W hSw; go_simp; first | done | with_reducible rfl)
  try simp only [Act.put, List.setIfInBounds_toArray, List.set_cons_zero, List.set_cons_succ]
  refine wpAnyH_take (i := 7) (oi := { dst := some 30, op := Op.fieldAddr 57 (Operand.tmp 29) 1, type := 0, pos := "feed.go:39", after := #[{ on := 6, ground := Ground.data }, { on := 0, ground := Ground.phase }, { on := 1, ground := Ground.textOnly Departure.lateStores }, { on := 2, ground := Ground.textOnly Departure.lateStores }, { on := 3, ground := Ground.textOnly Departure.lateStores }, { on := 4, ground := Ground.textOnly Departure.lateStores }, { on := 5, ground := Ground.textOnly Departure.lateStores }], guard := none }) (v := ?_) rfl (by kernel_rfl) (by kernel_rfl) (by kernel_rfl) (fun _ _ _ h => h) (Or.inl ⟨by rfl, ?_⟩) (by assumption) ?_
  rotate_left
  · (intro W hSw; go_simp; first | done | with_reducible rfl)
  try simp only [Act.put, List.setIfInBounds_toArray, List.set_cons_zero, List.set_cons_succ]
  refine wpAnyH_ready (rs := [8]) (by kernel_rfl) (by simp) ?_
  refine AllReadyH.cons (o := { dst := none, op := Op.store 4 (Operand.tmp 30) (Operand.const (Value.bool true)), type := 0, pos := "feed.go:39", after := #[{ on := 7, ground := Ground.data }, { on := 0, ground := Ground.phase }, { on := 1, ground := Ground.textOnly Departure.lateStores }, { on := 2, ground := Ground.textOnly Departure.lateStores }, { on := 3, ground := Ground.textOnly Departure.lateStores }, { on := 4, ground := Ground.textOnly Departure.lateStores }, { on := 5, ground := Ground.textOnly Departure.lateStores }], guard := none }) rfl (fun K hK => ?_) AllReadyH.nil
  go_simp
  have hS8 := (hHeld.farCell (g := gf) (by simp [hne]) (Nat.zero_le _) 1 (.bool true))
  refine hK.out _ _ (by assumption) (fun hHeld => ?_)
  clear hK K
  try simp only [Act.put, List.setIfInBounds_toArray, List.set_cons_zero, List.set_cons_succ]
  refine wpAnyH_take (i := 9) (oi := { dst := some 31, op := Op.nilCheck (Operand.tmp 24), type := 0, pos := "feed.go:39", after := #[{ on := 1, ground := Ground.data }, { on := 0, ground := Ground.phase }, { on := 1, ground := Ground.phase }, { on := 2, ground := Ground.textOnly Departure.lateStores }, { on := 3, ground := Ground.textOnly Departure.lateStores }, { on := 4, ground := Ground.phase }, { on := 5, ground := Ground.textOnly Departure.lateStores }, { on := 6, ground := Ground.phase }, { on := 7, ground := Ground.phase }, { on := 8, ground := Ground.phase }], guard := none }) (v := ?_) rfl (by kernel_rfl) (by kernel_rfl) (by kernel_rfl) (fun _ _ _ h => h) (Or.inl ⟨by rfl, ?_⟩) (by assumption) ?_
  rotate_left
  · (intro W hSw; go_simp; first | done | with_reducible rfl)
  try simp only [Act.put, List.setIfInBounds_toArray, List.set_cons_zero, List.set_cons_succ]
  refine wpAnyH_take (i := 10) (oi := { dst := some 32, op := Op.fieldAddr 57 (Operand.tmp 31) 2, type := 0, pos := "feed.go:39", after := #[{ on := 9, ground := Ground.data }, { on := 0, ground := Ground.phase }, { on := 1, ground := Ground.phase }, { on := 2, ground := Ground.textOnly Departure.lateStores }, { on := 3, ground := Ground.textOnly Departure.lateStores }, { on := 4, ground := Ground.phase }, { on := 5, ground := Ground.textOnly Departure.lateStores }, { on := 6, ground := Ground.phase }, { on := 7, ground := Ground.phase }, { on := 8, ground := Ground.phase }], guard := none }) (v := ?_) rfl (by kernel_rfl) (by kernel_rfl) (by kernel_rfl) (fun _ _ _ h => h) (Or.inl ⟨by rfl, ?_⟩) (by assumption) ?_
  rotate_left
  · (intro W hSw; go_simp; first | done | with_reducible rfl)
  try simp only [Act.put, List.setIfInBounds_toArray, List.set_cons_zero, List.set_cons_succ]
  refine wpAnyH_ready (rs := [11]) (by kernel_rfl) (by simp) ?_
  refine AllReadyH.cons (o := { dst := none, op := Op.store 26 (Operand.tmp 32) (Operand.tmp 27), type := 0, pos := "feed.go:39", after := #[{ on := 10, ground := Ground.data }, { on := 4, ground := Ground.data }, { on := 8, ground := Ground.chain }, { on := 0, ground := Ground.phase }, { on := 1, ground := Ground.phase }, { on := 2, ground := Ground.textOnly Departure.lateStores }, { on := 3, ground := Ground.textOnly Departure.lateStores }, { on := 4, ground := Ground.phase }, { on := 5, ground := Ground.textOnly Departure.lateStores }, { on := 6, ground := Ground.phase }, { on := 7, ground := Ground.phase }, { on := 8, ground := Ground.phase }], guard := none }) rfl (fun K hK => ?_) AllReadyH.nil
  go_simp
  have hS11 := ((hHeld.farCell (g := gf) (by simp [hne]) (Nat.zero_le _) 2 (.int .i64 k2)).farCell (g := gf) (by simp [hne]) (Nat.zero_le _) 3 (.int .i64 n2))
  refine hK.out _ _ (by assumption) (fun hHeld => ?_)
  clear hK K
  try simp only [Act.put, List.setIfInBounds_toArray, List.set_cons_zero, List.set_cons_succ]
  refine wpAnyH_take (i := 12) (oi := { dst := some 33, op := Op.nilCheck (Operand.tmp 25), type := 0, pos := "feed.go:39", after := #[{ on := 2, ground := Ground.data }, { on := 0, ground := Ground.phase }, { on := 1, ground := Ground.phase }, { on := 2, ground := Ground.phase }, { on := 3, ground := Ground.textOnly Departure.lateStores }, { on := 4, ground := Ground.phase }, { on := 5, ground := Ground.phase }, { on := 6, ground := Ground.phase }, { on := 7, ground := Ground.phase }, { on := 8, ground := Ground.phase }, { on := 9, ground := Ground.phase }, { on := 10, ground := Ground.phase }, { on := 11, ground := Ground.phase }], guard := none }) (v := ?_) rfl (by kernel_rfl) (by kernel_rfl) (by kernel_rfl) (fun _ _ _ h => h) (Or.inl ⟨by rfl, ?_⟩) (by assumption) ?_
  rotate_left
  · (intro W hSw; go_simp; first | done | with_reducible rfl)
  try simp only [Act.put, List.setIfInBounds_toArray, List.set_cons_zero, List.set_cons_succ]
  refine wpAnyH_take (i := 13) (oi := { dst := some 34, op := Op.fieldAddr 57 (Operand.tmp 33) 3, type := 0, pos := "feed.go:39", after := #[{ on := 12, ground := Ground.data }, { on := 0, ground := Ground.phase }, { on := 1, ground := Ground.phase }, { on := 2, ground := Ground.phase }, { on := 3, ground := Ground.textOnly Departure.lateStores }, { on := 4, ground := Ground.phase }, { on := 5, ground := Ground.phase }, { on := 6, ground := Ground.phase }, { on := 7, ground := Ground.phase }, { on := 8, ground := Ground.phase }, { on := 9, ground := Ground.phase }, { on := 10, ground := Ground.phase }, { on := 11, ground := Ground.phase }], guard := none }) (v := ?_) rfl (by kernel_rfl) (by kernel_rfl) (by kernel_rfl) (fun _ _ _ h => h) (Or.inl ⟨by rfl, ?_⟩) (by assumption) ?_
  rotate_left
  · (intro W hSw; go_simp; first | done | with_reducible rfl)
  try simp only [Act.put, List.setIfInBounds_toArray, List.set_cons_zero, List.set_cons_succ]
  refine wpAnyH_ready (rs := [14]) (by kernel_rfl) (by simp) ?_
  refine AllReadyH.cons (o := { dst := none, op := Op.store 3 (Operand.tmp 34) (Operand.tmp 28), type := 0, pos := "feed.go:39", after := #[{ on := 13, ground := Ground.data }, { on := 5, ground := Ground.data }, { on := 11, ground := Ground.chain }, { on := 0, ground := Ground.phase }, { on := 1, ground := Ground.phase }, { on := 2, ground := Ground.phase }, { on := 3, ground := Ground.textOnly Departure.lateStores }, { on := 4, ground := Ground.phase }, { on := 5, ground := Ground.phase }, { on := 6, ground := Ground.phase }, { on := 7, ground := Ground.phase }, { on := 8, ground := Ground.phase }, { on := 9, ground := Ground.phase }, { on := 10, ground := Ground.phase }, { on := 11, ground := Ground.phase }], guard := none }) rfl (fun K hK => ?_) AllReadyH.nil
  go_simp
  have hS14 := (hHeld.farCell (g := gf) (by simp [hne]) (Nat.zero_le _) 4 (.int .i64 x))
  refine hK.out _ _ (by assumption) (fun hHeld => ?_)
  clear hK K
  try simp only [Act.put, List.setIfInBounds_toArray, List.set_cons_zero, List.set_cons_succ]
  refine wpAnyH_take (i := 15) (oi := { dst := some 35, op := Op.nilCheck (Operand.tmp 26), type := 0, pos := "feed.go:39", after := #[{ on := 3, ground := Ground.data }, { on := 0, ground := Ground.phase }, { on := 1, ground := Ground.phase }, { on := 2, ground := Ground.phase }, { on := 3, ground := Ground.phase }, { on := 4, ground := Ground.phase }, { on := 5, ground := Ground.phase }, { on := 6, ground := Ground.phase }, { on := 7, ground := Ground.phase }, { on := 8, ground := Ground.phase }, { on := 9, ground := Ground.phase }, { on := 10, ground := Ground.phase }, { on := 11, ground := Ground.phase }, { on := 12, ground := Ground.phase }, { on := 13, ground := Ground.phase }, { on := 14, ground := Ground.phase }], guard := none }) (v := ?_) rfl (by kernel_rfl) (by kernel_rfl) (by kernel_rfl) (fun _ _ _ h => h) (Or.inl ⟨by rfl, ?_⟩) (by assumption) ?_
  rotate_left
  · (intro W hSw; go_simp; first | done | with_reducible rfl)
  try simp only [Act.put, List.setIfInBounds_toArray, List.set_cons_zero, List.set_cons_succ]
  refine wpAnyH_take (i := 16) (oi := { dst := some 36, op := Op.fieldAddr 57 (Operand.tmp 35) 4, type := 0, pos := "feed.go:39", after := #[{ on := 15, ground := Ground.data }, { on := 0, ground := Ground.phase }, { on := 1, ground := Ground.phase }, { on := 2, ground := Ground.phase }, { on := 3, ground := Ground.phase }, { on := 4, ground := Ground.phase }, { on := 5, ground := Ground.phase }, { on := 6, ground := Ground.phase }, { on := 7, ground := Ground.phase }, { on := 8, ground := Ground.phase }, { on := 9, ground := Ground.phase }, { on := 10, ground := Ground.phase }, { on := 11, ground := Ground.phase }, { on := 12, ground := Ground.phase }, { on := 13, ground := Ground.phase }, { on := 14, ground := Ground.phase }], guard := none }) (v := ?_) rfl (by kernel_rfl) (by kernel_rfl) (by kernel_rfl) (fun _ _ _ h => h) (Or.inl ⟨by rfl, ?_⟩) (by assumption) ?_
  rotate_left
  · (intro W hSw; go_simp; first | done | with_reducible rfl)
  try simp only [Act.put, List.setIfInBounds_toArray, List.set_cons_zero, List.set_cons_succ]
  refine wpAnyH_ready (rs := [17]) (by kernel_rfl) (by simp) ?_
  refine AllReadyH.cons (o := { dst := none, op := Op.store 3 (Operand.tmp 36) (Operand.const (Value.int IntKind.i64 0)), type := 0, pos := "feed.go:39", after := #[{ on := 16, ground := Ground.data }, { on := 14, ground := Ground.chain }, { on := 0, ground := Ground.phase }, { on := 1, ground := Ground.phase }, { on := 2, ground := Ground.phase }, { on := 3, ground := Ground.phase }, { on := 4, ground := Ground.phase }, { on := 5, ground := Ground.phase }, { on := 6, ground := Ground.phase }, { on := 7, ground := Ground.phase }, { on := 8, ground := Ground.phase }, { on := 9, ground := Ground.phase }, { on := 10, ground := Ground.phase }, { on := 11, ground := Ground.phase }, { on := 12, ground := Ground.phase }, { on := 13, ground := Ground.phase }, { on := 14, ground := Ground.phase }], guard := none }) rfl (fun K hK => ?_) AllReadyH.nil
  go_simp
  have hS17 := (hHeld.farCell (g := gf) (by simp [hne]) (Nat.zero_le _) 5 (.int .i64 0))
  refine hK.out _ _ (by assumption) (fun hHeld => ?_)
  clear hK K
  try simp only [Act.put, List.setIfInBounds_toArray, List.set_cons_zero, List.set_cons_succ]
  refine wpAnyH_done (by kernel_rfl) ?_ _
  go_wp2_with fail
  go_ret
  have hb := ((((HF.out.drew.set_ 1 (.bool true)).set_ 2 (.int .i64 k2)).set_ 3 (.int .i64 n2)).set_ 4 (.int .i64 x)).set_ 5 (.int .i64 0)
  have ho : Only gf w2 (((((w2.drew.setCell ⟨gf, 1, none⟩ (.bool true)).setCell ⟨gf, 2, none⟩ (.int .i64 k2)).setCell ⟨gf, 3, none⟩ (.int .i64 n2)).setCell ⟨gf, 4, none⟩ (.int .i64 x)).setCell ⟨gf, 5, none⟩ (.int .i64 0)) :=
    (((((show Only gf w2 w2.drew from ⟨rfl, rfl, rfl, rfl, fun _ _ => rfl⟩).trans (Only.setCell _ gf 1 _)).trans (Only.setCell _ gf 2 _)).trans (Only.setCell _ gf 3 _)).trans (Only.setCell _ gf 4 _)).trans (Only.setCell _ gf 5 _)
  exact ⟨rfl, (HR2.out.setAt 1 rfl ho hb).sub (List.sublist_cons_self _ _)⟩
end
end Go.Proofs.Ytjfpmolnipiphaa
