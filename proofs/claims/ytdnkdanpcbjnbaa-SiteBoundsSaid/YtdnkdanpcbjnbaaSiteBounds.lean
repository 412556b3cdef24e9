/- The statement SiteBounds, walked: for every configuration and place the Go law returns true, and nothing that was in memory is changed. No condition. -/
import Derived.Test.YtdnkdanpcbjnbaaSiteMath
import Derived.Deep.LoopGhost
namespace Go.Proofs.Ytdnkdanpcbjnbaa
open Go.RowKit
attribute [local go_sem ↓] Go.wp_at_zero Go.wp_at_succ

abbrev growCells : Array Value := #[.string ⟨#[102, 108, 111, 111, 114, 115]⟩, .string ⟨#[99, 97, 108, 108, 115]⟩, .string ⟨#[100, 111, 111, 114]⟩, .string ⟨#[104, 111, 108, 100, 115]⟩]
abbrev waitCells : Array Value := #[.string ⟨#[114, 101, 116, 114, 105, 101, 115]⟩, .string ⟨#[105, 110]⟩, .string ⟨#[111, 117, 116]⟩]
theorem grow_at (k : Nat) (hk : k < 4) : growCells[k]? = some (.string (nameAt (grI k))) := by
  have : k = 0 ∨ k = 1 ∨ k = 2 ∨ k = 3 := by omega
  rcases this with rfl | rfl | rfl | rfl <;> rfl
theorem wait_at (k : Nat) (hk : k < 3) : waitCells[k]? = some (.string (nameAt (waI k))) := by
  have : k = 0 ∨ k = 1 ∨ k = 2 := by omega
  rcases this with rfl | rfl | rfl <;> rfl

abbrev LB (c : Nat → Int) (s : Int) (w : World) (ga : Nat) : List (Nat × TypeId × Array Value) := [(ga, 43, growCells), (w.heap.size, 24, cfgCells c s)]
abbrev LW (c : Nat → Int) (s : Int) (w : World) (ga gb : Nat) : List (Nat × TypeId × Array Value) := [(gb, 44, waitCells), (ga, 43, growCells), (w.heap.size, 24, cfgCells c s)]

set_option maxRecDepth 100000 in
set_option maxHeartbeats 2000000 in
theorem bounds_no (c : Nat → Int) (s at_ : Int) (w : World) (hg : good c = false) :
    Calls Try.prog 5 #[.agg (cfgCells c s), .int .i64 at_] w fun e w' => e = .returned (.bool true) ∧ Below w.heap.size w w' := by
  have H := Lib.hid hg
  clear hg
  have hS := (St.nil w).alloc 24 (cfgCells c s)
  have HL := St.loadC (L := [(w.heap.size, 24, cfgCells c s)]) (w0 := w) 0 rfl
  go_enter Try.func5, Try.ntmps5
  go_wp2_with (first
    | (go_at_call 7; refine (awake7 _).mono ?_; rintro e w1 ⟨rfl, hB⟩; replace hS := hS.step hB; clear hB)
    | (go_at_call 9; refine (check_no H.out _ _).mono ?_; rintro e w2 ⟨rfl, hB⟩; replace hS := hS.step hB; clear hB))
  go_ret
  exact ⟨rfl, hS.below⟩

set_option maxRecDepth 100000 in
set_option maxHeartbeats 4000000 in
theorem bounds_yes (c : Nat → Int) (s at_ : Int) (w : World) (hg : good c = true) :
    Calls Try.prog 5 #[.agg (cfgCells c s), .int .i64 at_] w fun e w' => e = .returned (.bool true) ∧ Below w.heap.size w w' := by
  have H := Lib.hid hg
  clear hg
  have hS := (St.nil w).alloc 24 (cfgCells c s)
  have HL := St.loadC (L := [(w.heap.size, 24, cfgCells c s)]) (w0 := w) 0 rfl
  go_enter Try.func5, Try.ntmps5
  go_wp2_with (first
    | (go_at_call 7; refine (awake7 _).mono ?_; rintro e w1 ⟨rfl, hB⟩; replace hS := hS.step hB; clear hB)
    | (go_at_call 9; refine (check_ok H.out _ _).mono ?_; rintro e w2 ⟨rfl, hB⟩; replace hS := hS.step hB; clear hB HL)
    | (refine store_new hS rfl rfl 43 _ _ rfl 43 _ growCells rfl rfl (by kernel_rfl) rfl (by simp [Value.oneCell']) ?_; intro w3 hS3 hlt3; clear hS))
  clear hlt3
  have hB3 : St w (LB c s w w2.heap.size) w3 := hS3
  clear hS3
  generalize w2.heap.size = ga at hB3 ⊢
  have HL := St.loadC (L := LB c s w ga) (w0 := w) 1 rfl
  go_loopg [6] 4 (fun m i wr => ∃ k : Nat, m + k = 4 ∧ i = .int .i64 k ∧ St w (LB c s w ga) wr)
  case atStart => exact ⟨0, by omega, rfl, hB3⟩
  case round =>
    clear hB3
    obtain ⟨k, hk, rfl, hR⟩ := hrel
    by_cases hlt : k < 4
    · have k0 : (0 : Int) ≤ (k : Int) := by omega
      have k1 : (k : Int) < 4 := by omega
      have HI := Lib.hid (grI_lt k hlt)
      have HC := St.cell (L := LB c s w ga) (w0 := w) 0 rfl k (grow_at k hlt)
      have HK := Lib.hid hk
      have HG := Lib.hid hlt
      have hb := at_bd H.out (grI k) HI.out
      have e1 : IntKind.i64.wrap (c (grI k) + 1) = c (grI k) + 1 := IntWalk.i64_in _ (by omega)
      clear hk hlt hb
      go_wp2_with fail
      have hR0 := hR.drew
      go_region_held3 (St w (LB c s w ga)) (assumption) ((go_at_call 18; refine (get_at _ _ _ HI.out _).mono ?_; rintro e w9 ⟨rfl, hB⟩; have hS9 := St.step (by assumption) hB))
      go_upto_region 10 with (fail)
      go_cut [9, 10] (fun a b wx => ∃ gd, a = .pointer (some ⟨gd, 0, none⟩) ∧ b = .bool true ∧ St w ((gd, 24, cfgCells (putV c (grI k) (c (grI k) + 1)) s) :: (LB c s w ga)) wx)
      case first =>
        have hS1 := St.drew (hS9)
        have hS2 : St w ((w9.heap.size, 24, cfgCells (fun _ => 0) 0) :: (LB c s w ga)) (w9.drew.alloc (.cells (cfgCells (fun _ => 0) 0) 24)) := hS1.alloc 24 (cfgCells (fun _ => 0) 0)
        have HN := snew (putV c (grI k) (c (grI k) + 1)) s
        go_region_held3 (St w (LB c s w ga)) ((first | assumption | exact St.old (by assumption) _ | exact St.putNew' (by assumption) _ _ _ | exact St.put' (by assumption) _)) ((go_at_call 19; refine (set_at _ _ _ HI.out _ _).mono ?_; rintro e w10 ⟨rfl, hB⟩; (first | (have hS10 := hS2.step hB; have hS11 := hS10.sub (List.sublist_cons_self _ _); have HT := @scfg (putV c (grI k) (c (grI k) + 1)) s _ _ _ (hS10.get 0 rfl) rfl) | (have hS11 := hS1.step hB))))
        all_goals
          go_wp2_with fail
          go_meet
          first | exact ⟨_, rfl, rfl, hS11.putNew _ _ _⟩ | exact ⟨_, rfl, rfl, hS10.put _⟩
      case rest =>
      obtain ⟨gd, rfl, rfl, hS5⟩ := hcut
      clear hR0 hS9 hR
      have HD := St.loadC (L := (gd, 24, cfgCells (putV c (grI k) (c (grI k) + 1)) s) :: LB c s w ga) (w0 := w) 0 rfl
      have HL2 := St.loadC (L := (gd, 24, cfgCells (putV c (grI k) (c (grI k) + 1)) s) :: LB c s w ga) (w0 := w) 2 rfl
      cases hgd : good (putV c (grI k) (c (grI k) + 1))
      · have HGD := Lib.hid hgd
        clear hgd
        go_wp2_with fail
        have hS6 := hS5.drew
        refine wp_region_held_drew (S := St w ((gd, 24, cfgCells (putV c (grI k) (c (grI k) + 1)) s) :: LB c s w ga)) (by kernel_rfl) hS6 (fun hHeld => ?_)
        refine wpAnyH_take (i := 0) (oi := { dst := some 51, op := Op.load 24 (Operand.tmp 9), type := 24, pos := "own.go:22", after := #[], guard := none }) (v := ?_) rfl (by kernel_rfl) (by kernel_rfl) (by kernel_rfl) (fun _ _ _ h => h) (Or.inl ⟨by rfl, ?_⟩) (by assumption) ?_
        rotate_left
        · (intro W hSw; go_simp; first | done | with_reducible rfl)
        try simp only [Act.put, List.setIfInBounds_toArray, List.set_cons_zero, List.set_cons_succ]
        refine wpAnyH_ready (rs := [1]) (by kernel_rfl) (by simp) ?_
        refine AllReadyH.cons (o := { dst := some 52, op := Op.call { callee := Callee.value (Operand.func 9), args := #[Operand.tmp 51], argTypes := #[24] }, type := 27, pos := "own.go:22", after := #[{ on := 0, ground := Ground.data }], guard := none }) rfl (fun K hK => ?_) AllReadyH.nil
        go_simp
        refine (check_no HGD.out _ _).mono ?_; rintro e w9 ⟨rfl, hB⟩; have hS9 := hS6.step hB
        refine hK.out _ _ (by assumption) (fun hHeld => ?_)
        clear hK K
        try simp only [Act.put, List.setIfInBounds_toArray, List.set_cons_zero, List.set_cons_succ]
        refine wpAnyH_take (i := 2) (oi := { dst := some 53, op := Op.binOp BinOp.eql 27 (Operand.tmp 52) (Operand.const (Value.int IntKind.i64 0)) 27, type := 4, pos := "own.go:22", after := #[{ on := 1, ground := Ground.data }], guard := none }) (v := ?_) rfl (by kernel_rfl) (by kernel_rfl) (by kernel_rfl) (fun _ _ _ h => h) (Or.inl ⟨by rfl, ?_⟩) (by assumption) ?_
        rotate_left
        · (intro W hSw; go_simp; first | done | with_reducible rfl)
        try simp only [Act.put, List.setIfInBounds_toArray, List.set_cons_zero, List.set_cons_succ]
        refine wpAnyH_take (i := 3) (oi := { dst := some 54, op := Op.move (Operand.tmp 53), type := 4, pos := "own.go:22", after := #[{ on := 2, ground := Ground.data }, { on := 1, ground := Ground.chain }], guard := none }) (v := ?_) rfl (by kernel_rfl) (by kernel_rfl) (by kernel_rfl) (fun _ _ _ h => h) (Or.inl ⟨by rfl, ?_⟩) (by assumption) ?_
        rotate_left
        · (intro W hSw; go_simp; first | done | with_reducible rfl)
        try simp only [Act.put, List.setIfInBounds_toArray, List.set_cons_zero, List.set_cons_succ]
        refine wpAnyH_take (i := 4) (oi := { dst := some 55, op := Op.load 24 (Operand.tmp 9), type := 24, pos := "own.go:22", after := #[{ on := 3, ground := Ground.guard }], guard := some (3, true) }) (v := undef) rfl (by kernel_rfl) (by kernel_rfl) (by kernel_rfl) (fun _ _ _ h => h) (Or.inr ⟨by rfl, rfl⟩) (by assumption) ?_
        try simp only [Act.put, List.setIfInBounds_toArray, List.set_cons_zero, List.set_cons_succ]
        refine wpAnyH_take (i := 5) (oi := { dst := some 56, op := Op.call { callee := Callee.value (Operand.func 12), args := #[Operand.tmp 55], argTypes := #[24] }, type := 3, pos := "own.go:22", after := #[{ on := 4, ground := Ground.data }, { on := 3, ground := Ground.chain }, { on := 3, ground := Ground.guard }], guard := some (3, true) }) (v := undef) rfl (by kernel_rfl) (by kernel_rfl) (by kernel_rfl) (fun _ _ _ h => h) (Or.inr ⟨by rfl, rfl⟩) (by assumption) ?_
        try simp only [Act.put, List.setIfInBounds_toArray, List.set_cons_zero, List.set_cons_succ]
        refine wpAnyH_take (i := 6) (oi := { dst := some 57, op := Op.load 24 (Operand.tmp 2), type := 24, pos := "own.go:22", after := #[{ on := 3, ground := Ground.guard }], guard := some (3, true) }) (v := undef) rfl (by kernel_rfl) (by kernel_rfl) (by kernel_rfl) (fun _ _ _ h => h) (Or.inr ⟨by rfl, rfl⟩) (by assumption) ?_
        try simp only [Act.put, List.setIfInBounds_toArray, List.set_cons_zero, List.set_cons_succ]
        refine wpAnyH_take (i := 7) (oi := { dst := some 58, op := Op.call { callee := Callee.value (Operand.func 12), args := #[Operand.tmp 57], argTypes := #[24] }, type := 3, pos := "own.go:22", after := #[{ on := 6, ground := Ground.data }, { on := 5, ground := Ground.chain }, { on := 3, ground := Ground.guard }], guard := some (3, true) }) (v := undef) rfl (by kernel_rfl) (by kernel_rfl) (by kernel_rfl) (fun _ _ _ h => h) (Or.inr ⟨by rfl, rfl⟩) (by assumption) ?_
        try simp only [Act.put, List.setIfInBounds_toArray, List.set_cons_zero, List.set_cons_succ]
        refine wpAnyH_take (i := 8) (oi := { dst := some 59, op := Op.binOp BinOp.leq 3 (Operand.tmp 56) (Operand.tmp 58) 3, type := 4, pos := "own.go:22", after := #[{ on := 5, ground := Ground.data }, { on := 7, ground := Ground.data }, { on := 3, ground := Ground.guard }], guard := some (3, true) }) (v := undef) rfl (by kernel_rfl) (by kernel_rfl) (by kernel_rfl) (fun _ _ _ h => h) (Or.inr ⟨by rfl, rfl⟩) (by assumption) ?_
        try simp only [Act.put, List.setIfInBounds_toArray, List.set_cons_zero, List.set_cons_succ]
        refine wpAnyH_take (i := 9) (oi := { dst := some 60, op := Op.pick (Operand.tmp 54) (Operand.tmp 59) (Operand.const (Value.bool false)), type := 4, pos := "own.go:22", after := #[{ on := 3, ground := Ground.data }, { on := 8, ground := Ground.data }], guard := none }) (v := ?_) rfl (by kernel_rfl) (by kernel_rfl) (by kernel_rfl) (fun _ _ _ h => h) (Or.inl ⟨by rfl, ?_⟩) (by assumption) ?_
        rotate_left
        · (intro W hSw; go_simp; first | done | with_reducible rfl)
        try simp only [Act.put, List.setIfInBounds_toArray, List.set_cons_zero, List.set_cons_succ]
        refine wpAnyH_done (by kernel_rfl) ?_ _
        go_wp2_with fail
        go_roundg (gk - 1)
        case measure => have := HK.out; have := HG.out; omega
        case rel => exact ⟨k + 1, by have := HK.out; have := HG.out; omega, by go_num, hS9.sub (List.sublist_cons_self _ _)⟩
      · have HGD := Lib.hid hgd
        have HLE := ride_grows_b H.out k HG.out hgd
        clear hgd
        go_wp2_with fail
        have hS6 := hS5.drew
        go_region_held3 (St w ((gd, 24, cfgCells (putV c (grI k) (c (grI k) + 1)) s) :: LB c s w ga)) (assumption) (first
          | (go_at_call 9; refine (check_ok HGD.out _ _).mono ?_; rintro e w9 ⟨rfl, hB⟩; have hS9 := St.step (by assumption) hB)
          | (go_at_call 12; refine (ride_any _ _ _).mono ?_; rintro e w9 ⟨rfl, hB⟩; have hS9 := St.step (by assumption) hB))
        all_goals
          go_wp2_with fail
          go_roundg (gk - 1)
          case measure => have := HK.out; have := HG.out; omega
          case rel => exact ⟨k + 1, by have := HK.out; have := HG.out; omega, by go_num, St.sub (by assumption) (List.sublist_cons_self _ _)⟩
    · obtain rfl : k = 4 := by omega
      clear hlt hk
      go_wp2_with fail
      have hW : St w (LW c s w ga wr.heap.size) (wr.alloc (.cells waitCells 44)) := hR.alloc 44 waitCells
      have hwl : wr.heap.size < (wr.alloc (.cells waitCells 44)).heap.size := by simp
      generalize wr.heap.size = gb at hW hwl ⊢
      generalize wr.alloc (.cells waitCells 44) = w4 at hW hwl ⊢
      clear hR HL
      have HL := St.loadC (L := LW c s w ga gb) (w0 := w) 2 rfl
      go_loopg [12] 3 (fun m i wr => ∃ k : Nat, m + k = 3 ∧ i = .int .i64 k ∧ St w (LW c s w ga gb) wr)
      case atStart => exact ⟨0, by omega, rfl, hW⟩
      case round =>
        clear hW
        obtain ⟨k, hk, rfl, hR⟩ := hrel
        by_cases hlt : k < 3
        · have k0 : (0 : Int) ≤ (k : Int) := by omega
          have k1 : (k : Int) < 3 := by omega
          have HI := Lib.hid (waI_lt k hlt)
          have HC := St.cell (L := LW c s w ga gb) (w0 := w) 0 rfl k (wait_at k hlt)
          have HK := Lib.hid hk
          have HG := Lib.hid hlt
          have hb := at_bd H.out (waI k) HI.out
          have e1 : IntKind.i64.wrap (c (waI k) + 1) = c (waI k) + 1 := IntWalk.i64_in _ (by omega)
          clear hk hlt hb
          go_wp2_with fail
          have hR0 := hR.drew
          go_region_held3 (St w (LW c s w ga gb)) (assumption) ((go_at_call 18; refine (get_at _ _ _ HI.out _).mono ?_; rintro e w9 ⟨rfl, hB⟩; have hS9 := St.step (by assumption) hB))
          go_upto_region 18 with (fail)
          go_cut [15, 16] (fun a b wx => ∃ gd, a = .pointer (some ⟨gd, 0, none⟩) ∧ b = .bool true ∧ St w ((gd, 24, cfgCells (putV c (waI k) (c (waI k) + 1)) s) :: (LW c s w ga gb)) wx)
          case first =>
            have hS1 := St.drew (hS9)
            have hS2 : St w ((w9.heap.size, 24, cfgCells (fun _ => 0) 0) :: (LW c s w ga gb)) (w9.drew.alloc (.cells (cfgCells (fun _ => 0) 0) 24)) := hS1.alloc 24 (cfgCells (fun _ => 0) 0)
            have HN := snew (putV c (waI k) (c (waI k) + 1)) s
            go_region_held3 (St w (LW c s w ga gb)) ((first | assumption | exact St.old (by assumption) _ | exact St.putNew' (by assumption) _ _ _ | exact St.put' (by assumption) _)) ((go_at_call 19; refine (set_at _ _ _ HI.out _ _).mono ?_; rintro e w10 ⟨rfl, hB⟩; (first | (have hS10 := hS2.step hB; have hS11 := hS10.sub (List.sublist_cons_self _ _); have HT := @scfg (putV c (waI k) (c (waI k) + 1)) s _ _ _ (hS10.get 0 rfl) rfl) | (have hS11 := hS1.step hB))))
            all_goals
              go_wp2_with fail
              go_meet
              first | exact ⟨_, rfl, rfl, hS11.putNew _ _ _⟩ | exact ⟨_, rfl, rfl, hS10.put _⟩
          case rest =>
          obtain ⟨gd, rfl, rfl, hS5⟩ := hcut
          clear hR0 hS9 hR
          have HD := St.loadC (L := (gd, 24, cfgCells (putV c (waI k) (c (waI k) + 1)) s) :: LW c s w ga gb) (w0 := w) 0 rfl
          have HL2 := St.loadC (L := (gd, 24, cfgCells (putV c (waI k) (c (waI k) + 1)) s) :: LW c s w ga gb) (w0 := w) 3 rfl
          cases hgd : good (putV c (waI k) (c (waI k) + 1))
          · have HGD := Lib.hid hgd
            clear hgd
            go_wp2_with fail
            have hS6 := hS5.drew
            refine wp_region_held_drew (S := St w ((gd, 24, cfgCells (putV c (waI k) (c (waI k) + 1)) s) :: LW c s w ga gb)) (by kernel_rfl) hS6 (fun hHeld => ?_)
            refine wpAnyH_take (i := 0) (oi := { dst := some 84, op := Op.load 24 (Operand.tmp 15), type := 24, pos := "own.go:30", after := #[], guard := none }) (v := ?_) rfl (by kernel_rfl) (by kernel_rfl) (by kernel_rfl) (fun _ _ _ h => h) (Or.inl ⟨by rfl, ?_⟩) (by assumption) ?_
            rotate_left
            · (intro W hSw; go_simp; first | done | with_reducible rfl)
            try simp only [Act.put, List.setIfInBounds_toArray, List.set_cons_zero, List.set_cons_succ]
            refine wpAnyH_ready (rs := [1]) (by kernel_rfl) (by simp) ?_
            refine AllReadyH.cons (o := { dst := some 85, op := Op.call { callee := Callee.value (Operand.func 9), args := #[Operand.tmp 84], argTypes := #[24] }, type := 27, pos := "own.go:30", after := #[{ on := 0, ground := Ground.data }], guard := none }) rfl (fun K hK => ?_) AllReadyH.nil
            go_simp
            refine (check_no HGD.out _ _).mono ?_; rintro e w9 ⟨rfl, hB⟩; have hS9 := hS6.step hB
            refine hK.out _ _ (by assumption) (fun hHeld => ?_)
            clear hK K
            try simp only [Act.put, List.setIfInBounds_toArray, List.set_cons_zero, List.set_cons_succ]
            refine wpAnyH_take (i := 2) (oi := { dst := some 86, op := Op.binOp BinOp.eql 27 (Operand.tmp 85) (Operand.const (Value.int IntKind.i64 0)) 27, type := 4, pos := "own.go:30", after := #[{ on := 1, ground := Ground.data }], guard := none }) (v := ?_) rfl (by kernel_rfl) (by kernel_rfl) (by kernel_rfl) (fun _ _ _ h => h) (Or.inl ⟨by rfl, ?_⟩) (by assumption) ?_
            rotate_left
            · (intro W hSw; go_simp; first | done | with_reducible rfl)
            try simp only [Act.put, List.setIfInBounds_toArray, List.set_cons_zero, List.set_cons_succ]
            refine wpAnyH_take (i := 3) (oi := { dst := some 87, op := Op.move (Operand.tmp 86), type := 4, pos := "own.go:30", after := #[{ on := 2, ground := Ground.data }, { on := 1, ground := Ground.chain }], guard := none }) (v := ?_) rfl (by kernel_rfl) (by kernel_rfl) (by kernel_rfl) (fun _ _ _ h => h) (Or.inl ⟨by rfl, ?_⟩) (by assumption) ?_
            rotate_left
            · (intro W hSw; go_simp; first | done | with_reducible rfl)
            try simp only [Act.put, List.setIfInBounds_toArray, List.set_cons_zero, List.set_cons_succ]
            refine wpAnyH_take (i := 4) (oi := { dst := some 88, op := Op.load 24 (Operand.tmp 15), type := 24, pos := "own.go:30", after := #[{ on := 3, ground := Ground.guard }], guard := some (3, true) }) (v := undef) rfl (by kernel_rfl) (by kernel_rfl) (by kernel_rfl) (fun _ _ _ h => h) (Or.inr ⟨by rfl, rfl⟩) (by assumption) ?_
            try simp only [Act.put, List.setIfInBounds_toArray, List.set_cons_zero, List.set_cons_succ]
            refine wpAnyH_take (i := 5) (oi := { dst := some 89, op := Op.call { callee := Callee.value (Operand.func 13), args := #[Operand.tmp 88], argTypes := #[24] }, type := 3, pos := "own.go:30", after := #[{ on := 4, ground := Ground.data }, { on := 3, ground := Ground.chain }, { on := 3, ground := Ground.guard }], guard := some (3, true) }) (v := undef) rfl (by kernel_rfl) (by kernel_rfl) (by kernel_rfl) (fun _ _ _ h => h) (Or.inr ⟨by rfl, rfl⟩) (by assumption) ?_
            try simp only [Act.put, List.setIfInBounds_toArray, List.set_cons_zero, List.set_cons_succ]
            refine wpAnyH_take (i := 6) (oi := { dst := some 90, op := Op.load 24 (Operand.tmp 2), type := 24, pos := "own.go:30", after := #[{ on := 3, ground := Ground.guard }], guard := some (3, true) }) (v := undef) rfl (by kernel_rfl) (by kernel_rfl) (by kernel_rfl) (fun _ _ _ h => h) (Or.inr ⟨by rfl, rfl⟩) (by assumption) ?_
            try simp only [Act.put, List.setIfInBounds_toArray, List.set_cons_zero, List.set_cons_succ]
            refine wpAnyH_take (i := 7) (oi := { dst := some 91, op := Op.call { callee := Callee.value (Operand.func 13), args := #[Operand.tmp 90], argTypes := #[24] }, type := 3, pos := "own.go:30", after := #[{ on := 6, ground := Ground.data }, { on := 5, ground := Ground.chain }, { on := 3, ground := Ground.guard }], guard := some (3, true) }) (v := undef) rfl (by kernel_rfl) (by kernel_rfl) (by kernel_rfl) (fun _ _ _ h => h) (Or.inr ⟨by rfl, rfl⟩) (by assumption) ?_
            try simp only [Act.put, List.setIfInBounds_toArray, List.set_cons_zero, List.set_cons_succ]
            refine wpAnyH_take (i := 8) (oi := { dst := some 92, op := Op.binOp BinOp.leq 3 (Operand.tmp 89) (Operand.tmp 91) 3, type := 4, pos := "own.go:30", after := #[{ on := 5, ground := Ground.data }, { on := 7, ground := Ground.data }, { on := 3, ground := Ground.guard }], guard := some (3, true) }) (v := undef) rfl (by kernel_rfl) (by kernel_rfl) (by kernel_rfl) (fun _ _ _ h => h) (Or.inr ⟨by rfl, rfl⟩) (by assumption) ?_
            try simp only [Act.put, List.setIfInBounds_toArray, List.set_cons_zero, List.set_cons_succ]
            refine wpAnyH_take (i := 9) (oi := { dst := some 93, op := Op.pick (Operand.tmp 87) (Operand.tmp 92) (Operand.const (Value.bool false)), type := 4, pos := "own.go:30", after := #[{ on := 3, ground := Ground.data }, { on := 8, ground := Ground.data }], guard := none }) (v := ?_) rfl (by kernel_rfl) (by kernel_rfl) (by kernel_rfl) (fun _ _ _ h => h) (Or.inl ⟨by rfl, ?_⟩) (by assumption) ?_
            rotate_left
            · (intro W hSw; go_simp; first | done | with_reducible rfl)
            try simp only [Act.put, List.setIfInBounds_toArray, List.set_cons_zero, List.set_cons_succ]
            refine wpAnyH_done (by kernel_rfl) ?_ _
            go_wp2_with fail
            go_roundg (gk - 1)
            case measure => have := HK.out; have := HG.out; omega
            case rel => exact ⟨k + 1, by have := HK.out; have := HG.out; omega, by go_num, hS9.sub (List.sublist_cons_self _ _)⟩
          · have HGD := Lib.hid hgd
            have HLE := answer_grows_b H.out k HG.out hgd
            clear hgd
            go_wp2_with fail
            have hS6 := hS5.drew
            go_region_held3 (St w ((gd, 24, cfgCells (putV c (waI k) (c (waI k) + 1)) s) :: LW c s w ga gb)) (assumption) (first
              | (go_at_call 9; refine (check_ok HGD.out _ _).mono ?_; rintro e w9 ⟨rfl, hB⟩; have hS9 := St.step (by assumption) hB)
              | (go_at_call 13; refine (answer_any _ _ _).mono ?_; rintro e w9 ⟨rfl, hB⟩; have hS9 := St.step (by assumption) hB))
            all_goals
              go_wp2_with fail
              go_roundg (gk - 1)
              case measure => have := HK.out; have := HG.out; omega
              case rel => exact ⟨k + 1, by have := HK.out; have := HG.out; omega, by go_num, St.sub (by assumption) (List.sublist_cons_self _ _)⟩
        · obtain rfl : k = 3 := by omega
          clear hlt hk HL
          go_wp2_with fail
          refine (names_any _).mono ?_
          rintro e w5 ⟨v, rfl, ⟨gs, cap, cur, rfl, hg1, hg2, hg3⟩, hB⟩
          have hN : St w ((gs, 9, cur) :: LW c s w ga gb) w5 := hR.call_new hB hg1 hg2
          obtain ⟨k, hk17, hk⟩ := mod17 at_
          have k0 : (0 : Int) ≤ (k : Int) := by omega
          have k1 : (k : Int) < 17 := by omega
          have q1 := St.cell (L := (gs, 9, cur) :: LW c s w ga gb) (w0 := w) 0 rfl k (hg3 k hk17)
          have HK := Lib.hid hk17
          clear hk17 hg1 hg2 hg3 hB hR
          go_wp2_with (refine store_new hN rfl rfl 40 _ _ rfl 40 _ (arrCells least) rfl rfl (by kernel_rfl) rfl (by simp [Value.oneCell']) ?_; intro w6 hS6 hlt6)
          clear hN q1 hlt6
          generalize w5.heap.size = gl at hS6 ⊢
          have HL := St.loadC (L := (gl, 40, arrCells least) :: (gs, 9, cur) :: LW c s w ga gb) (w0 := w) 4 rfl
          have HC := St.cell (L := (gl, 40, arrCells least) :: (gs, 9, cur) :: LW c s w ga gb) (w0 := w) 0 rfl k (arr_at HK.out)
          have hb := bounds17 k HK.out
          have e1 : IntKind.i64.wrap (least k - 1) = least k - 1 := IntWalk.i64_in _ (by omega)
          have e2 : IntKind.i64.wrap (k : Int) = (k : Int) := IntWalk.i64_in _ (by omega)
          clear hb
          go_upto_region 23 with (fail)
          go_cut [19, 20] (fun a b wx => ∃ gd, a = .pointer (some ⟨gd, 0, none⟩) ∧ b = .bool true ∧ St w ((gd, 24, cfgCells (putV c k (least k)) s) :: ((gl, 40, arrCells least) :: (gs, 9, cur) :: LW c s w ga gb)) wx)
          case first =>
            have hS1 := St.drew (hS6)
            have hS2 : St w ((w6.heap.size, 24, cfgCells (fun _ => 0) 0) :: ((gl, 40, arrCells least) :: (gs, 9, cur) :: LW c s w ga gb)) (w6.drew.alloc (.cells (cfgCells (fun _ => 0) 0) 24)) := hS1.alloc 24 (cfgCells (fun _ => 0) 0)
            have HN := snew (putV c k (least k)) s
            go_region_held3 (St w ((gl, 40, arrCells least) :: (gs, 9, cur) :: LW c s w ga gb)) ((first | assumption | exact St.old (by assumption) _ | exact St.putNew' (by assumption) _ _ _ | exact St.put' (by assumption) _)) ((go_at_call 19; refine (set_at _ _ _ HK.out _ _).mono ?_; rintro e w10 ⟨rfl, hB⟩; (first | (have hS10 := hS2.step hB; have hS11 := hS10.sub (List.sublist_cons_self _ _); have HT := @scfg (putV c k (least k)) s _ _ _ (hS10.get 0 rfl) rfl) | (have hS11 := hS1.step hB))))
            all_goals
              go_wp2_with fail
              go_meet
              first | exact ⟨_, rfl, rfl, hS11.putNew _ _ _⟩ | exact ⟨_, rfl, rfl, hS10.put _⟩
          case rest =>
          obtain ⟨gx, rfl, rfl, hS5⟩ := hcut
          clear hS6 HL HC
          have HL := St.loadC (L := (gx, 24, cfgCells (putV c k (least k)) s) :: (gl, 40, arrCells least) :: (gs, 9, cur) :: LW c s w ga gb) (w0 := w) 5 rfl
          have HC := St.cell (L := (gx, 24, cfgCells (putV c k (least k)) s) :: (gl, 40, arrCells least) :: (gs, 9, cur) :: LW c s w ga gb) (w0 := w) 1 rfl k (arr_at HK.out)
          obtain ⟨w7, hw7⟩ : ∃ w7, w7 = wc := ⟨_, rfl⟩
          subst hw7
          go_wp2_with fail
          go_upto_region 24 with (fail)
          go_cut [21, 22] (fun a b wx => ∃ gd, a = .pointer (some ⟨gd, 0, none⟩) ∧ b = .bool true ∧ St w ((gd, 24, cfgCells (putV c k (least k - 1)) s) :: ((gx, 24, cfgCells (putV c k (least k)) s) :: (gl, 40, arrCells least) :: (gs, 9, cur) :: LW c s w ga gb)) wx)
          case first =>
            have hS1 := St.drew (hS5)
            have hS2 : St w ((w7.heap.size, 24, cfgCells (fun _ => 0) 0) :: ((gx, 24, cfgCells (putV c k (least k)) s) :: (gl, 40, arrCells least) :: (gs, 9, cur) :: LW c s w ga gb)) (w7.drew.alloc (.cells (cfgCells (fun _ => 0) 0) 24)) := hS1.alloc 24 (cfgCells (fun _ => 0) 0)
            have HN := snew (putV c k (least k - 1)) s
            go_region_held3 (St w ((gx, 24, cfgCells (putV c k (least k)) s) :: (gl, 40, arrCells least) :: (gs, 9, cur) :: LW c s w ga gb)) ((first | assumption | exact St.old (by assumption) _ | exact St.putNew' (by assumption) _ _ _ | exact St.put' (by assumption) _)) ((go_at_call 19; refine (set_at _ _ _ HK.out _ _).mono ?_; rintro e w10 ⟨rfl, hB⟩; (first | (have hS10 := hS2.step hB; have hS11 := hS10.sub (List.sublist_cons_self _ _); have HT := @scfg (putV c k (least k - 1)) s _ _ _ (hS10.get 0 rfl) rfl) | (have hS11 := hS1.step hB))))
            all_goals
              go_wp2_with fail
              go_meet
              first | exact ⟨_, rfl, rfl, hS11.putNew _ _ _⟩ | exact ⟨_, rfl, rfl, hS10.put _⟩
          case rest =>
          obtain ⟨gy, rfl, rfl, hS5⟩ := hcut
          clear HL HC
          have HL := St.loadC (L := (gy, 24, cfgCells (putV c k (least k - 1)) s) :: (gx, 24, cfgCells (putV c k (least k)) s) :: (gl, 40, arrCells least) :: (gs, 9, cur) :: LW c s w ga gb) (w0 := w) 6 rfl
          have HX := St.loadC (L := (gy, 24, cfgCells (putV c k (least k - 1)) s) :: (gx, 24, cfgCells (putV c k (least k)) s) :: (gl, 40, arrCells least) :: (gs, 9, cur) :: LW c s w ga gb) (w0 := w) 1 rfl
          have HY := St.loadC (L := (gy, 24, cfgCells (putV c k (least k - 1)) s) :: (gx, 24, cfgCells (putV c k (least k)) s) :: (gl, 40, arrCells least) :: (gs, 9, cur) :: LW c s w ga gb) (w0 := w) 0 rfl
          have HGX := Lib.hid (good_least H.out k HK.out)
          have HGY := Lib.hid (good_beyond H.out k HK.out)
          have dr : decide (0 < rideV c) = true := decide_eq_true (ride_pos H.out)
          have da : decide (0 < answerV c) = true := decide_eq_true (answer_pos H.out)
          go_wp2_with (first
            | (go_at_call 9; (with_reducible refine (check_ok HGX.out _ _).mono ?_); rintro e w9 ⟨rfl, hB⟩; replace hS5 := hS5.step hB; clear hB)
            | (go_at_call 9; (with_reducible refine (check_no HGY.out _ _).mono ?_); rintro e w9 ⟨rfl, hB⟩; replace hS5 := hS5.step hB; clear hB)
            | (go_at_call 12; refine (ride_any _ _ _).mono ?_; rintro e w9 ⟨rfl, hB⟩; replace hS5 := hS5.step hB; clear hB)
            | (go_at_call 13; refine (answer_any _ _ _).mono ?_; rintro e w9 ⟨rfl, hB⟩; replace hS5 := hS5.step hB; clear hB))
          go_ret
          exact ⟨rfl, hS5.below⟩

theorem bounds_law (c : Nat → Int) (s at_ : Int) (w : World) :
    Calls Try.prog 5 #[.agg (cfgCells c s), .int .i64 at_] w fun e w' => e = .returned (.bool true) ∧ Below w.heap.size w w' := by
  cases h : good c
  · exact bounds_no c s at_ w h
  · exact bounds_yes c s at_ w h
end Go.Proofs.Ytdnkdanpcbjnbaa
