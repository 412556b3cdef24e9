/- The statement BucketGrows, walked: for every configuration, bucket and two numbers the Go law returns true, and nothing that was in memory is changed. No condition. -/
import Derived.Test.YtaalcdjhbbdadaaBucketMath
import Derived.Deep.DrawnRows
namespace Go.Proofs.Ytaalcdjhbbdadaa
open Go.RowKit
attribute [local go_sem ↓] Go.wp_at_zero Go.wp_at_succ

theorem bcheck_is {c : Nat → Int} {t l : Int} {b : Bool} (s : Int) (h1 : bchkV c t l = b) (w : World) :
    Calls Try.prog 8 #[.agg (cfgCells c s), .agg (bkt t l)] w fun e w' => e = .returned (.bool b) ∧ Below w.heap.size w w' := h1 ▸ bcheck_any c s t l w

set_option maxRecDepth 100000 in
set_option maxHeartbeats 2000000 in
theorem grows_off (c : Nat → Int) (s t l a more : Int) (w : World) (h : ¬ (bchkV c t l = true ∧ 0 ≤ a ∧ a ≤ 536870912 ∧ 0 ≤ more ∧ more ≤ 536870912)) :
    Calls Try.prog 5 #[.agg (cfgCells c s), .agg (bkt t l), .int .i64 a, .int .i64 more] w fun e w' => e = .returned (.bool true) ∧ Below w.heap.size w w' := by
  have hS := bstart c s t l w
  have HC1 := St.cell (L := [((w.heap.size + 1), 26, bkt t l), (w.heap.size, 24, cfgCells c s)]) (w0 := w) 0 rfl 0 rfl
  have HC2 := St.cell (L := [((w.heap.size + 1), 26, bkt t l), (w.heap.size, 24, cfgCells c s)]) (w0 := w) 0 rfl 1 rfl
  have HL3 := St.loadC (L := [((w.heap.size + 1), 26, bkt t l), (w.heap.size, 24, cfgCells c s)]) (w0 := w) 1 rfl
  have HC4 := St.cell (L := [((w.heap.size + 1), 26, bkt t l), (w.heap.size, 24, cfgCells c s)]) (w0 := w) 1 rfl 7 rfl
  cases hk : bchkV c t l
  · have HK := Lib.hid hk
    clear hk h
    go_enter Try.func5, Try.ntmps5
    go_wp2_with (first | (go_at_call 6; refine (awake13 _).mono ?_; rintro e w1 ⟨rfl, hB⟩; replace hS := St.step hS hB; clear hB) | (go_at_call 8; refine (bcheck_is s HK.out _).mono ?_; rintro e w2 ⟨rfl, hB⟩; replace hS := St.step hS hB; clear hB))
    go_ret
    exact ⟨rfl, hS.below⟩
  · have HK := Lib.hid hk
    have h' : ¬ (0 ≤ a ∧ a ≤ 536870912 ∧ 0 ≤ more ∧ more ≤ 536870912) := fun x => h ⟨hk, x⟩
    clear hk h
    by_cases h1 : 0 ≤ a
    all_goals by_cases h2 : a ≤ 536870912
    all_goals by_cases h3 : 0 ≤ more
    all_goals by_cases h4 : more ≤ 536870912
    all_goals (try (exfalso; omega))
    all_goals
      have H' := Lib.hid h'
      clear h'
      go_enter Try.func5, Try.ntmps5
      go_wp2_with (first | (go_at_call 6; refine (awake13 _).mono ?_; rintro e w1 ⟨rfl, hB⟩; replace hS := St.step hS hB; clear hB) | (go_at_call 8; refine (bcheck_is s HK.out _).mono ?_; rintro e w2 ⟨rfl, hB⟩; replace hS := St.step hS hB; clear hB))
      go_ret
      exact ⟨rfl, hS.below⟩

set_option maxRecDepth 100000 in
set_option maxHeartbeats 2000000 in
theorem grows_no (c : Nat → Int) (s t l a more x y : Int) (w : World) (hk : bchkV c t l = true) (a0 : 0 ≤ a) (a1 : a ≤ 536870912) (m0 : 0 ≤ more) (m1 : more ≤ 536870912) (hx : levelV c t l a = x) (hy : levelV c t l (a + more) = y) (x0 : x = 0) (xy : x ≤ y) (yc : y ≤ c 7) (tx : t ≤ x) :
    Calls Try.prog 5 #[.agg (cfgCells c s), .agg (bkt t l), .int .i64 a, .int .i64 more] w fun e w' => e = .returned (.bool true) ∧ Below w.heap.size w w' := by
  have hS := bstart c s t l w
  subst x0
  have HK := Lib.hid hk
  have HX := Lib.hid hx
  have HY := Lib.hid hy
  obtain ⟨hg, b1, b2, b3, b4⟩ := bchk_true hk
  obtain ⟨⟨c1, c2⟩, _, _⟩ := good_br hg
  have HR := Lib.hid (show takeV c t l a = bkt t l by unfold takeV; rw [hx]; rfl)
  have HB := Lib.hid (show decide (1 ≤ levelV c t l a) = false by rw [hx]; rfl)
  clear hk hx hy hg
  have HC1 := St.cell (L := [((w.heap.size + 1), 26, bkt t l), (w.heap.size, 24, cfgCells c s)]) (w0 := w) 0 rfl 0 rfl
  have HC2 := St.cell (L := [((w.heap.size + 1), 26, bkt t l), (w.heap.size, 24, cfgCells c s)]) (w0 := w) 0 rfl 1 rfl
  have HL3 := St.loadC (L := [((w.heap.size + 1), 26, bkt t l), (w.heap.size, 24, cfgCells c s)]) (w0 := w) 1 rfl
  have HC4 := St.cell (L := [((w.heap.size + 1), 26, bkt t l), (w.heap.size, 24, cfgCells c s)]) (w0 := w) 1 rfl 7 rfl
  go_enter Try.func5, Try.ntmps5
  go_wp2_with fail
  refine (awake13 _).mono ?_
  rintro e w5 ⟨rfl, hB⟩
  replace hS := St.step hS hB
  clear hB
  go_wp2_with fail
  refine (bcheck_is s HK.out _).mono ?_
  rintro e w6 ⟨rfl, hB⟩
  replace hS := St.step hS hB
  clear hB
  go_wp2_with fail
  refine (level_is s HX.out _).mono ?_
  rintro e w7 ⟨rfl, hB⟩
  replace hS := St.step hS hB
  clear hB
  go_wp2_with fail
  refine (level_is s HY.out _).mono ?_
  rintro e w8 ⟨rfl, hB⟩
  replace hS := St.step hS hB
  clear hB
  go_wp2_with fail
  refine (take_is s HR.out HB.out _).mono ?_
  rintro e w9 ⟨rfl, hB⟩
  replace hS := St.step hS hB
  clear hB
  go_wp2_with (refine store_new hS rfl rfl 26 _ _ rfl 26 _ (bkt t l) rfl rfl (by kernel_rfl) rfl (by simp [Value.oneCell']) ?_; intro w10 hS11 hlt; clear hS HC1 HC2 HL3 HC4; generalize w9.heap.size = gd at hS11 hlt ⊢; clear hlt; have HC12 := St.cell (L := [(gd, 26, (bkt t l)), ((w.heap.size + 1), 26, bkt t l), (w.heap.size, 24, cfgCells c s)]) (w0 := w) 0 rfl 0 rfl; have HC13 := St.cell (L := [(gd, 26, (bkt t l)), ((w.heap.size + 1), 26, bkt t l), (w.heap.size, 24, cfgCells c s)]) (w0 := w) 0 rfl 1 rfl; have HC14 := St.cell (L := [(gd, 26, (bkt t l)), ((w.heap.size + 1), 26, bkt t l), (w.heap.size, 24, cfgCells c s)]) (w0 := w) 1 rfl 0 rfl; have HC15 := St.cell (L := [(gd, 26, (bkt t l)), ((w.heap.size + 1), 26, bkt t l), (w.heap.size, 24, cfgCells c s)]) (w0 := w) 1 rfl 1 rfl; have HL16 := St.loadC (L := [(gd, 26, (bkt t l)), ((w.heap.size + 1), 26, bkt t l), (w.heap.size, 24, cfgCells c s)]) (w0 := w) 2 rfl; have HC17 := St.cell (L := [(gd, 26, (bkt t l)), ((w.heap.size + 1), 26, bkt t l), (w.heap.size, 24, cfgCells c s)]) (w0 := w) 2 rfl 7 rfl)
  go_ret
  exact ⟨rfl, hS11.below⟩
set_option maxRecDepth 100000 in
set_option maxHeartbeats 2000000 in
theorem grows_l (c : Nat → Int) (s t l a more x y p q : Int) (w : World) (hk : bchkV c t l = true) (a0 : 0 ≤ a) (a1 : a ≤ 536870912) (m0 : 0 ≤ more) (m1 : more ≤ 536870912) (hx : levelV c t l a = x) (hy : levelV c t l (a + more) = y) (x0 : 1 ≤ x) (xy : x ≤ y) (yc : y ≤ c 7) (tx : t ≤ x) (hm : a < l) (hp : levelV c (x - 1) l l = x - 1) (hc : bchkV c (x - 1) l = true) (hq : levelV c (x - 1) l (l + more) = p) (hr : levelV c t l (l + more) = q) (hpq : p ≤ q) :
    Calls Try.prog 5 #[.agg (cfgCells c s), .agg (bkt t l), .int .i64 a, .int .i64 more] w fun e w' => e = .returned (.bool true) ∧ Below w.heap.size w w' := by
  have hS := bstart c s t l w
  have HK := Lib.hid hk
  have HX := Lib.hid hx
  have HY := Lib.hid hy
  obtain ⟨hg, b1, b2, b3, b4⟩ := bchk_true hk
  obtain ⟨⟨c1, c2⟩, _, _⟩ := good_br hg
  have HR := Lib.hid (show takeV c t l a = bkt (x - 1) l by unfold takeV; rw [hx, if_pos x0, show max a l = l by omega])
  have HB := Lib.hid (show decide (1 ≤ levelV c t l a) = true by rw [hx]; exact decide_eq_true x0)
  have HP := Lib.hid hp
  have HC := Lib.hid hc
  have HQ := Lib.hid hq
  have HQ2 := Lib.hid hr
  have e1 : IntKind.i64.wrap (x - 1) = x - 1 := IntWalk.i64_in _ (by omega)
  have e2 : IntKind.i64.wrap (l + more) = l + more := IntWalk.i64_in _ (by omega)
  have E1 := Lib.hid e1
  have E2 := Lib.hid e2
  clear hp hc hq hr e1 e2
  clear hk hx hy hg
  have HC1 := St.cell (L := [((w.heap.size + 1), 26, bkt t l), (w.heap.size, 24, cfgCells c s)]) (w0 := w) 0 rfl 0 rfl
  have HC2 := St.cell (L := [((w.heap.size + 1), 26, bkt t l), (w.heap.size, 24, cfgCells c s)]) (w0 := w) 0 rfl 1 rfl
  have HL3 := St.loadC (L := [((w.heap.size + 1), 26, bkt t l), (w.heap.size, 24, cfgCells c s)]) (w0 := w) 1 rfl
  have HC4 := St.cell (L := [((w.heap.size + 1), 26, bkt t l), (w.heap.size, 24, cfgCells c s)]) (w0 := w) 1 rfl 7 rfl
  go_enter Try.func5, Try.ntmps5
  go_wp2_with fail
  refine (awake13 _).mono ?_
  rintro e w5 ⟨rfl, hB⟩
  replace hS := St.step hS hB
  clear hB
  go_wp2_with fail
  refine (bcheck_is s HK.out _).mono ?_
  rintro e w6 ⟨rfl, hB⟩
  replace hS := St.step hS hB
  clear hB
  go_wp2_with fail
  refine (level_is s HX.out _).mono ?_
  rintro e w7 ⟨rfl, hB⟩
  replace hS := St.step hS hB
  clear hB
  go_wp2_with fail
  refine (level_is s HY.out _).mono ?_
  rintro e w8 ⟨rfl, hB⟩
  replace hS := St.step hS hB
  clear hB
  go_wp2_with fail
  refine (take_is s HR.out HB.out _).mono ?_
  rintro e w9 ⟨rfl, hB⟩
  replace hS := St.step hS hB
  clear hB
  go_wp2_with (refine store_new hS rfl rfl 26 _ _ rfl 26 _ (bkt (x - 1) l) rfl rfl (by kernel_rfl) rfl (by simp [Value.oneCell']) ?_; intro w10 hS11 hlt; clear hS HC1 HC2 HL3 HC4; generalize w9.heap.size = gd at hS11 hlt ⊢; clear hlt; have HC12 := St.cell (L := [(gd, 26, (bkt (x - 1) l)), ((w.heap.size + 1), 26, bkt t l), (w.heap.size, 24, cfgCells c s)]) (w0 := w) 0 rfl 0 rfl; have HC13 := St.cell (L := [(gd, 26, (bkt (x - 1) l)), ((w.heap.size + 1), 26, bkt t l), (w.heap.size, 24, cfgCells c s)]) (w0 := w) 0 rfl 1 rfl; have HC14 := St.cell (L := [(gd, 26, (bkt (x - 1) l)), ((w.heap.size + 1), 26, bkt t l), (w.heap.size, 24, cfgCells c s)]) (w0 := w) 1 rfl 0 rfl; have HC15 := St.cell (L := [(gd, 26, (bkt (x - 1) l)), ((w.heap.size + 1), 26, bkt t l), (w.heap.size, 24, cfgCells c s)]) (w0 := w) 1 rfl 1 rfl; have HL16 := St.loadC (L := [(gd, 26, (bkt (x - 1) l)), ((w.heap.size + 1), 26, bkt t l), (w.heap.size, 24, cfgCells c s)]) (w0 := w) 2 rfl; have HC17 := St.cell (L := [(gd, 26, (bkt (x - 1) l)), ((w.heap.size + 1), 26, bkt t l), (w.heap.size, 24, cfgCells c s)]) (w0 := w) 2 rfl 7 rfl)
  have hS0 := hS11.drew
  have e1 := E1.out
  have e2 := E2.out
  go_region_held3 (St w [(gd, 26, (bkt (x - 1) l)), ((w.heap.size + 1), 26, bkt t l), (w.heap.size, 24, cfgCells c s)]) (assumption) (first
    | (go_at_call 12; (with_reducible refine (level_is s HP.out _).mono ?_); rintro e w9 ⟨rfl, hB⟩; have hS9 := St.step (by assumption) hB)
    | (go_at_call 12; (with_reducible refine (level_is s HX.out _).mono ?_); rintro e w9 ⟨rfl, hB⟩; have hS9 := St.step (by assumption) hB)
    | (go_at_call 12; (with_reducible refine (level_is s HQ.out _).mono ?_); rintro e w9 ⟨rfl, hB⟩; have hS9 := St.step (by assumption) hB)
    | (go_at_call 12; (with_reducible refine (level_is s HQ2.out _).mono ?_); rintro e w9 ⟨rfl, hB⟩; have hS9 := St.step (by assumption) hB)
    | (go_at_call 8; (with_reducible refine (bcheck_is s HC.out _).mono ?_); rintro e w9 ⟨rfl, hB⟩; have hS9 := St.step (by assumption) hB))
  all_goals
    go_wp2_with fail
    go_ret
    exact ⟨rfl, (by assumption : St w [(gd, 26, (bkt (x - 1) l)), ((w.heap.size + 1), 26, bkt t l), (w.heap.size, 24, cfgCells c s)] _).below⟩

set_option maxRecDepth 100000 in
set_option maxHeartbeats 2000000 in
theorem grows_a (c : Nat → Int) (s t l a more x y p q : Int) (w : World) (hk : bchkV c t l = true) (a0 : 0 ≤ a) (a1 : a ≤ 536870912) (m0 : 0 ≤ more) (m1 : more ≤ 536870912) (hx : levelV c t l a = x) (hy : levelV c t l (a + more) = y) (x0 : 1 ≤ x) (xy : x ≤ y) (yc : y ≤ c 7) (tx : t ≤ x) (hm : ¬ a < l) (hp : levelV c (x - 1) a a = x - 1) (hc : bchkV c (x - 1) a = true) (hq : levelV c (x - 1) a (a + more) = p) (hr : levelV c t l (a + more) = q) (hpq : p ≤ q) :
    Calls Try.prog 5 #[.agg (cfgCells c s), .agg (bkt t l), .int .i64 a, .int .i64 more] w fun e w' => e = .returned (.bool true) ∧ Below w.heap.size w w' := by
  have hS := bstart c s t l w
  have HK := Lib.hid hk
  have HX := Lib.hid hx
  have HY := Lib.hid hy
  obtain ⟨hg, b1, b2, b3, b4⟩ := bchk_true hk
  obtain ⟨⟨c1, c2⟩, _, _⟩ := good_br hg
  have HR := Lib.hid (show takeV c t l a = bkt (x - 1) a by unfold takeV; rw [hx, if_pos x0, show max a l = a by omega])
  have HB := Lib.hid (show decide (1 ≤ levelV c t l a) = true by rw [hx]; exact decide_eq_true x0)
  have HP := Lib.hid hp
  have HC := Lib.hid hc
  have HQ := Lib.hid hq
  have HQ2 := Lib.hid hr
  have e1 : IntKind.i64.wrap (x - 1) = x - 1 := IntWalk.i64_in _ (by omega)
  have e2 : IntKind.i64.wrap (a + more) = a + more := IntWalk.i64_in _ (by omega)
  have E1 := Lib.hid e1
  have E2 := Lib.hid e2
  clear hp hc hq hr e1 e2
  clear hk hx hy hg
  have HC1 := St.cell (L := [((w.heap.size + 1), 26, bkt t l), (w.heap.size, 24, cfgCells c s)]) (w0 := w) 0 rfl 0 rfl
  have HC2 := St.cell (L := [((w.heap.size + 1), 26, bkt t l), (w.heap.size, 24, cfgCells c s)]) (w0 := w) 0 rfl 1 rfl
  have HL3 := St.loadC (L := [((w.heap.size + 1), 26, bkt t l), (w.heap.size, 24, cfgCells c s)]) (w0 := w) 1 rfl
  have HC4 := St.cell (L := [((w.heap.size + 1), 26, bkt t l), (w.heap.size, 24, cfgCells c s)]) (w0 := w) 1 rfl 7 rfl
  go_enter Try.func5, Try.ntmps5
  go_wp2_with fail
  refine (awake13 _).mono ?_
  rintro e w5 ⟨rfl, hB⟩
  replace hS := St.step hS hB
  clear hB
  go_wp2_with fail
  refine (bcheck_is s HK.out _).mono ?_
  rintro e w6 ⟨rfl, hB⟩
  replace hS := St.step hS hB
  clear hB
  go_wp2_with fail
  refine (level_is s HX.out _).mono ?_
  rintro e w7 ⟨rfl, hB⟩
  replace hS := St.step hS hB
  clear hB
  go_wp2_with fail
  refine (level_is s HY.out _).mono ?_
  rintro e w8 ⟨rfl, hB⟩
  replace hS := St.step hS hB
  clear hB
  go_wp2_with fail
  refine (take_is s HR.out HB.out _).mono ?_
  rintro e w9 ⟨rfl, hB⟩
  replace hS := St.step hS hB
  clear hB
  go_wp2_with (refine store_new hS rfl rfl 26 _ _ rfl 26 _ (bkt (x - 1) a) rfl rfl (by kernel_rfl) rfl (by simp [Value.oneCell']) ?_; intro w10 hS11 hlt; clear hS HC1 HC2 HL3 HC4; generalize w9.heap.size = gd at hS11 hlt ⊢; clear hlt; have HC12 := St.cell (L := [(gd, 26, (bkt (x - 1) a)), ((w.heap.size + 1), 26, bkt t l), (w.heap.size, 24, cfgCells c s)]) (w0 := w) 0 rfl 0 rfl; have HC13 := St.cell (L := [(gd, 26, (bkt (x - 1) a)), ((w.heap.size + 1), 26, bkt t l), (w.heap.size, 24, cfgCells c s)]) (w0 := w) 0 rfl 1 rfl; have HC14 := St.cell (L := [(gd, 26, (bkt (x - 1) a)), ((w.heap.size + 1), 26, bkt t l), (w.heap.size, 24, cfgCells c s)]) (w0 := w) 1 rfl 0 rfl; have HC15 := St.cell (L := [(gd, 26, (bkt (x - 1) a)), ((w.heap.size + 1), 26, bkt t l), (w.heap.size, 24, cfgCells c s)]) (w0 := w) 1 rfl 1 rfl; have HL16 := St.loadC (L := [(gd, 26, (bkt (x - 1) a)), ((w.heap.size + 1), 26, bkt t l), (w.heap.size, 24, cfgCells c s)]) (w0 := w) 2 rfl; have HC17 := St.cell (L := [(gd, 26, (bkt (x - 1) a)), ((w.heap.size + 1), 26, bkt t l), (w.heap.size, 24, cfgCells c s)]) (w0 := w) 2 rfl 7 rfl)
  have hS0 := hS11.drew
  have e1 := E1.out
  have e2 := E2.out
  go_region_held3 (St w [(gd, 26, (bkt (x - 1) a)), ((w.heap.size + 1), 26, bkt t l), (w.heap.size, 24, cfgCells c s)]) (assumption) (first
    | (go_at_call 12; (with_reducible refine (level_is s HP.out _).mono ?_); rintro e w9 ⟨rfl, hB⟩; have hS9 := St.step (by assumption) hB)
    | (go_at_call 12; (with_reducible refine (level_is s HX.out _).mono ?_); rintro e w9 ⟨rfl, hB⟩; have hS9 := St.step (by assumption) hB)
    | (go_at_call 12; (with_reducible refine (level_is s HQ.out _).mono ?_); rintro e w9 ⟨rfl, hB⟩; have hS9 := St.step (by assumption) hB)
    | (go_at_call 12; (with_reducible refine (level_is s HQ2.out _).mono ?_); rintro e w9 ⟨rfl, hB⟩; have hS9 := St.step (by assumption) hB)
    | (go_at_call 8; (with_reducible refine (bcheck_is s HC.out _).mono ?_); rintro e w9 ⟨rfl, hB⟩; have hS9 := St.step (by assumption) hB))
  all_goals
    go_wp2_with fail
    go_ret
    exact ⟨rfl, (by assumption : St w [(gd, 26, (bkt (x - 1) a)), ((w.heap.size + 1), 26, bkt t l), (w.heap.size, 24, cfgCells c s)] _).below⟩

theorem bucketGrows_any (c : Nat → Int) (s t l a more : Int) (w : World) :
    Calls Try.prog 5 #[.agg (cfgCells c s), .agg (bkt t l), .int .i64 a, .int .i64 more] w fun e w' => e = .returned (.bool true) ∧ Below w.heap.size w w' := by
  by_cases h : bchkV c t l = true ∧ 0 ≤ a ∧ a ≤ 536870912 ∧ 0 ≤ more ∧ more ≤ 536870912
  · obtain ⟨hk, a0, a1, m0, m1⟩ := h
    have ha : tickV a = true := tick_mk a0 (by omega)
    have hb : tickV (a + more) = true := tick_mk (by omega) (by omega)
    have l0 := (level_bd c t l a).1
    have l1 := level_mono hk ha hb (by omega)
    have l2 := level_le (now := a + more) hk
    have l3 := level_ge hk ha
    by_cases h1 : 1 ≤ levelV c t l a
    · have q1 := taken_now hk ha h1
      have q2 := taken_ok hk ha h1
      have q3 := taken_less hk ha h1 m0
      by_cases hm : a < l
      · rw [show max a l = l by omega] at q1 q2 q3
        exact grows_l c s t l a more _ _ _ _ w hk a0 a1 m0 m1 rfl rfl h1 l1 l2 l3 hm q1 q2 rfl rfl q3
      · rw [show max a l = a by omega] at q1 q2 q3
        exact grows_a c s t l a more _ _ _ _ w hk a0 a1 m0 m1 rfl rfl h1 l1 l2 l3 hm q1 q2 rfl rfl q3
    · exact grows_no c s t l a more _ _ w hk a0 a1 m0 m1 rfl rfl (by omega) l1 l2 l3
  · exact grows_off c s t l a more w h
end Go.Proofs.Ytaalcdjhbbdadaa
