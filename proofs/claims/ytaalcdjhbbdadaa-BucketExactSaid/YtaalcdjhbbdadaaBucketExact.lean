/- The statement BucketExact, walked: for every configuration, bucket and tick the Go law returns true, and nothing that was in memory is changed. No condition. -/
import Derived.Test.YtaalcdjhbbdadaaBucket3
import Derived.Test.YtaalcdjhbbdadaaOpenBucket
import Derived.Deep.DrawnRows
namespace Go.Proofs.Ytaalcdjhbbdadaa
open Go.RowKit
attribute [local go_sem ↓] Go.wp_at_zero Go.wp_at_succ

theorem rlevel_is {c : Nat → Int} {t l now n : Int} (s : Int) (h1 : levelV c t l now = n) (w : World) :
    Calls Try.prog 10 #[.agg (cfgCells c s), .int .i64 t, .int .i64 l, .int .i64 now] w fun e w' => e = .returned (.int .i64 n) ∧ Below w.heap.size w w' := h1 ▸ rlevel_any c s t l now w
theorem rgood_is13 {c : Nat → Int} {t l now : Int} {b : Bool} (s : Int) (h1 : (bchkV c t l && tickV now) = b) (w : World) :
    Calls Try.prog 9 #[.agg (cfgCells c s), .int .i64 t, .int .i64 l, .int .i64 now] w fun e w' => e = .returned (.bool b) ∧ Below w.heap.size w w' := h1 ▸ rgood13_any c s t l now w
theorem rgood_zero (c : Nat → Int) (s t l : Int) (w : World) :
    Calls Try.prog 9 #[.agg (cfgCells c s), .int .i64 t, .int .i64 l, .int .i64 0] w fun e w' => e = .returned (.bool (bchkV c t l)) ∧ Below w.heap.size w w' :=
  rgood_is13 s (by rw [show tickV 0 = true from rfl, Bool.and_true]) w

set_option maxRecDepth 100000 in
set_option maxHeartbeats 2000000 in
/-- A bucket, or a tick, that can not be. -/
theorem exact_a (c : Nat → Int) (s t l now : Int) (w : World) (h : (bchkV c t l && tickV now) = false) :
    Calls Try.prog 3 #[.agg (cfgCells c s), .agg (bkt t l), .int .i64 now] w fun e w' => e = .returned (.bool true) ∧ Below w.heap.size w w' := by
  have hS := bstart c s t l w
  have HL0 := Lib.hid (show levelV c t l now = 0 by unfold levelV; rw [h]; rfl)
  have HR := Lib.hid (show takeV c t l now = bkt t l by unfold takeV; rw [HL0.out]; rfl)
  have HB := Lib.hid (show decide (1 ≤ levelV c t l now) = false by rw [HL0.out]; rfl)
  have HU := Lib.hid (show untilV c t l now = -1 by unfold untilV; rw [h]; rfl)
  have HG := Lib.hid h
  clear h
  go_enter Try.func3, Try.ntmps3
  have HC1 := St.cell (L := [((w.heap.size + 1), 26, bkt t l), (w.heap.size, 24, cfgCells c s)]) (w0 := w) 0 rfl 0 rfl
  have HC2 := St.cell (L := [((w.heap.size + 1), 26, bkt t l), (w.heap.size, 24, cfgCells c s)]) (w0 := w) 0 rfl 1 rfl
  have HL3 := St.loadC (L := [((w.heap.size + 1), 26, bkt t l), (w.heap.size, 24, cfgCells c s)]) (w0 := w) 1 rfl
  have HC4 := St.cell (L := [((w.heap.size + 1), 26, bkt t l), (w.heap.size, 24, cfgCells c s)]) (w0 := w) 1 rfl 7 rfl
  go_wp2_with (go_at_call 6; refine (awake13 _).mono ?_; rintro e w1 ⟨rfl, hB⟩; replace hS := St.step hS hB; clear hB)
  go_cut [33] (fun b wx => b = .bool false ∧ St w (LB2 c s t l w) wx)
  case first =>
    have hS0 := hS.drew
    go_region_held3 (St w (LB2 c s t l w)) (assumption) (first
      | (go_at_call 7; refine (new_any _ _ _ _).mono ?_; rintro e w9 ⟨rfl, hB⟩; have hS9 := St.step (by assumption) hB)
      | (go_at_call 8; refine (bcheck_any _ _ _ _ _).mono ?_; rintro e w9 ⟨rfl, hB⟩; have hS9 := St.step (by assumption) hB)
      | (go_at_call 9; refine (rgood_zero _ _ _ _ _).mono ?_; rintro e w9 ⟨rfl, hB⟩; have hS9 := St.step (by assumption) hB))
    all_goals
      go_wp2_with fail
      go_meet
      exact ⟨rfl, by assumption⟩
  case rest =>
  obtain ⟨rfl, hS2⟩ := hcut
  clear hS
  have hS : St w (LB2 c s t l w) wc := hS2
  clear hS2
  go_wp2_with fail
  refine (rlevel_is s HL0.out _).mono ?_
  rintro e w5 ⟨rfl, hB⟩
  replace hS := St.step hS hB
  clear hB
  go_wp2_with fail
  refine (take_is s HR.out HB.out _).mono ?_
  rintro e w6 ⟨rfl, hB⟩
  replace hS := St.step hS hB
  clear hB
  go_wp2_with (first | (refine store_new hS rfl rfl 26 _ _ rfl 26 _ (bkt t l) rfl rfl (by kernel_rfl) rfl (by simp [Value.oneCell']) ?_; intro w7 hS8 hlt; clear hS HC1 HC2 HL3 HC4; generalize w6.heap.size = gd at hS8 hlt ⊢; clear hlt; have HC9 := St.cell (L := [(gd, 26, (bkt t l)), ((w.heap.size + 1), 26, bkt t l), (w.heap.size, 24, cfgCells c s)]) (w0 := w) 0 rfl 0 rfl; have HC10 := St.cell (L := [(gd, 26, (bkt t l)), ((w.heap.size + 1), 26, bkt t l), (w.heap.size, 24, cfgCells c s)]) (w0 := w) 0 rfl 1 rfl; have HC11 := St.cell (L := [(gd, 26, (bkt t l)), ((w.heap.size + 1), 26, bkt t l), (w.heap.size, 24, cfgCells c s)]) (w0 := w) 1 rfl 0 rfl; have HC12 := St.cell (L := [(gd, 26, (bkt t l)), ((w.heap.size + 1), 26, bkt t l), (w.heap.size, 24, cfgCells c s)]) (w0 := w) 1 rfl 1 rfl; have HL13 := St.loadC (L := [(gd, 26, (bkt t l)), ((w.heap.size + 1), 26, bkt t l), (w.heap.size, 24, cfgCells c s)]) (w0 := w) 2 rfl; have HC14 := St.cell (L := [(gd, 26, (bkt t l)), ((w.heap.size + 1), 26, bkt t l), (w.heap.size, 24, cfgCells c s)]) (w0 := w) 2 rfl 7 rfl) | (refine store_new hS8 rfl rfl 26 _ _ rfl 26 _ (bkt t l) rfl rfl (by kernel_rfl) rfl (by simp [Value.oneCell']) ?_; intro w15 hS16 hlt; clear hS8 HC9 HC10 HC11 HC12 HL13 HC14; generalize w7.heap.size = gw at hS16 hlt ⊢; clear hlt; have HC17 := St.cell (L := [(gw, 26, (bkt t l)), (gd, 26, (bkt t l)), ((w.heap.size + 1), 26, bkt t l), (w.heap.size, 24, cfgCells c s)]) (w0 := w) 0 rfl 0 rfl; have HC18 := St.cell (L := [(gw, 26, (bkt t l)), (gd, 26, (bkt t l)), ((w.heap.size + 1), 26, bkt t l), (w.heap.size, 24, cfgCells c s)]) (w0 := w) 0 rfl 1 rfl; have HC19 := St.cell (L := [(gw, 26, (bkt t l)), (gd, 26, (bkt t l)), ((w.heap.size + 1), 26, bkt t l), (w.heap.size, 24, cfgCells c s)]) (w0 := w) 1 rfl 0 rfl; have HC20 := St.cell (L := [(gw, 26, (bkt t l)), (gd, 26, (bkt t l)), ((w.heap.size + 1), 26, bkt t l), (w.heap.size, 24, cfgCells c s)]) (w0 := w) 1 rfl 1 rfl; have HC21 := St.cell (L := [(gw, 26, (bkt t l)), (gd, 26, (bkt t l)), ((w.heap.size + 1), 26, bkt t l), (w.heap.size, 24, cfgCells c s)]) (w0 := w) 2 rfl 0 rfl; have HC22 := St.cell (L := [(gw, 26, (bkt t l)), (gd, 26, (bkt t l)), ((w.heap.size + 1), 26, bkt t l), (w.heap.size, 24, cfgCells c s)]) (w0 := w) 2 rfl 1 rfl; have HL23 := St.loadC (L := [(gw, 26, (bkt t l)), (gd, 26, (bkt t l)), ((w.heap.size + 1), 26, bkt t l), (w.heap.size, 24, cfgCells c s)]) (w0 := w) 3 rfl; have HC24 := St.cell (L := [(gw, 26, (bkt t l)), (gd, 26, (bkt t l)), ((w.heap.size + 1), 26, bkt t l), (w.heap.size, 24, cfgCells c s)]) (w0 := w) 3 rfl 7 rfl))
  go_wp2_with fail
  refine (rgood_is13 s HG.out _).mono ?_
  rintro e w25 ⟨rfl, hB⟩
  replace hS16 := St.step hS16 hB
  clear hB
  go_wp2_with fail
  refine (level_is s HL0.out _).mono ?_
  rintro e w26 ⟨rfl, hB⟩
  replace hS16 := St.step hS16 hB
  clear hB
  go_wp2_with fail
  refine (until_is s HU.out _).mono ?_
  rintro e w27 ⟨rfl, hB⟩
  replace hS16 := St.step hS16 hB
  clear hB
  go_wp2
  go_ret
  exact ⟨rfl, hS16.below⟩
set_option maxRecDepth 100000 in
set_option maxHeartbeats 2000000 in
/-- A token is there. -/
theorem exact_b1 (c : Nat → Int) (s t l now n : Int) (w : World) (h : (bchkV c t l && tickV now) = true) (hn : levelV c t l now = n) (h1 : 1 ≤ n) (h2 : n ≤ 1024) (hm : now < l) :
    Calls Try.prog 3 #[.agg (cfgCells c s), .agg (bkt t l), .int .i64 now] w fun e w' => e = .returned (.bool true) ∧ Below w.heap.size w w' := by
  have hS := bstart c s t l w
  have HL0 := Lib.hid hn
  have HR := Lib.hid (show takeV c t l now = bkt (n - 1) l by unfold takeV; rw [hn, if_pos h1, show max now l = l by omega])
  have HB := Lib.hid (show decide (1 ≤ levelV c t l now) = true by rw [hn]; exact decide_eq_true h1)
  have HU := Lib.hid (show untilV c t l now = 0 by unfold untilV; rw [h, hn, if_pos rfl, if_pos (by omega)])
  have HG := Lib.hid h
  clear h hn
  go_enter Try.func3, Try.ntmps3
  have HC1 := St.cell (L := [((w.heap.size + 1), 26, bkt t l), (w.heap.size, 24, cfgCells c s)]) (w0 := w) 0 rfl 0 rfl
  have HC2 := St.cell (L := [((w.heap.size + 1), 26, bkt t l), (w.heap.size, 24, cfgCells c s)]) (w0 := w) 0 rfl 1 rfl
  have HL3 := St.loadC (L := [((w.heap.size + 1), 26, bkt t l), (w.heap.size, 24, cfgCells c s)]) (w0 := w) 1 rfl
  have HC4 := St.cell (L := [((w.heap.size + 1), 26, bkt t l), (w.heap.size, 24, cfgCells c s)]) (w0 := w) 1 rfl 7 rfl
  go_wp2_with (go_at_call 6; refine (awake13 _).mono ?_; rintro e w1 ⟨rfl, hB⟩; replace hS := St.step hS hB; clear hB)
  go_cut [33] (fun b wx => b = .bool false ∧ St w (LB2 c s t l w) wx)
  case first =>
    have hS0 := hS.drew
    go_region_held3 (St w (LB2 c s t l w)) (assumption) (first
      | (go_at_call 7; refine (new_any _ _ _ _).mono ?_; rintro e w9 ⟨rfl, hB⟩; have hS9 := St.step (by assumption) hB)
      | (go_at_call 8; refine (bcheck_any _ _ _ _ _).mono ?_; rintro e w9 ⟨rfl, hB⟩; have hS9 := St.step (by assumption) hB)
      | (go_at_call 9; refine (rgood_zero _ _ _ _ _).mono ?_; rintro e w9 ⟨rfl, hB⟩; have hS9 := St.step (by assumption) hB))
    all_goals
      go_wp2_with fail
      go_meet
      exact ⟨rfl, by assumption⟩
  case rest =>
  obtain ⟨rfl, hS2⟩ := hcut
  clear hS
  have hS : St w (LB2 c s t l w) wc := hS2
  clear hS2
  go_wp2_with fail
  refine (rlevel_is s HL0.out _).mono ?_
  rintro e w5 ⟨rfl, hB⟩
  replace hS := St.step hS hB
  clear hB
  go_wp2_with fail
  refine (take_is s HR.out HB.out _).mono ?_
  rintro e w6 ⟨rfl, hB⟩
  replace hS := St.step hS hB
  clear hB
  go_wp2_with (first | (refine store_new hS rfl rfl 26 _ _ rfl 26 _ (bkt (n - 1) l) rfl rfl (by kernel_rfl) rfl (by simp [Value.oneCell']) ?_; intro w7 hS8 hlt; clear hS HC1 HC2 HL3 HC4; generalize w6.heap.size = gd at hS8 hlt ⊢; clear hlt; have HC9 := St.cell (L := [(gd, 26, (bkt (n - 1) l)), ((w.heap.size + 1), 26, bkt t l), (w.heap.size, 24, cfgCells c s)]) (w0 := w) 0 rfl 0 rfl; have HC10 := St.cell (L := [(gd, 26, (bkt (n - 1) l)), ((w.heap.size + 1), 26, bkt t l), (w.heap.size, 24, cfgCells c s)]) (w0 := w) 0 rfl 1 rfl; have HC11 := St.cell (L := [(gd, 26, (bkt (n - 1) l)), ((w.heap.size + 1), 26, bkt t l), (w.heap.size, 24, cfgCells c s)]) (w0 := w) 1 rfl 0 rfl; have HC12 := St.cell (L := [(gd, 26, (bkt (n - 1) l)), ((w.heap.size + 1), 26, bkt t l), (w.heap.size, 24, cfgCells c s)]) (w0 := w) 1 rfl 1 rfl; have HL13 := St.loadC (L := [(gd, 26, (bkt (n - 1) l)), ((w.heap.size + 1), 26, bkt t l), (w.heap.size, 24, cfgCells c s)]) (w0 := w) 2 rfl; have HC14 := St.cell (L := [(gd, 26, (bkt (n - 1) l)), ((w.heap.size + 1), 26, bkt t l), (w.heap.size, 24, cfgCells c s)]) (w0 := w) 2 rfl 7 rfl) | (refine store_new hS8 rfl rfl 26 _ _ rfl 26 _ (bkt t l) rfl rfl (by kernel_rfl) rfl (by simp [Value.oneCell']) ?_; intro w15 hS16 hlt; clear hS8 HC9 HC10 HC11 HC12 HL13 HC14; generalize w7.heap.size = gw at hS16 hlt ⊢; clear hlt; have HC17 := St.cell (L := [(gw, 26, (bkt t l)), (gd, 26, (bkt (n - 1) l)), ((w.heap.size + 1), 26, bkt t l), (w.heap.size, 24, cfgCells c s)]) (w0 := w) 0 rfl 0 rfl; have HC18 := St.cell (L := [(gw, 26, (bkt t l)), (gd, 26, (bkt (n - 1) l)), ((w.heap.size + 1), 26, bkt t l), (w.heap.size, 24, cfgCells c s)]) (w0 := w) 0 rfl 1 rfl; have HC19 := St.cell (L := [(gw, 26, (bkt t l)), (gd, 26, (bkt (n - 1) l)), ((w.heap.size + 1), 26, bkt t l), (w.heap.size, 24, cfgCells c s)]) (w0 := w) 1 rfl 0 rfl; have HC20 := St.cell (L := [(gw, 26, (bkt t l)), (gd, 26, (bkt (n - 1) l)), ((w.heap.size + 1), 26, bkt t l), (w.heap.size, 24, cfgCells c s)]) (w0 := w) 1 rfl 1 rfl; have HC21 := St.cell (L := [(gw, 26, (bkt t l)), (gd, 26, (bkt (n - 1) l)), ((w.heap.size + 1), 26, bkt t l), (w.heap.size, 24, cfgCells c s)]) (w0 := w) 2 rfl 0 rfl; have HC22 := St.cell (L := [(gw, 26, (bkt t l)), (gd, 26, (bkt (n - 1) l)), ((w.heap.size + 1), 26, bkt t l), (w.heap.size, 24, cfgCells c s)]) (w0 := w) 2 rfl 1 rfl; have HL23 := St.loadC (L := [(gw, 26, (bkt t l)), (gd, 26, (bkt (n - 1) l)), ((w.heap.size + 1), 26, bkt t l), (w.heap.size, 24, cfgCells c s)]) (w0 := w) 3 rfl; have HC24 := St.cell (L := [(gw, 26, (bkt t l)), (gd, 26, (bkt (n - 1) l)), ((w.heap.size + 1), 26, bkt t l), (w.heap.size, 24, cfgCells c s)]) (w0 := w) 3 rfl 7 rfl) | (refine store_at hS16 rfl rfl 26 _ _ rfl 0 gw 26 ((bkt t l)) (bkt (n - 1) l) rfl rfl rfl (by kernel_rfl) rfl (by simp [Value.oneCell']) ?_; intro w25 hS26; have hS26' : St w [(gw, 26, bkt (n - 1) l), (gd, 26, (bkt (n - 1) l)), ((w.heap.size + 1), 26, bkt t l), (w.heap.size, 24, cfgCells c s)] w25 := hS26; clear hS16 HC17 HC18 HC19 HC20 HC21 HC22 HL23 HC24 hS26; have HC27 := St.cell (L := [(gw, 26, bkt (n - 1) l), (gd, 26, (bkt (n - 1) l)), ((w.heap.size + 1), 26, bkt t l), (w.heap.size, 24, cfgCells c s)]) (w0 := w) 0 rfl 0 rfl; have HC28 := St.cell (L := [(gw, 26, bkt (n - 1) l), (gd, 26, (bkt (n - 1) l)), ((w.heap.size + 1), 26, bkt t l), (w.heap.size, 24, cfgCells c s)]) (w0 := w) 0 rfl 1 rfl; have HC29 := St.cell (L := [(gw, 26, bkt (n - 1) l), (gd, 26, (bkt (n - 1) l)), ((w.heap.size + 1), 26, bkt t l), (w.heap.size, 24, cfgCells c s)]) (w0 := w) 1 rfl 0 rfl; have HC30 := St.cell (L := [(gw, 26, bkt (n - 1) l), (gd, 26, (bkt (n - 1) l)), ((w.heap.size + 1), 26, bkt t l), (w.heap.size, 24, cfgCells c s)]) (w0 := w) 1 rfl 1 rfl; have HC31 := St.cell (L := [(gw, 26, bkt (n - 1) l), (gd, 26, (bkt (n - 1) l)), ((w.heap.size + 1), 26, bkt t l), (w.heap.size, 24, cfgCells c s)]) (w0 := w) 2 rfl 0 rfl; have HC32 := St.cell (L := [(gw, 26, bkt (n - 1) l), (gd, 26, (bkt (n - 1) l)), ((w.heap.size + 1), 26, bkt t l), (w.heap.size, 24, cfgCells c s)]) (w0 := w) 2 rfl 1 rfl; have HL33 := St.loadC (L := [(gw, 26, bkt (n - 1) l), (gd, 26, (bkt (n - 1) l)), ((w.heap.size + 1), 26, bkt t l), (w.heap.size, 24, cfgCells c s)]) (w0 := w) 3 rfl; have HC34 := St.cell (L := [(gw, 26, bkt (n - 1) l), (gd, 26, (bkt (n - 1) l)), ((w.heap.size + 1), 26, bkt t l), (w.heap.size, 24, cfgCells c s)]) (w0 := w) 3 rfl 7 rfl))
  go_wp2_with fail
  refine (rgood_is13 s HG.out _).mono ?_
  rintro e w35 ⟨rfl, hB⟩
  replace hS26' := St.step hS26' hB
  clear hB
  go_wp2_with fail
  refine (level_is s HL0.out _).mono ?_
  rintro e w36 ⟨rfl, hB⟩
  replace hS26' := St.step hS26' hB
  clear hB
  go_wp2_with fail
  refine (until_is s HU.out _).mono ?_
  rintro e w37 ⟨rfl, hB⟩
  replace hS26' := St.step hS26' hB
  clear hB
  go_wp2
  go_ret
  exact ⟨rfl, hS26'.below⟩
set_option maxRecDepth 100000 in
set_option maxHeartbeats 2000000 in
/-- A token is there. -/
theorem exact_b2 (c : Nat → Int) (s t l now n : Int) (w : World) (h : (bchkV c t l && tickV now) = true) (hn : levelV c t l now = n) (h1 : 1 ≤ n) (h2 : n ≤ 1024) (hm : ¬ now < l) :
    Calls Try.prog 3 #[.agg (cfgCells c s), .agg (bkt t l), .int .i64 now] w fun e w' => e = .returned (.bool true) ∧ Below w.heap.size w w' := by
  have hS := bstart c s t l w
  have HL0 := Lib.hid hn
  have HR := Lib.hid (show takeV c t l now = bkt (n - 1) now by unfold takeV; rw [hn, if_pos h1, show max now l = now by omega])
  have HB := Lib.hid (show decide (1 ≤ levelV c t l now) = true by rw [hn]; exact decide_eq_true h1)
  have HU := Lib.hid (show untilV c t l now = 0 by unfold untilV; rw [h, hn, if_pos rfl, if_pos (by omega)])
  have HG := Lib.hid h
  clear h hn
  go_enter Try.func3, Try.ntmps3
  have HC1 := St.cell (L := [((w.heap.size + 1), 26, bkt t l), (w.heap.size, 24, cfgCells c s)]) (w0 := w) 0 rfl 0 rfl
  have HC2 := St.cell (L := [((w.heap.size + 1), 26, bkt t l), (w.heap.size, 24, cfgCells c s)]) (w0 := w) 0 rfl 1 rfl
  have HL3 := St.loadC (L := [((w.heap.size + 1), 26, bkt t l), (w.heap.size, 24, cfgCells c s)]) (w0 := w) 1 rfl
  have HC4 := St.cell (L := [((w.heap.size + 1), 26, bkt t l), (w.heap.size, 24, cfgCells c s)]) (w0 := w) 1 rfl 7 rfl
  go_wp2_with (go_at_call 6; refine (awake13 _).mono ?_; rintro e w1 ⟨rfl, hB⟩; replace hS := St.step hS hB; clear hB)
  go_cut [33] (fun b wx => b = .bool false ∧ St w (LB2 c s t l w) wx)
  case first =>
    have hS0 := hS.drew
    go_region_held3 (St w (LB2 c s t l w)) (assumption) (first
      | (go_at_call 7; refine (new_any _ _ _ _).mono ?_; rintro e w9 ⟨rfl, hB⟩; have hS9 := St.step (by assumption) hB)
      | (go_at_call 8; refine (bcheck_any _ _ _ _ _).mono ?_; rintro e w9 ⟨rfl, hB⟩; have hS9 := St.step (by assumption) hB)
      | (go_at_call 9; refine (rgood_zero _ _ _ _ _).mono ?_; rintro e w9 ⟨rfl, hB⟩; have hS9 := St.step (by assumption) hB))
    all_goals
      go_wp2_with fail
      go_meet
      exact ⟨rfl, by assumption⟩
  case rest =>
  obtain ⟨rfl, hS2⟩ := hcut
  clear hS
  have hS : St w (LB2 c s t l w) wc := hS2
  clear hS2
  go_wp2_with fail
  refine (rlevel_is s HL0.out _).mono ?_
  rintro e w5 ⟨rfl, hB⟩
  replace hS := St.step hS hB
  clear hB
  go_wp2_with fail
  refine (take_is s HR.out HB.out _).mono ?_
  rintro e w6 ⟨rfl, hB⟩
  replace hS := St.step hS hB
  clear hB
  go_wp2_with (first | (refine store_new hS rfl rfl 26 _ _ rfl 26 _ (bkt (n - 1) now) rfl rfl (by kernel_rfl) rfl (by simp [Value.oneCell']) ?_; intro w7 hS8 hlt; clear hS HC1 HC2 HL3 HC4; generalize w6.heap.size = gd at hS8 hlt ⊢; clear hlt; have HC9 := St.cell (L := [(gd, 26, (bkt (n - 1) now)), ((w.heap.size + 1), 26, bkt t l), (w.heap.size, 24, cfgCells c s)]) (w0 := w) 0 rfl 0 rfl; have HC10 := St.cell (L := [(gd, 26, (bkt (n - 1) now)), ((w.heap.size + 1), 26, bkt t l), (w.heap.size, 24, cfgCells c s)]) (w0 := w) 0 rfl 1 rfl; have HC11 := St.cell (L := [(gd, 26, (bkt (n - 1) now)), ((w.heap.size + 1), 26, bkt t l), (w.heap.size, 24, cfgCells c s)]) (w0 := w) 1 rfl 0 rfl; have HC12 := St.cell (L := [(gd, 26, (bkt (n - 1) now)), ((w.heap.size + 1), 26, bkt t l), (w.heap.size, 24, cfgCells c s)]) (w0 := w) 1 rfl 1 rfl; have HL13 := St.loadC (L := [(gd, 26, (bkt (n - 1) now)), ((w.heap.size + 1), 26, bkt t l), (w.heap.size, 24, cfgCells c s)]) (w0 := w) 2 rfl; have HC14 := St.cell (L := [(gd, 26, (bkt (n - 1) now)), ((w.heap.size + 1), 26, bkt t l), (w.heap.size, 24, cfgCells c s)]) (w0 := w) 2 rfl 7 rfl) | (refine store_new hS8 rfl rfl 26 _ _ rfl 26 _ (bkt t l) rfl rfl (by kernel_rfl) rfl (by simp [Value.oneCell']) ?_; intro w15 hS16 hlt; clear hS8 HC9 HC10 HC11 HC12 HL13 HC14; generalize w7.heap.size = gw at hS16 hlt ⊢; clear hlt; have HC17 := St.cell (L := [(gw, 26, (bkt t l)), (gd, 26, (bkt (n - 1) now)), ((w.heap.size + 1), 26, bkt t l), (w.heap.size, 24, cfgCells c s)]) (w0 := w) 0 rfl 0 rfl; have HC18 := St.cell (L := [(gw, 26, (bkt t l)), (gd, 26, (bkt (n - 1) now)), ((w.heap.size + 1), 26, bkt t l), (w.heap.size, 24, cfgCells c s)]) (w0 := w) 0 rfl 1 rfl; have HC19 := St.cell (L := [(gw, 26, (bkt t l)), (gd, 26, (bkt (n - 1) now)), ((w.heap.size + 1), 26, bkt t l), (w.heap.size, 24, cfgCells c s)]) (w0 := w) 1 rfl 0 rfl; have HC20 := St.cell (L := [(gw, 26, (bkt t l)), (gd, 26, (bkt (n - 1) now)), ((w.heap.size + 1), 26, bkt t l), (w.heap.size, 24, cfgCells c s)]) (w0 := w) 1 rfl 1 rfl; have HC21 := St.cell (L := [(gw, 26, (bkt t l)), (gd, 26, (bkt (n - 1) now)), ((w.heap.size + 1), 26, bkt t l), (w.heap.size, 24, cfgCells c s)]) (w0 := w) 2 rfl 0 rfl; have HC22 := St.cell (L := [(gw, 26, (bkt t l)), (gd, 26, (bkt (n - 1) now)), ((w.heap.size + 1), 26, bkt t l), (w.heap.size, 24, cfgCells c s)]) (w0 := w) 2 rfl 1 rfl; have HL23 := St.loadC (L := [(gw, 26, (bkt t l)), (gd, 26, (bkt (n - 1) now)), ((w.heap.size + 1), 26, bkt t l), (w.heap.size, 24, cfgCells c s)]) (w0 := w) 3 rfl; have HC24 := St.cell (L := [(gw, 26, (bkt t l)), (gd, 26, (bkt (n - 1) now)), ((w.heap.size + 1), 26, bkt t l), (w.heap.size, 24, cfgCells c s)]) (w0 := w) 3 rfl 7 rfl) | (refine store_at hS16 rfl rfl 26 _ _ rfl 0 gw 26 ((bkt t l)) (bkt (n - 1) now) rfl rfl rfl (by kernel_rfl) rfl (by simp [Value.oneCell']) ?_; intro w25 hS26; have hS26' : St w [(gw, 26, bkt (n - 1) now), (gd, 26, (bkt (n - 1) now)), ((w.heap.size + 1), 26, bkt t l), (w.heap.size, 24, cfgCells c s)] w25 := hS26; clear hS16 HC17 HC18 HC19 HC20 HC21 HC22 HL23 HC24 hS26; have HC27 := St.cell (L := [(gw, 26, bkt (n - 1) now), (gd, 26, (bkt (n - 1) now)), ((w.heap.size + 1), 26, bkt t l), (w.heap.size, 24, cfgCells c s)]) (w0 := w) 0 rfl 0 rfl; have HC28 := St.cell (L := [(gw, 26, bkt (n - 1) now), (gd, 26, (bkt (n - 1) now)), ((w.heap.size + 1), 26, bkt t l), (w.heap.size, 24, cfgCells c s)]) (w0 := w) 0 rfl 1 rfl; have HC29 := St.cell (L := [(gw, 26, bkt (n - 1) now), (gd, 26, (bkt (n - 1) now)), ((w.heap.size + 1), 26, bkt t l), (w.heap.size, 24, cfgCells c s)]) (w0 := w) 1 rfl 0 rfl; have HC30 := St.cell (L := [(gw, 26, bkt (n - 1) now), (gd, 26, (bkt (n - 1) now)), ((w.heap.size + 1), 26, bkt t l), (w.heap.size, 24, cfgCells c s)]) (w0 := w) 1 rfl 1 rfl; have HC31 := St.cell (L := [(gw, 26, bkt (n - 1) now), (gd, 26, (bkt (n - 1) now)), ((w.heap.size + 1), 26, bkt t l), (w.heap.size, 24, cfgCells c s)]) (w0 := w) 2 rfl 0 rfl; have HC32 := St.cell (L := [(gw, 26, bkt (n - 1) now), (gd, 26, (bkt (n - 1) now)), ((w.heap.size + 1), 26, bkt t l), (w.heap.size, 24, cfgCells c s)]) (w0 := w) 2 rfl 1 rfl; have HL33 := St.loadC (L := [(gw, 26, bkt (n - 1) now), (gd, 26, (bkt (n - 1) now)), ((w.heap.size + 1), 26, bkt t l), (w.heap.size, 24, cfgCells c s)]) (w0 := w) 3 rfl; have HC34 := St.cell (L := [(gw, 26, bkt (n - 1) now), (gd, 26, (bkt (n - 1) now)), ((w.heap.size + 1), 26, bkt t l), (w.heap.size, 24, cfgCells c s)]) (w0 := w) 3 rfl 7 rfl))
  go_wp2_with fail
  refine (rgood_is13 s HG.out _).mono ?_
  rintro e w35 ⟨rfl, hB⟩
  replace hS26' := St.step hS26' hB
  clear hB
  go_wp2_with fail
  refine (level_is s HL0.out _).mono ?_
  rintro e w36 ⟨rfl, hB⟩
  replace hS26' := St.step hS26' hB
  clear hB
  go_wp2_with fail
  refine (until_is s HU.out _).mono ?_
  rintro e w37 ⟨rfl, hB⟩
  replace hS26' := St.step hS26' hB
  clear hB
  go_wp2
  go_ret
  exact ⟨rfl, hS26'.below⟩
set_option maxRecDepth 100000 in
set_option maxHeartbeats 2000000 in
/-- No token is there. -/
theorem exact_c1 (c : Nat → Int) (s t l now : Int) (w : World) (h : (bchkV c t l && tickV now) = true) (hn : levelV c t l now = 0) (hm : now < l) :
    Calls Try.prog 3 #[.agg (cfgCells c s), .agg (bkt t l), .int .i64 now] w fun e w' => e = .returned (.bool true) ∧ Below w.heap.size w w' := by
  have hS := bstart c s t l w
  have HL0 := Lib.hid hn
  obtain ⟨hb, ht⟩ := Bool.and_eq_true_iff.1 h
  obtain ⟨_, b1, b2, b3, b4⟩ := bchk_true hb
  obtain ⟨n1, n2⟩ := tick_true ht
  have HR := Lib.hid (show takeV c t l now = bkt t l by unfold takeV; rw [hn]; rfl)
  have HB := Lib.hid (show decide (1 ≤ levelV c t l now) = false by rw [hn]; rfl)
  have HU := Lib.hid (show untilV c t l now = l - now + 1 by unfold untilV; rw [h, hn, if_pos rfl, if_neg (by omega)]; omega)
  have HG := Lib.hid h
  clear h hn hb ht
  go_enter Try.func3, Try.ntmps3
  have HC1 := St.cell (L := [((w.heap.size + 1), 26, bkt t l), (w.heap.size, 24, cfgCells c s)]) (w0 := w) 0 rfl 0 rfl
  have HC2 := St.cell (L := [((w.heap.size + 1), 26, bkt t l), (w.heap.size, 24, cfgCells c s)]) (w0 := w) 0 rfl 1 rfl
  have HL3 := St.loadC (L := [((w.heap.size + 1), 26, bkt t l), (w.heap.size, 24, cfgCells c s)]) (w0 := w) 1 rfl
  have HC4 := St.cell (L := [((w.heap.size + 1), 26, bkt t l), (w.heap.size, 24, cfgCells c s)]) (w0 := w) 1 rfl 7 rfl
  go_wp2_with (go_at_call 6; refine (awake13 _).mono ?_; rintro e w1 ⟨rfl, hB⟩; replace hS := St.step hS hB; clear hB)
  go_cut [33] (fun b wx => b = .bool false ∧ St w (LB2 c s t l w) wx)
  case first =>
    have hS0 := hS.drew
    go_region_held3 (St w (LB2 c s t l w)) (assumption) (first
      | (go_at_call 7; refine (new_any _ _ _ _).mono ?_; rintro e w9 ⟨rfl, hB⟩; have hS9 := St.step (by assumption) hB)
      | (go_at_call 8; refine (bcheck_any _ _ _ _ _).mono ?_; rintro e w9 ⟨rfl, hB⟩; have hS9 := St.step (by assumption) hB)
      | (go_at_call 9; refine (rgood_zero _ _ _ _ _).mono ?_; rintro e w9 ⟨rfl, hB⟩; have hS9 := St.step (by assumption) hB))
    all_goals
      go_wp2_with fail
      go_meet
      exact ⟨rfl, by assumption⟩
  case rest =>
  obtain ⟨rfl, hS2⟩ := hcut
  clear hS
  have hS : St w (LB2 c s t l w) wc := hS2
  clear hS2
  go_wp2_with fail
  refine (rlevel_is s HL0.out _).mono ?_
  rintro e w5 ⟨rfl, hB⟩
  replace hS := St.step hS hB
  clear hB
  go_wp2_with fail
  refine (take_is s HR.out HB.out _).mono ?_
  rintro e w6 ⟨rfl, hB⟩
  replace hS := St.step hS hB
  clear hB
  go_wp2_with (first | (refine store_new hS rfl rfl 26 _ _ rfl 26 _ (bkt t l) rfl rfl (by kernel_rfl) rfl (by simp [Value.oneCell']) ?_; intro w7 hS8 hlt; clear hS HC1 HC2 HL3 HC4; generalize w6.heap.size = gd at hS8 hlt ⊢; clear hlt; have HC9 := St.cell (L := [(gd, 26, (bkt t l)), ((w.heap.size + 1), 26, bkt t l), (w.heap.size, 24, cfgCells c s)]) (w0 := w) 0 rfl 0 rfl; have HC10 := St.cell (L := [(gd, 26, (bkt t l)), ((w.heap.size + 1), 26, bkt t l), (w.heap.size, 24, cfgCells c s)]) (w0 := w) 0 rfl 1 rfl; have HC11 := St.cell (L := [(gd, 26, (bkt t l)), ((w.heap.size + 1), 26, bkt t l), (w.heap.size, 24, cfgCells c s)]) (w0 := w) 1 rfl 0 rfl; have HC12 := St.cell (L := [(gd, 26, (bkt t l)), ((w.heap.size + 1), 26, bkt t l), (w.heap.size, 24, cfgCells c s)]) (w0 := w) 1 rfl 1 rfl; have HL13 := St.loadC (L := [(gd, 26, (bkt t l)), ((w.heap.size + 1), 26, bkt t l), (w.heap.size, 24, cfgCells c s)]) (w0 := w) 2 rfl; have HC14 := St.cell (L := [(gd, 26, (bkt t l)), ((w.heap.size + 1), 26, bkt t l), (w.heap.size, 24, cfgCells c s)]) (w0 := w) 2 rfl 7 rfl) | (refine store_new hS8 rfl rfl 26 _ _ rfl 26 _ (bkt t l) rfl rfl (by kernel_rfl) rfl (by simp [Value.oneCell']) ?_; intro w15 hS16 hlt; clear hS8 HC9 HC10 HC11 HC12 HL13 HC14; generalize w7.heap.size = gw at hS16 hlt ⊢; clear hlt; have HC17 := St.cell (L := [(gw, 26, (bkt t l)), (gd, 26, (bkt t l)), ((w.heap.size + 1), 26, bkt t l), (w.heap.size, 24, cfgCells c s)]) (w0 := w) 0 rfl 0 rfl; have HC18 := St.cell (L := [(gw, 26, (bkt t l)), (gd, 26, (bkt t l)), ((w.heap.size + 1), 26, bkt t l), (w.heap.size, 24, cfgCells c s)]) (w0 := w) 0 rfl 1 rfl; have HC19 := St.cell (L := [(gw, 26, (bkt t l)), (gd, 26, (bkt t l)), ((w.heap.size + 1), 26, bkt t l), (w.heap.size, 24, cfgCells c s)]) (w0 := w) 1 rfl 0 rfl; have HC20 := St.cell (L := [(gw, 26, (bkt t l)), (gd, 26, (bkt t l)), ((w.heap.size + 1), 26, bkt t l), (w.heap.size, 24, cfgCells c s)]) (w0 := w) 1 rfl 1 rfl; have HC21 := St.cell (L := [(gw, 26, (bkt t l)), (gd, 26, (bkt t l)), ((w.heap.size + 1), 26, bkt t l), (w.heap.size, 24, cfgCells c s)]) (w0 := w) 2 rfl 0 rfl; have HC22 := St.cell (L := [(gw, 26, (bkt t l)), (gd, 26, (bkt t l)), ((w.heap.size + 1), 26, bkt t l), (w.heap.size, 24, cfgCells c s)]) (w0 := w) 2 rfl 1 rfl; have HL23 := St.loadC (L := [(gw, 26, (bkt t l)), (gd, 26, (bkt t l)), ((w.heap.size + 1), 26, bkt t l), (w.heap.size, 24, cfgCells c s)]) (w0 := w) 3 rfl; have HC24 := St.cell (L := [(gw, 26, (bkt t l)), (gd, 26, (bkt t l)), ((w.heap.size + 1), 26, bkt t l), (w.heap.size, 24, cfgCells c s)]) (w0 := w) 3 rfl 7 rfl))
  go_wp2_with fail
  refine (rgood_is13 s HG.out _).mono ?_
  rintro e w25 ⟨rfl, hB⟩
  replace hS16 := St.step hS16 hB
  clear hB
  go_wp2_with fail
  refine (level_is s HL0.out _).mono ?_
  rintro e w26 ⟨rfl, hB⟩
  replace hS16 := St.step hS16 hB
  clear hB
  go_wp2_with fail
  refine (until_is s HU.out _).mono ?_
  rintro e w27 ⟨rfl, hB⟩
  replace hS16 := St.step hS16 hB
  clear hB
  go_wp2
  go_ret
  exact ⟨rfl, hS16.below⟩
set_option maxRecDepth 100000 in
set_option maxHeartbeats 2000000 in
/-- No token is there. -/
theorem exact_c2 (c : Nat → Int) (s t l now : Int) (w : World) (h : (bchkV c t l && tickV now) = true) (hn : levelV c t l now = 0) (hm : ¬ now < l) :
    Calls Try.prog 3 #[.agg (cfgCells c s), .agg (bkt t l), .int .i64 now] w fun e w' => e = .returned (.bool true) ∧ Below w.heap.size w w' := by
  have hS := bstart c s t l w
  have HL0 := Lib.hid hn
  obtain ⟨hb, ht⟩ := Bool.and_eq_true_iff.1 h
  obtain ⟨_, b1, b2, b3, b4⟩ := bchk_true hb
  obtain ⟨n1, n2⟩ := tick_true ht
  have HR := Lib.hid (show takeV c t l now = bkt t l by unfold takeV; rw [hn]; rfl)
  have HB := Lib.hid (show decide (1 ≤ levelV c t l now) = false by rw [hn]; rfl)
  have HU := Lib.hid (show untilV c t l now = 1 by unfold untilV; rw [h, hn, if_pos rfl, if_neg (by omega)]; omega)
  have HG := Lib.hid h
  clear h hn hb ht
  go_enter Try.func3, Try.ntmps3
  have HC1 := St.cell (L := [((w.heap.size + 1), 26, bkt t l), (w.heap.size, 24, cfgCells c s)]) (w0 := w) 0 rfl 0 rfl
  have HC2 := St.cell (L := [((w.heap.size + 1), 26, bkt t l), (w.heap.size, 24, cfgCells c s)]) (w0 := w) 0 rfl 1 rfl
  have HL3 := St.loadC (L := [((w.heap.size + 1), 26, bkt t l), (w.heap.size, 24, cfgCells c s)]) (w0 := w) 1 rfl
  have HC4 := St.cell (L := [((w.heap.size + 1), 26, bkt t l), (w.heap.size, 24, cfgCells c s)]) (w0 := w) 1 rfl 7 rfl
  go_wp2_with (go_at_call 6; refine (awake13 _).mono ?_; rintro e w1 ⟨rfl, hB⟩; replace hS := St.step hS hB; clear hB)
  go_cut [33] (fun b wx => b = .bool false ∧ St w (LB2 c s t l w) wx)
  case first =>
    have hS0 := hS.drew
    go_region_held3 (St w (LB2 c s t l w)) (assumption) (first
      | (go_at_call 7; refine (new_any _ _ _ _).mono ?_; rintro e w9 ⟨rfl, hB⟩; have hS9 := St.step (by assumption) hB)
      | (go_at_call 8; refine (bcheck_any _ _ _ _ _).mono ?_; rintro e w9 ⟨rfl, hB⟩; have hS9 := St.step (by assumption) hB)
      | (go_at_call 9; refine (rgood_zero _ _ _ _ _).mono ?_; rintro e w9 ⟨rfl, hB⟩; have hS9 := St.step (by assumption) hB))
    all_goals
      go_wp2_with fail
      go_meet
      exact ⟨rfl, by assumption⟩
  case rest =>
  obtain ⟨rfl, hS2⟩ := hcut
  clear hS
  have hS : St w (LB2 c s t l w) wc := hS2
  clear hS2
  go_wp2_with fail
  refine (rlevel_is s HL0.out _).mono ?_
  rintro e w5 ⟨rfl, hB⟩
  replace hS := St.step hS hB
  clear hB
  go_wp2_with fail
  refine (take_is s HR.out HB.out _).mono ?_
  rintro e w6 ⟨rfl, hB⟩
  replace hS := St.step hS hB
  clear hB
  go_wp2_with (first | (refine store_new hS rfl rfl 26 _ _ rfl 26 _ (bkt t l) rfl rfl (by kernel_rfl) rfl (by simp [Value.oneCell']) ?_; intro w7 hS8 hlt; clear hS HC1 HC2 HL3 HC4; generalize w6.heap.size = gd at hS8 hlt ⊢; clear hlt; have HC9 := St.cell (L := [(gd, 26, (bkt t l)), ((w.heap.size + 1), 26, bkt t l), (w.heap.size, 24, cfgCells c s)]) (w0 := w) 0 rfl 0 rfl; have HC10 := St.cell (L := [(gd, 26, (bkt t l)), ((w.heap.size + 1), 26, bkt t l), (w.heap.size, 24, cfgCells c s)]) (w0 := w) 0 rfl 1 rfl; have HC11 := St.cell (L := [(gd, 26, (bkt t l)), ((w.heap.size + 1), 26, bkt t l), (w.heap.size, 24, cfgCells c s)]) (w0 := w) 1 rfl 0 rfl; have HC12 := St.cell (L := [(gd, 26, (bkt t l)), ((w.heap.size + 1), 26, bkt t l), (w.heap.size, 24, cfgCells c s)]) (w0 := w) 1 rfl 1 rfl; have HL13 := St.loadC (L := [(gd, 26, (bkt t l)), ((w.heap.size + 1), 26, bkt t l), (w.heap.size, 24, cfgCells c s)]) (w0 := w) 2 rfl; have HC14 := St.cell (L := [(gd, 26, (bkt t l)), ((w.heap.size + 1), 26, bkt t l), (w.heap.size, 24, cfgCells c s)]) (w0 := w) 2 rfl 7 rfl) | (refine store_new hS8 rfl rfl 26 _ _ rfl 26 _ (bkt t l) rfl rfl (by kernel_rfl) rfl (by simp [Value.oneCell']) ?_; intro w15 hS16 hlt; clear hS8 HC9 HC10 HC11 HC12 HL13 HC14; generalize w7.heap.size = gw at hS16 hlt ⊢; clear hlt; have HC17 := St.cell (L := [(gw, 26, (bkt t l)), (gd, 26, (bkt t l)), ((w.heap.size + 1), 26, bkt t l), (w.heap.size, 24, cfgCells c s)]) (w0 := w) 0 rfl 0 rfl; have HC18 := St.cell (L := [(gw, 26, (bkt t l)), (gd, 26, (bkt t l)), ((w.heap.size + 1), 26, bkt t l), (w.heap.size, 24, cfgCells c s)]) (w0 := w) 0 rfl 1 rfl; have HC19 := St.cell (L := [(gw, 26, (bkt t l)), (gd, 26, (bkt t l)), ((w.heap.size + 1), 26, bkt t l), (w.heap.size, 24, cfgCells c s)]) (w0 := w) 1 rfl 0 rfl; have HC20 := St.cell (L := [(gw, 26, (bkt t l)), (gd, 26, (bkt t l)), ((w.heap.size + 1), 26, bkt t l), (w.heap.size, 24, cfgCells c s)]) (w0 := w) 1 rfl 1 rfl; have HC21 := St.cell (L := [(gw, 26, (bkt t l)), (gd, 26, (bkt t l)), ((w.heap.size + 1), 26, bkt t l), (w.heap.size, 24, cfgCells c s)]) (w0 := w) 2 rfl 0 rfl; have HC22 := St.cell (L := [(gw, 26, (bkt t l)), (gd, 26, (bkt t l)), ((w.heap.size + 1), 26, bkt t l), (w.heap.size, 24, cfgCells c s)]) (w0 := w) 2 rfl 1 rfl; have HL23 := St.loadC (L := [(gw, 26, (bkt t l)), (gd, 26, (bkt t l)), ((w.heap.size + 1), 26, bkt t l), (w.heap.size, 24, cfgCells c s)]) (w0 := w) 3 rfl; have HC24 := St.cell (L := [(gw, 26, (bkt t l)), (gd, 26, (bkt t l)), ((w.heap.size + 1), 26, bkt t l), (w.heap.size, 24, cfgCells c s)]) (w0 := w) 3 rfl 7 rfl))
  go_wp2_with fail
  refine (rgood_is13 s HG.out _).mono ?_
  rintro e w25 ⟨rfl, hB⟩
  replace hS16 := St.step hS16 hB
  clear hB
  go_wp2_with fail
  refine (level_is s HL0.out _).mono ?_
  rintro e w26 ⟨rfl, hB⟩
  replace hS16 := St.step hS16 hB
  clear hB
  go_wp2_with fail
  refine (until_is s HU.out _).mono ?_
  rintro e w27 ⟨rfl, hB⟩
  replace hS16 := St.step hS16 hB
  clear hB
  go_wp2
  go_ret
  exact ⟨rfl, hS16.below⟩

theorem bucketExact_any (c : Nat → Int) (s t l now : Int) (w : World) :
    Calls Try.prog 3 #[.agg (cfgCells c s), .agg (bkt t l), .int .i64 now] w fun e w' => e = .returned (.bool true) ∧ Below w.heap.size w w' := by
  cases h : (bchkV c t l && tickV now)
  · exact exact_a c s t l now w h
  · obtain ⟨l0, l1⟩ := level_bd c t l now
    by_cases hm : now < l
    · by_cases h1 : 1 ≤ levelV c t l now
      · exact exact_b1 c s t l now _ w h rfl h1 l1 hm
      · exact exact_c1 c s t l now w h (by omega) hm
    · by_cases h1 : 1 ≤ levelV c t l now
      · exact exact_b2 c s t l now _ w h rfl h1 l1 hm
      · exact exact_c2 c s t l now w h (by omega) hm
end Go.Proofs.Ytaalcdjhbbdadaa
