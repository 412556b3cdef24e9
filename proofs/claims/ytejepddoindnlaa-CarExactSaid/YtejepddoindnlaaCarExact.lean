/- The statement CarExact, walked: for every configuration, car and way the Go law returns true, and nothing that was in memory is changed. No condition. -/
import Derived.Test.YtejepddoindnlaaCar5
import Derived.Test.YtejepddoindnlaaOpenCar
import Derived.Deep.LoopGhost
namespace Go.Proofs.Ytejepddoindnlaa
open Go.RowKit
attribute [local go_sem ↓] Go.wp_at_zero Go.wp_at_succ
theorem storeVar_rcar (a : Addr) (v : Value) : storeVar 30 a v = storeBig 30 a v := rfl
attribute [local go_sem ↓] storeVar_car storeVar_rcar

theorem cnew_lit (w : World) : Calls Try.prog 10 #[] w fun e w' => e = .returned (.agg #[.int .i64 1, .int .i64 0, .int .i64 0, .int .i64 0, .bool true]) ∧ Below w.heap.size w w' := cnew_any w

set_option maxRecDepth 100000 in
set_option maxHeartbeats 4000000 in
theorem exact16 (c : Nat → Int) (s : Int) (x : Cr) (dir : Int) (w : World) :
    Calls Try.prog 3 #[.agg (cfgCells c s), .agg x.cells, .int .i64 dir] w fun e w' => e = .returned (.bool true) ∧ Below w.heap.size w w' := by
  have hS := kstart c s 26 x w
  obtain ⟨b, hb⟩ : ∃ b, cokV c x = b := ⟨_, rfl⟩
  have HB := Lib.hid hb
  clear hb
  have HC1 := St.cell (L := [((w.heap.size + 1), 26, x.cells), (w.heap.size, 24, cfgCells c s)]) (w0 := w) 0 rfl 0 rfl
  have HC2 := St.cell (L := [((w.heap.size + 1), 26, x.cells), (w.heap.size, 24, cfgCells c s)]) (w0 := w) 0 rfl 1 rfl
  have HC3 := St.cell (L := [((w.heap.size + 1), 26, x.cells), (w.heap.size, 24, cfgCells c s)]) (w0 := w) 0 rfl 2 rfl
  have HC4 := St.cell (L := [((w.heap.size + 1), 26, x.cells), (w.heap.size, 24, cfgCells c s)]) (w0 := w) 0 rfl 3 rfl
  have HC5 := St.cell (L := [((w.heap.size + 1), 26, x.cells), (w.heap.size, 24, cfgCells c s)]) (w0 := w) 0 rfl 4 rfl
  have HL6 := St.loadC (L := [((w.heap.size + 1), 26, x.cells), (w.heap.size, 24, cfgCells c s)]) (w0 := w) 1 rfl
  go_enter Try.func3, Try.ntmps3
  go_wp2_with (go_at_call 6; refine (awake16 _).mono ?_; rintro e w1 ⟨rfl, hB⟩; replace hS := St.step hS hB; clear hB)
  go_cut [26] (fun b wx => b = .bool false ∧ St w (LK c s 26 x w) wx)
  case first =>
    have hS0 := hS.drew
    go_region_held3 (St w (LK c s 26 x w)) (assumption) (first
      | (go_at_call 7; refine (ccheck_is s HB.out _).mono ?_; rintro e w9 ⟨rfl, hB⟩; have hS9 := St.step (by assumption) hB)
      | (go_at_call 9; refine (form_any _ _).mono ?_; rintro e w9 ⟨rfl, hB⟩; have hS9 := St.step (by assumption) hB)
      | (go_at_call 8; refine (rgood16_is s HB.out _).mono ?_; rintro e w9 ⟨rfl, hB⟩; have hS9 := St.step (by assumption) hB)
      | (go_at_call 10; refine (cnew_lit _).mono ?_; rintro e w9 ⟨rfl, hB⟩; have hS9 := St.step (by assumption) hB))
    all_goals
      go_wp2_with fail
      go_meet
      exact ⟨rfl, by assumption⟩
  case rest =>
  obtain ⟨rfl, hS2⟩ := hcut
  clear hS HC1 HC2 HC3 HC4 HC5 HL6
  go_wp2_with fail
  go_loopg [7] 5 (fun m kv wr => ∃ k : Nat, m + k = 6 ∧ 1 ≤ k ∧ kv = .int .i64 k ∧ St w (LK c s 26 x w) wr)
  case atStart => exact ⟨1, by omega, by omega, rfl, hS2⟩
  case round =>
    clear hS2
    obtain ⟨k, hk, hk1, rfl, hR⟩ := hrel
    have k1 : (1 : Int) ≤ (k : Int) := by omega
    have k6 : (k : Int) ≤ 6 := by omega
    by_cases hlt : k ≤ 5
    · have k5 : (k : Int) ≤ 5 := by omega
      have HK := Lib.hid hk
      have HL5 := Lib.hid hlt
      clear hk hlt
      have HC1 := St.cell (L := [((w.heap.size + 1), 26, x.cells), (w.heap.size, 24, cfgCells c s)]) (w0 := w) 0 rfl 0 rfl
      have HC2 := St.cell (L := [((w.heap.size + 1), 26, x.cells), (w.heap.size, 24, cfgCells c s)]) (w0 := w) 0 rfl 1 rfl
      have HC3 := St.cell (L := [((w.heap.size + 1), 26, x.cells), (w.heap.size, 24, cfgCells c s)]) (w0 := w) 0 rfl 2 rfl
      have HC4 := St.cell (L := [((w.heap.size + 1), 26, x.cells), (w.heap.size, 24, cfgCells c s)]) (w0 := w) 0 rfl 3 rfl
      have HC5 := St.cell (L := [((w.heap.size + 1), 26, x.cells), (w.heap.size, 24, cfgCells c s)]) (w0 := w) 0 rfl 4 rfl
      have HL6 := St.loadC (L := [((w.heap.size + 1), 26, x.cells), (w.heap.size, 24, cfgCells c s)]) (w0 := w) 1 rfl
      go_wp2_with fail
      refine (does_any c s x k hk1 HL5.out dir _).mono ?_
      rintro e w7 ⟨rfl, hB⟩
      replace hR := St.step hR hB
      clear hB
      go_wp2_with ((with_reducible show wpList _ _ _ (⟨none, .store 26 _ _, _, _, _, _⟩ :: _) _ _); refine store_new hR rfl rfl 26 _ _ rfl 26 _ (doV c x k dir).cells rfl rfl (by kernel_rfl) rfl (by simp [Value.oneCell']) ?_; intro w8 hS9 hlt; clear hR HC1 HC2 HC3 HC4 HC5 HL6; generalize w7.heap.size = gy at hS9 hlt ⊢; clear hlt; have HC10 := St.cell (L := [(gy, 26, (doV c x k dir).cells), ((w.heap.size + 1), 26, x.cells), (w.heap.size, 24, cfgCells c s)]) (w0 := w) 0 rfl 0 rfl; have HC11 := St.cell (L := [(gy, 26, (doV c x k dir).cells), ((w.heap.size + 1), 26, x.cells), (w.heap.size, 24, cfgCells c s)]) (w0 := w) 0 rfl 1 rfl; have HC12 := St.cell (L := [(gy, 26, (doV c x k dir).cells), ((w.heap.size + 1), 26, x.cells), (w.heap.size, 24, cfgCells c s)]) (w0 := w) 0 rfl 2 rfl; have HC13 := St.cell (L := [(gy, 26, (doV c x k dir).cells), ((w.heap.size + 1), 26, x.cells), (w.heap.size, 24, cfgCells c s)]) (w0 := w) 0 rfl 3 rfl; have HC14 := St.cell (L := [(gy, 26, (doV c x k dir).cells), ((w.heap.size + 1), 26, x.cells), (w.heap.size, 24, cfgCells c s)]) (w0 := w) 0 rfl 4 rfl; have HC15 := St.cell (L := [(gy, 26, (doV c x k dir).cells), ((w.heap.size + 1), 26, x.cells), (w.heap.size, 24, cfgCells c s)]) (w0 := w) 1 rfl 0 rfl; have HC16 := St.cell (L := [(gy, 26, (doV c x k dir).cells), ((w.heap.size + 1), 26, x.cells), (w.heap.size, 24, cfgCells c s)]) (w0 := w) 1 rfl 1 rfl; have HC17 := St.cell (L := [(gy, 26, (doV c x k dir).cells), ((w.heap.size + 1), 26, x.cells), (w.heap.size, 24, cfgCells c s)]) (w0 := w) 1 rfl 2 rfl; have HC18 := St.cell (L := [(gy, 26, (doV c x k dir).cells), ((w.heap.size + 1), 26, x.cells), (w.heap.size, 24, cfgCells c s)]) (w0 := w) 1 rfl 3 rfl; have HC19 := St.cell (L := [(gy, 26, (doV c x k dir).cells), ((w.heap.size + 1), 26, x.cells), (w.heap.size, 24, cfgCells c s)]) (w0 := w) 1 rfl 4 rfl; have HL20 := St.loadC (L := [(gy, 26, (doV c x k dir).cells), ((w.heap.size + 1), 26, x.cells), (w.heap.size, 24, cfgCells c s)]) (w0 := w) 2 rfl)
      go_upto_region 9 with (fail)
      go_cut [10, 11] (fun a b wx => ∃ gq, a = .pointer (some ⟨gq, 0, none⟩) ∧ b = .int .i64 (doE c x k dir) ∧ St w ((gq, 30, (doV c x k dir).cells) :: [(gy, 26, (doV c x k dir).cells), ((w.heap.size + 1), 26, x.cells), (w.heap.size, 24, cfgCells c s)]) wx)
      case first =>
        have hS1 := St.drew (hS9)
        have HN := bnew (t := 30) (zero := zcells) (cells := (doV c x k dir).cells) (by kernel_rfl) rfl (by simp [Value.oneCell'])
        have HP := bput (w0 := w) (L := [(gy, 26, (doV c x k dir).cells), ((w.heap.size + 1), 26, x.cells), (w.heap.size, 24, cfgCells c s)]) (t := 30) (zero := zcells) (cells := (doV c x k dir).cells) (by kernel_rfl) rfl (by simp [Value.oneCell'])
        go_region_held3 (St w [(gy, 26, (doV c x k dir).cells), ((w.heap.size + 1), 26, x.cells), (w.heap.size, 24, cfgCells c s)]) ((first | assumption | exact St.old (by assumption) _ | exact St.putNew' (by assumption) _ _ _ | exact St.put' (by assumption) _)) (first
          | (go_at_call 9; (with_reducible refine (form_any x _).mono ?_); rintro e w9 ⟨rfl, hB⟩; (first | (have hX := St.step (L := (_, 30, zcells) :: [(gy, 26, (doV c x k dir).cells), ((w.heap.size + 1), 26, x.cells), (w.heap.size, 24, cfgCells c s)]) (by assumption) hB; have hY := St.sub hX (List.sublist_cons_self _ _)) | (have hX : St w ((w8.heap.size, 30, zcells) :: [(gy, 26, (doV c x k dir).cells), ((w.heap.size + 1), 26, x.cells), (w.heap.size, 24, cfgCells c s)]) _ := St.stepNew (a := w8.drew) (by assumption) hB; have hY := St.sub hX (List.sublist_cons_self _ _)) | (have hX := St.stepNew (w0 := w) (L := [(gy, 26, (doV c x k dir).cells), ((w.heap.size + 1), 26, x.cells), (w.heap.size, 24, cfgCells c s)]) (t := 30) (cs := zcells) (by assumption) hB; have hY := St.sub hX (List.sublist_cons_self _ _)) | (have hY := St.step (w0 := w) (L := [(gy, 26, (doV c x k dir).cells), ((w.heap.size + 1), 26, x.cells), (w.heap.size, 24, cfgCells c s)]) (by assumption) hB)))
          | (go_at_call 12; (with_reducible refine (rdo_any c s x k hk1 HL5.out dir _).mono ?_); rintro e w9 ⟨rfl, hB⟩; (first | (have hX := St.step (L := (_, 30, zcells) :: [(gy, 26, (doV c x k dir).cells), ((w.heap.size + 1), 26, x.cells), (w.heap.size, 24, cfgCells c s)]) (by assumption) hB; have hY := St.sub hX (List.sublist_cons_self _ _)) | (have hX : St w ((w8.heap.size, 30, zcells) :: [(gy, 26, (doV c x k dir).cells), ((w.heap.size + 1), 26, x.cells), (w.heap.size, 24, cfgCells c s)]) _ := St.stepNew (a := w8.drew) (by assumption) hB; have hY := St.sub hX (List.sublist_cons_self _ _)) | (have hX := St.stepNew (w0 := w) (L := [(gy, 26, (doV c x k dir).cells), ((w.heap.size + 1), 26, x.cells), (w.heap.size, 24, cfgCells c s)]) (t := 30) (cs := zcells) (by assumption) hB; have hY := St.sub hX (List.sublist_cons_self _ _)) | (have hY := St.step (w0 := w) (L := [(gy, 26, (doV c x k dir).cells), ((w.heap.size + 1), 26, x.cells), (w.heap.size, 24, cfgCells c s)]) (by assumption) hB))))
        all_goals
          go_wp2_with fail
          go_meet
          first | exact ⟨_, rfl, rfl, hY.putNew _ _ _⟩ | exact ⟨_, rfl, rfl, hX.put _⟩
      case rest =>
      obtain ⟨gz, rfl, rfl, hS5⟩ := hcut
      clear HC10 HC11 HC12 HC13 HC14 HC15 HC16 HC17 HC18 HC19 HL20
      have HC21 := St.cell (L := [(gz, 30, (doV c x k dir).cells), (gy, 26, (doV c x k dir).cells), ((w.heap.size + 1), 26, x.cells), (w.heap.size, 24, cfgCells c s)]) (w0 := w) 0 rfl 0 rfl
      have HC22 := St.cell (L := [(gz, 30, (doV c x k dir).cells), (gy, 26, (doV c x k dir).cells), ((w.heap.size + 1), 26, x.cells), (w.heap.size, 24, cfgCells c s)]) (w0 := w) 0 rfl 1 rfl
      have HC23 := St.cell (L := [(gz, 30, (doV c x k dir).cells), (gy, 26, (doV c x k dir).cells), ((w.heap.size + 1), 26, x.cells), (w.heap.size, 24, cfgCells c s)]) (w0 := w) 0 rfl 2 rfl
      have HC24 := St.cell (L := [(gz, 30, (doV c x k dir).cells), (gy, 26, (doV c x k dir).cells), ((w.heap.size + 1), 26, x.cells), (w.heap.size, 24, cfgCells c s)]) (w0 := w) 0 rfl 3 rfl
      have HC25 := St.cell (L := [(gz, 30, (doV c x k dir).cells), (gy, 26, (doV c x k dir).cells), ((w.heap.size + 1), 26, x.cells), (w.heap.size, 24, cfgCells c s)]) (w0 := w) 0 rfl 4 rfl
      have HC26 := St.cell (L := [(gz, 30, (doV c x k dir).cells), (gy, 26, (doV c x k dir).cells), ((w.heap.size + 1), 26, x.cells), (w.heap.size, 24, cfgCells c s)]) (w0 := w) 1 rfl 0 rfl
      have HC27 := St.cell (L := [(gz, 30, (doV c x k dir).cells), (gy, 26, (doV c x k dir).cells), ((w.heap.size + 1), 26, x.cells), (w.heap.size, 24, cfgCells c s)]) (w0 := w) 1 rfl 1 rfl
      have HC28 := St.cell (L := [(gz, 30, (doV c x k dir).cells), (gy, 26, (doV c x k dir).cells), ((w.heap.size + 1), 26, x.cells), (w.heap.size, 24, cfgCells c s)]) (w0 := w) 1 rfl 2 rfl
      have HC29 := St.cell (L := [(gz, 30, (doV c x k dir).cells), (gy, 26, (doV c x k dir).cells), ((w.heap.size + 1), 26, x.cells), (w.heap.size, 24, cfgCells c s)]) (w0 := w) 1 rfl 3 rfl
      have HC30 := St.cell (L := [(gz, 30, (doV c x k dir).cells), (gy, 26, (doV c x k dir).cells), ((w.heap.size + 1), 26, x.cells), (w.heap.size, 24, cfgCells c s)]) (w0 := w) 1 rfl 4 rfl
      have HC31 := St.cell (L := [(gz, 30, (doV c x k dir).cells), (gy, 26, (doV c x k dir).cells), ((w.heap.size + 1), 26, x.cells), (w.heap.size, 24, cfgCells c s)]) (w0 := w) 2 rfl 0 rfl
      have HC32 := St.cell (L := [(gz, 30, (doV c x k dir).cells), (gy, 26, (doV c x k dir).cells), ((w.heap.size + 1), 26, x.cells), (w.heap.size, 24, cfgCells c s)]) (w0 := w) 2 rfl 1 rfl
      have HC33 := St.cell (L := [(gz, 30, (doV c x k dir).cells), (gy, 26, (doV c x k dir).cells), ((w.heap.size + 1), 26, x.cells), (w.heap.size, 24, cfgCells c s)]) (w0 := w) 2 rfl 2 rfl
      have HC34 := St.cell (L := [(gz, 30, (doV c x k dir).cells), (gy, 26, (doV c x k dir).cells), ((w.heap.size + 1), 26, x.cells), (w.heap.size, 24, cfgCells c s)]) (w0 := w) 2 rfl 3 rfl
      have HC35 := St.cell (L := [(gz, 30, (doV c x k dir).cells), (gy, 26, (doV c x k dir).cells), ((w.heap.size + 1), 26, x.cells), (w.heap.size, 24, cfgCells c s)]) (w0 := w) 2 rfl 4 rfl
      have HL36 := St.loadC (L := [(gz, 30, (doV c x k dir).cells), (gy, 26, (doV c x k dir).cells), ((w.heap.size + 1), 26, x.cells), (w.heap.size, 24, cfgCells c s)]) (w0 := w) 3 rfl
      go_wp2_with fail
      have hS6 := hS5.drew
      go_region_held3 (St w [(gz, 30, (doV c x k dir).cells), (gy, 26, (doV c x k dir).cells), ((w.heap.size + 1), 26, x.cells), (w.heap.size, 24, cfgCells c s)]) (assumption) ((go_at_call 9; refine (form_any _ _).mono ?_; rintro e w9 ⟨rfl, hB⟩; have hS9 := hS6.step hB))
      go_wp2_with fail
      go_roundg (gk - 1)
      case measure => have := HK.out; have := HL5.out; omega
      case rel => exact ⟨k + 1, by have := HK.out; have := HL5.out; omega, by omega, by go_num, hS9.sub ((List.sublist_cons_self _ _).trans (List.sublist_cons_self _ _))⟩
    · obtain rfl : k = 6 := by omega
      clear hlt hk
      go_wp2_with fail
      go_ret
      exact ⟨rfl, hR.below⟩
end Go.Proofs.Ytejepddoindnlaa
