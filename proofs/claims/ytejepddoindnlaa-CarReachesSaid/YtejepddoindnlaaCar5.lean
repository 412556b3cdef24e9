/- Layer 16: the Go law's own anchor: its fixed answers are all true; nothing that was in memory is changed. No condition. -/
import Derived.Test.YtejepddoindnlaaCar4
import Derived.Deep.DrawnRows
namespace Go.Proofs.Ytejepddoindnlaa
open Go.RowKit
attribute [local go_sem ↓] Go.wp_at_zero Go.wp_at_succ
theorem storeVar_car (a : Addr) (v : Value) : storeVar 26 a v = storeBig 26 a v := rfl
attribute [local go_sem ↓] storeVar_car

def cA : Cr := ⟨1, 0, 1, 0, false⟩
def cB : Cr := ⟨1, 0, 1, 1, false⟩
def cD : Cr := ⟨1, 0, 0, 0, false⟩
def cH : Cr := ⟨2, 1, 0, 0, true⟩
theorem open_is {c : Nat → Int} {x y : Cr} {e : Int} (s : Int) (h : openV c x = y) (h' : faultV c x false = e) (w : World) :
    Calls Try.prog 16 #[.agg (cfgCells c s), .agg x.cells] w fun en w' => en = .returned (.tuple #[.agg y.cells, .int .i64 e]) ∧ Below w.heap.size w w' := h ▸ h' ▸ open_any c s x w
theorem wait_is {c : Nat → Int} {x y : Cr} {b : Bool} {e : Int} (s : Int) (h : waitV c x b = y) (h' : faultV c x true = e) (w : World) :
    Calls Try.prog 17 #[.agg (cfgCells c s), .agg x.cells, .bool b] w fun en w' => en = .returned (.tuple #[.agg y.cells, .int .i64 e]) ∧ Below w.heap.size w w' := h ▸ h' ▸ wait_any c s x b w
theorem go_is {c : Nat → Int} {x y : Cr} {dir e : Int} (s : Int) (h : goV c x dir = y) (h' : goE c x dir = e) (w : World) :
    Calls Try.prog 13 #[.agg (cfgCells c s), .agg x.cells, .int .i64 dir] w fun en w' => en = .returned (.tuple #[.agg y.cells, .int .i64 e]) ∧ Below w.heap.size w w' := h ▸ h' ▸ go_any c s x dir w
theorem f1 : faultV smallC newCr false = 0 := by decide +kernel
theorem f2 : faultV smallC cA true = 0 := by decide +kernel
theorem f3 : faultV smallC cB true = 0 := by decide +kernel
theorem f4 : faultV smallC cD false = 0 := by decide +kernel
theorem v1 : openV smallC newCr = cA := by unfold openV; rw [f1]; rfl
theorem v2 : waitV smallC cA true = cB := by unfold waitV; rw [f2]; rfl
theorem v3 : waitV smallC cB true = cD := by unfold waitV; rw [f3]; rfl
theorem s4 : stepB smallC cD 1 = true := by decide +kernel
theorem s5 : stepB smallC newCr (-1) = false := by decide +kernel
theorem v4 : goV smallC cD 1 = cH := by unfold goV; rw [f4, if_pos rfl, s4]; rfl
theorem e4 : goE smallC cD 1 = 0 := by unfold goE; rw [f4, if_pos rfl, s4]; rfl
theorem v5 : goV smallC newCr (-1) = Cr.zero := by unfold goV; rw [f1, if_pos rfl, s5]; rfl
theorem e5 : goE smallC newCr (-1) = 3 := by unfold goE; rw [f1, if_pos rfl, s5]; rfl
theorem k6 : cokV smallC cH = true := by decide +kernel

set_option maxRecDepth 100000 in
set_option maxHeartbeats 2000000 in
theorem awake16 (w : World) : Calls Try.prog 6 #[] w fun e w' => e = .returned (.bool true) ∧ Below w.heap.size w w' := by
  have hS := St.nil w
  go_enter Try.func6, Try.ntmps6
  go_wp2_with fail
  refine (small_any _).mono ?_
  rintro e w1 ⟨rfl, hB⟩
  replace hS := St.step hS hB
  clear hB
  go_wp2_with ((with_reducible show wpList _ _ _ (⟨none, .store 24 _ _, _, _, _, _⟩ :: _) _ _); refine new_cfg hS rfl rfl _ _ rfl _ _ rfl rfl _ rfl ?_; intro w2 hS3 hlt; clear hS; generalize w1.heap.size = gc at hS3 hlt ⊢; clear hlt; have HL4 := St.loadC (L := [(gc, 24, cfgCells smallC 7)]) (w0 := w) 0 rfl)
  go_upto_region 2 with (fail)
  go_cut [2, 3] (fun a b wx => ∃ gq, a = .pointer (some ⟨gq, 0, none⟩) ∧ b = .int .i64 0 ∧ St w ((gq, 26, cA.cells) :: [(gc, 24, cfgCells smallC 7)]) wx)
  case first =>
    have hS1 := St.drew (hS3)
    have HN := bnew (t := 26) (zero := zcells) (cells := cA.cells) (by kernel_rfl) rfl (by simp [Value.oneCell'])
    have HP := bput (w0 := w) (L := [(gc, 24, cfgCells smallC 7)]) (t := 26) (zero := zcells) (cells := cA.cells) (by kernel_rfl) rfl (by simp [Value.oneCell'])
    go_region_held3 (St w [(gc, 24, cfgCells smallC 7)]) ((first | assumption | exact St.old (by assumption) _ | exact St.putNew' (by assumption) _ _ _ | exact St.put' (by assumption) _)) (first
      | (go_at_call 10; (with_reducible refine (cnew_any _).mono ?_); rintro e w9 ⟨rfl, hB⟩; (first | (have hX := St.step (L := (_, 26, zcells) :: [(gc, 24, cfgCells smallC 7)]) (by assumption) hB; have hY := St.sub hX (List.sublist_cons_self _ _)) | (have hX : St w ((w2.heap.size, 26, zcells) :: [(gc, 24, cfgCells smallC 7)]) _ := St.stepNew (a := w2.drew) (by assumption) hB; have hY := St.sub hX (List.sublist_cons_self _ _)) | (have hX := St.stepNew (w0 := w) (L := [(gc, 24, cfgCells smallC 7)]) (t := 26) (cs := zcells) (by assumption) hB; have hY := St.sub hX (List.sublist_cons_self _ _)) | (have hY := St.step (w0 := w) (L := [(gc, 24, cfgCells smallC 7)]) (by assumption) hB)))
      | (go_at_call 16; (with_reducible refine (open_is 7 v1 f1 _).mono ?_); rintro e w9 ⟨rfl, hB⟩; (first | (have hX := St.step (L := (_, 26, zcells) :: [(gc, 24, cfgCells smallC 7)]) (by assumption) hB; have hY := St.sub hX (List.sublist_cons_self _ _)) | (have hX : St w ((w2.heap.size, 26, zcells) :: [(gc, 24, cfgCells smallC 7)]) _ := St.stepNew (a := w2.drew) (by assumption) hB; have hY := St.sub hX (List.sublist_cons_self _ _)) | (have hX := St.stepNew (w0 := w) (L := [(gc, 24, cfgCells smallC 7)]) (t := 26) (cs := zcells) (by assumption) hB; have hY := St.sub hX (List.sublist_cons_self _ _)) | (have hY := St.step (w0 := w) (L := [(gc, 24, cfgCells smallC 7)]) (by assumption) hB))))
    all_goals
      go_wp2_with fail
      go_meet
      first | exact ⟨_, rfl, rfl, hY.putNew _ _ _⟩ | exact ⟨_, rfl, rfl, hX.put _⟩
  case rest =>
  obtain ⟨ga, rfl, rfl, hS5⟩ := hcut
  have HC5 := St.cell (L := [(ga, 26, cA.cells), (gc, 24, cfgCells smallC 7)]) (w0 := w) 0 rfl 0 rfl
  have HC6 := St.cell (L := [(ga, 26, cA.cells), (gc, 24, cfgCells smallC 7)]) (w0 := w) 0 rfl 1 rfl
  have HC7 := St.cell (L := [(ga, 26, cA.cells), (gc, 24, cfgCells smallC 7)]) (w0 := w) 0 rfl 2 rfl
  have HC8 := St.cell (L := [(ga, 26, cA.cells), (gc, 24, cfgCells smallC 7)]) (w0 := w) 0 rfl 3 rfl
  have HC9 := St.cell (L := [(ga, 26, cA.cells), (gc, 24, cfgCells smallC 7)]) (w0 := w) 0 rfl 4 rfl
  have HL10 := St.loadC (L := [(ga, 26, cA.cells), (gc, 24, cfgCells smallC 7)]) (w0 := w) 1 rfl
  go_wp2_with fail
  refine (wait_is 7 v2 f2 _).mono ?_
  rintro e w11 ⟨rfl, hB⟩
  replace hS5 := St.step hS5 hB
  clear hB
  go_wp2_with ((with_reducible show wpList _ _ _ (⟨none, .store 26 _ _, _, _, _, _⟩ :: _) _ _); refine store_new hS5 rfl rfl 26 _ _ rfl 26 _ cB.cells rfl rfl (by kernel_rfl) rfl (by simp [Value.oneCell']) ?_; intro w12 hS13 hlt; clear hS5 HC5 HC6 HC7 HC8 HC9 HL10; generalize w11.heap.size = gb at hS13 hlt ⊢; clear hlt; have HC14 := St.cell (L := [(gb, 26, cB.cells), (ga, 26, cA.cells), (gc, 24, cfgCells smallC 7)]) (w0 := w) 0 rfl 0 rfl; have HC15 := St.cell (L := [(gb, 26, cB.cells), (ga, 26, cA.cells), (gc, 24, cfgCells smallC 7)]) (w0 := w) 0 rfl 1 rfl; have HC16 := St.cell (L := [(gb, 26, cB.cells), (ga, 26, cA.cells), (gc, 24, cfgCells smallC 7)]) (w0 := w) 0 rfl 2 rfl; have HC17 := St.cell (L := [(gb, 26, cB.cells), (ga, 26, cA.cells), (gc, 24, cfgCells smallC 7)]) (w0 := w) 0 rfl 3 rfl; have HC18 := St.cell (L := [(gb, 26, cB.cells), (ga, 26, cA.cells), (gc, 24, cfgCells smallC 7)]) (w0 := w) 0 rfl 4 rfl; have HC19 := St.cell (L := [(gb, 26, cB.cells), (ga, 26, cA.cells), (gc, 24, cfgCells smallC 7)]) (w0 := w) 1 rfl 0 rfl; have HC20 := St.cell (L := [(gb, 26, cB.cells), (ga, 26, cA.cells), (gc, 24, cfgCells smallC 7)]) (w0 := w) 1 rfl 1 rfl; have HC21 := St.cell (L := [(gb, 26, cB.cells), (ga, 26, cA.cells), (gc, 24, cfgCells smallC 7)]) (w0 := w) 1 rfl 2 rfl; have HC22 := St.cell (L := [(gb, 26, cB.cells), (ga, 26, cA.cells), (gc, 24, cfgCells smallC 7)]) (w0 := w) 1 rfl 3 rfl; have HC23 := St.cell (L := [(gb, 26, cB.cells), (ga, 26, cA.cells), (gc, 24, cfgCells smallC 7)]) (w0 := w) 1 rfl 4 rfl; have HL24 := St.loadC (L := [(gb, 26, cB.cells), (ga, 26, cA.cells), (gc, 24, cfgCells smallC 7)]) (w0 := w) 2 rfl)
  go_wp2_with fail
  refine (wait_is 7 v3 f3 _).mono ?_
  rintro e w25 ⟨rfl, hB⟩
  replace hS13 := St.step hS13 hB
  clear hB
  go_wp2_with ((with_reducible show wpList _ _ _ (⟨none, .store 26 _ _, _, _, _, _⟩ :: _) _ _); refine store_new hS13 rfl rfl 26 _ _ rfl 26 _ cD.cells rfl rfl (by kernel_rfl) rfl (by simp [Value.oneCell']) ?_; intro w26 hS27 hlt; clear hS13 HC14 HC15 HC16 HC17 HC18 HC19 HC20 HC21 HC22 HC23 HL24; generalize w25.heap.size = gd at hS27 hlt ⊢; clear hlt; have HC28 := St.cell (L := [(gd, 26, cD.cells), (gb, 26, cB.cells), (ga, 26, cA.cells), (gc, 24, cfgCells smallC 7)]) (w0 := w) 0 rfl 0 rfl; have HC29 := St.cell (L := [(gd, 26, cD.cells), (gb, 26, cB.cells), (ga, 26, cA.cells), (gc, 24, cfgCells smallC 7)]) (w0 := w) 0 rfl 1 rfl; have HC30 := St.cell (L := [(gd, 26, cD.cells), (gb, 26, cB.cells), (ga, 26, cA.cells), (gc, 24, cfgCells smallC 7)]) (w0 := w) 0 rfl 2 rfl; have HC31 := St.cell (L := [(gd, 26, cD.cells), (gb, 26, cB.cells), (ga, 26, cA.cells), (gc, 24, cfgCells smallC 7)]) (w0 := w) 0 rfl 3 rfl; have HC32 := St.cell (L := [(gd, 26, cD.cells), (gb, 26, cB.cells), (ga, 26, cA.cells), (gc, 24, cfgCells smallC 7)]) (w0 := w) 0 rfl 4 rfl; have HC33 := St.cell (L := [(gd, 26, cD.cells), (gb, 26, cB.cells), (ga, 26, cA.cells), (gc, 24, cfgCells smallC 7)]) (w0 := w) 1 rfl 0 rfl; have HC34 := St.cell (L := [(gd, 26, cD.cells), (gb, 26, cB.cells), (ga, 26, cA.cells), (gc, 24, cfgCells smallC 7)]) (w0 := w) 1 rfl 1 rfl; have HC35 := St.cell (L := [(gd, 26, cD.cells), (gb, 26, cB.cells), (ga, 26, cA.cells), (gc, 24, cfgCells smallC 7)]) (w0 := w) 1 rfl 2 rfl; have HC36 := St.cell (L := [(gd, 26, cD.cells), (gb, 26, cB.cells), (ga, 26, cA.cells), (gc, 24, cfgCells smallC 7)]) (w0 := w) 1 rfl 3 rfl; have HC37 := St.cell (L := [(gd, 26, cD.cells), (gb, 26, cB.cells), (ga, 26, cA.cells), (gc, 24, cfgCells smallC 7)]) (w0 := w) 1 rfl 4 rfl; have HC38 := St.cell (L := [(gd, 26, cD.cells), (gb, 26, cB.cells), (ga, 26, cA.cells), (gc, 24, cfgCells smallC 7)]) (w0 := w) 2 rfl 0 rfl; have HC39 := St.cell (L := [(gd, 26, cD.cells), (gb, 26, cB.cells), (ga, 26, cA.cells), (gc, 24, cfgCells smallC 7)]) (w0 := w) 2 rfl 1 rfl; have HC40 := St.cell (L := [(gd, 26, cD.cells), (gb, 26, cB.cells), (ga, 26, cA.cells), (gc, 24, cfgCells smallC 7)]) (w0 := w) 2 rfl 2 rfl; have HC41 := St.cell (L := [(gd, 26, cD.cells), (gb, 26, cB.cells), (ga, 26, cA.cells), (gc, 24, cfgCells smallC 7)]) (w0 := w) 2 rfl 3 rfl; have HC42 := St.cell (L := [(gd, 26, cD.cells), (gb, 26, cB.cells), (ga, 26, cA.cells), (gc, 24, cfgCells smallC 7)]) (w0 := w) 2 rfl 4 rfl; have HL43 := St.loadC (L := [(gd, 26, cD.cells), (gb, 26, cB.cells), (ga, 26, cA.cells), (gc, 24, cfgCells smallC 7)]) (w0 := w) 3 rfl)
  go_wp2_with fail
  refine (go_is 7 v4 e4 _).mono ?_
  rintro e w44 ⟨rfl, hB⟩
  replace hS27 := St.step hS27 hB
  clear hB
  go_wp2_with ((with_reducible show wpList _ _ _ (⟨none, .store 26 _ _, _, _, _, _⟩ :: _) _ _); refine store_new hS27 rfl rfl 26 _ _ rfl 26 _ cH.cells rfl rfl (by kernel_rfl) rfl (by simp [Value.oneCell']) ?_; intro w45 hS46 hlt; clear hS27 HC28 HC29 HC30 HC31 HC32 HC33 HC34 HC35 HC36 HC37 HC38 HC39 HC40 HC41 HC42 HL43; generalize w44.heap.size = gh at hS46 hlt ⊢; clear hlt; have HC47 := St.cell (L := [(gh, 26, cH.cells), (gd, 26, cD.cells), (gb, 26, cB.cells), (ga, 26, cA.cells), (gc, 24, cfgCells smallC 7)]) (w0 := w) 0 rfl 0 rfl; have HC48 := St.cell (L := [(gh, 26, cH.cells), (gd, 26, cD.cells), (gb, 26, cB.cells), (ga, 26, cA.cells), (gc, 24, cfgCells smallC 7)]) (w0 := w) 0 rfl 1 rfl; have HC49 := St.cell (L := [(gh, 26, cH.cells), (gd, 26, cD.cells), (gb, 26, cB.cells), (ga, 26, cA.cells), (gc, 24, cfgCells smallC 7)]) (w0 := w) 0 rfl 2 rfl; have HC50 := St.cell (L := [(gh, 26, cH.cells), (gd, 26, cD.cells), (gb, 26, cB.cells), (ga, 26, cA.cells), (gc, 24, cfgCells smallC 7)]) (w0 := w) 0 rfl 3 rfl; have HC51 := St.cell (L := [(gh, 26, cH.cells), (gd, 26, cD.cells), (gb, 26, cB.cells), (ga, 26, cA.cells), (gc, 24, cfgCells smallC 7)]) (w0 := w) 0 rfl 4 rfl; have HC52 := St.cell (L := [(gh, 26, cH.cells), (gd, 26, cD.cells), (gb, 26, cB.cells), (ga, 26, cA.cells), (gc, 24, cfgCells smallC 7)]) (w0 := w) 1 rfl 0 rfl; have HC53 := St.cell (L := [(gh, 26, cH.cells), (gd, 26, cD.cells), (gb, 26, cB.cells), (ga, 26, cA.cells), (gc, 24, cfgCells smallC 7)]) (w0 := w) 1 rfl 1 rfl; have HC54 := St.cell (L := [(gh, 26, cH.cells), (gd, 26, cD.cells), (gb, 26, cB.cells), (ga, 26, cA.cells), (gc, 24, cfgCells smallC 7)]) (w0 := w) 1 rfl 2 rfl; have HC55 := St.cell (L := [(gh, 26, cH.cells), (gd, 26, cD.cells), (gb, 26, cB.cells), (ga, 26, cA.cells), (gc, 24, cfgCells smallC 7)]) (w0 := w) 1 rfl 3 rfl; have HC56 := St.cell (L := [(gh, 26, cH.cells), (gd, 26, cD.cells), (gb, 26, cB.cells), (ga, 26, cA.cells), (gc, 24, cfgCells smallC 7)]) (w0 := w) 1 rfl 4 rfl; have HC57 := St.cell (L := [(gh, 26, cH.cells), (gd, 26, cD.cells), (gb, 26, cB.cells), (ga, 26, cA.cells), (gc, 24, cfgCells smallC 7)]) (w0 := w) 2 rfl 0 rfl; have HC58 := St.cell (L := [(gh, 26, cH.cells), (gd, 26, cD.cells), (gb, 26, cB.cells), (ga, 26, cA.cells), (gc, 24, cfgCells smallC 7)]) (w0 := w) 2 rfl 1 rfl; have HC59 := St.cell (L := [(gh, 26, cH.cells), (gd, 26, cD.cells), (gb, 26, cB.cells), (ga, 26, cA.cells), (gc, 24, cfgCells smallC 7)]) (w0 := w) 2 rfl 2 rfl; have HC60 := St.cell (L := [(gh, 26, cH.cells), (gd, 26, cD.cells), (gb, 26, cB.cells), (ga, 26, cA.cells), (gc, 24, cfgCells smallC 7)]) (w0 := w) 2 rfl 3 rfl; have HC61 := St.cell (L := [(gh, 26, cH.cells), (gd, 26, cD.cells), (gb, 26, cB.cells), (ga, 26, cA.cells), (gc, 24, cfgCells smallC 7)]) (w0 := w) 2 rfl 4 rfl; have HC62 := St.cell (L := [(gh, 26, cH.cells), (gd, 26, cD.cells), (gb, 26, cB.cells), (ga, 26, cA.cells), (gc, 24, cfgCells smallC 7)]) (w0 := w) 3 rfl 0 rfl; have HC63 := St.cell (L := [(gh, 26, cH.cells), (gd, 26, cD.cells), (gb, 26, cB.cells), (ga, 26, cA.cells), (gc, 24, cfgCells smallC 7)]) (w0 := w) 3 rfl 1 rfl; have HC64 := St.cell (L := [(gh, 26, cH.cells), (gd, 26, cD.cells), (gb, 26, cB.cells), (ga, 26, cA.cells), (gc, 24, cfgCells smallC 7)]) (w0 := w) 3 rfl 2 rfl; have HC65 := St.cell (L := [(gh, 26, cH.cells), (gd, 26, cD.cells), (gb, 26, cB.cells), (ga, 26, cA.cells), (gc, 24, cfgCells smallC 7)]) (w0 := w) 3 rfl 3 rfl; have HC66 := St.cell (L := [(gh, 26, cH.cells), (gd, 26, cD.cells), (gb, 26, cB.cells), (ga, 26, cA.cells), (gc, 24, cfgCells smallC 7)]) (w0 := w) 3 rfl 4 rfl; have HL67 := St.loadC (L := [(gh, 26, cH.cells), (gd, 26, cD.cells), (gb, 26, cB.cells), (ga, 26, cA.cells), (gc, 24, cfgCells smallC 7)]) (w0 := w) 4 rfl)
  go_upto_region 6 with (fail)
  go_cut [10, 11] (fun a b wx => ∃ gq, a = .pointer (some ⟨gq, 0, none⟩) ∧ b = .int .i64 3 ∧ St w ((gq, 26, Cr.zero.cells) :: [(gh, 26, cH.cells), (gd, 26, cD.cells), (gb, 26, cB.cells), (ga, 26, cA.cells), (gc, 24, cfgCells smallC 7)]) wx)
  case first =>
    have hS1 := St.drew (hS46)
    have HN := bnew (t := 26) (zero := zcells) (cells := Cr.zero.cells) (by kernel_rfl) rfl (by simp [Value.oneCell'])
    have HP := bput (w0 := w) (L := [(gh, 26, cH.cells), (gd, 26, cD.cells), (gb, 26, cB.cells), (ga, 26, cA.cells), (gc, 24, cfgCells smallC 7)]) (t := 26) (zero := zcells) (cells := Cr.zero.cells) (by kernel_rfl) rfl (by simp [Value.oneCell'])
    go_region_held3 (St w [(gh, 26, cH.cells), (gd, 26, cD.cells), (gb, 26, cB.cells), (ga, 26, cA.cells), (gc, 24, cfgCells smallC 7)]) ((first | assumption | exact St.old (by assumption) _ | exact St.putNew' (by assumption) _ _ _ | exact St.put' (by assumption) _)) (first
      | (go_at_call 10; (with_reducible refine (cnew_any _).mono ?_); rintro e w9 ⟨rfl, hB⟩; (first | (have hX := St.step (L := (_, 26, zcells) :: [(gh, 26, cH.cells), (gd, 26, cD.cells), (gb, 26, cB.cells), (ga, 26, cA.cells), (gc, 24, cfgCells smallC 7)]) (by assumption) hB; have hY := St.sub hX (List.sublist_cons_self _ _)) | (have hX : St w ((w45.heap.size, 26, zcells) :: [(gh, 26, cH.cells), (gd, 26, cD.cells), (gb, 26, cB.cells), (ga, 26, cA.cells), (gc, 24, cfgCells smallC 7)]) _ := St.stepNew (a := w45.drew) (by assumption) hB; have hY := St.sub hX (List.sublist_cons_self _ _)) | (have hX := St.stepNew (w0 := w) (L := [(gh, 26, cH.cells), (gd, 26, cD.cells), (gb, 26, cB.cells), (ga, 26, cA.cells), (gc, 24, cfgCells smallC 7)]) (t := 26) (cs := zcells) (by assumption) hB; have hY := St.sub hX (List.sublist_cons_self _ _)) | (have hY := St.step (w0 := w) (L := [(gh, 26, cH.cells), (gd, 26, cD.cells), (gb, 26, cB.cells), (ga, 26, cA.cells), (gc, 24, cfgCells smallC 7)]) (by assumption) hB)))
      | (go_at_call 13; (with_reducible refine (go_is 7 v5 e5 _).mono ?_); rintro e w9 ⟨rfl, hB⟩; (first | (have hX := St.step (L := (_, 26, zcells) :: [(gh, 26, cH.cells), (gd, 26, cD.cells), (gb, 26, cB.cells), (ga, 26, cA.cells), (gc, 24, cfgCells smallC 7)]) (by assumption) hB; have hY := St.sub hX (List.sublist_cons_self _ _)) | (have hX : St w ((w45.heap.size, 26, zcells) :: [(gh, 26, cH.cells), (gd, 26, cD.cells), (gb, 26, cB.cells), (ga, 26, cA.cells), (gc, 24, cfgCells smallC 7)]) _ := St.stepNew (a := w45.drew) (by assumption) hB; have hY := St.sub hX (List.sublist_cons_self _ _)) | (have hX := St.stepNew (w0 := w) (L := [(gh, 26, cH.cells), (gd, 26, cD.cells), (gb, 26, cB.cells), (ga, 26, cA.cells), (gc, 24, cfgCells smallC 7)]) (t := 26) (cs := zcells) (by assumption) hB; have hY := St.sub hX (List.sublist_cons_self _ _)) | (have hY := St.step (w0 := w) (L := [(gh, 26, cH.cells), (gd, 26, cD.cells), (gb, 26, cB.cells), (ga, 26, cA.cells), (gc, 24, cfgCells smallC 7)]) (by assumption) hB))))
    all_goals
      go_wp2_with fail
      go_meet
      first | exact ⟨_, rfl, rfl, hY.putNew _ _ _⟩ | exact ⟨_, rfl, rfl, hX.put _⟩
  case rest =>
  obtain ⟨gj, rfl, rfl, hS9⟩ := hcut
  have HC68 := St.cell (L := [(gj, 26, Cr.zero.cells), (gh, 26, cH.cells), (gd, 26, cD.cells), (gb, 26, cB.cells), (ga, 26, cA.cells), (gc, 24, cfgCells smallC 7)]) (w0 := w) 0 rfl 0 rfl
  have HC69 := St.cell (L := [(gj, 26, Cr.zero.cells), (gh, 26, cH.cells), (gd, 26, cD.cells), (gb, 26, cB.cells), (ga, 26, cA.cells), (gc, 24, cfgCells smallC 7)]) (w0 := w) 0 rfl 1 rfl
  have HC70 := St.cell (L := [(gj, 26, Cr.zero.cells), (gh, 26, cH.cells), (gd, 26, cD.cells), (gb, 26, cB.cells), (ga, 26, cA.cells), (gc, 24, cfgCells smallC 7)]) (w0 := w) 0 rfl 2 rfl
  have HC71 := St.cell (L := [(gj, 26, Cr.zero.cells), (gh, 26, cH.cells), (gd, 26, cD.cells), (gb, 26, cB.cells), (ga, 26, cA.cells), (gc, 24, cfgCells smallC 7)]) (w0 := w) 0 rfl 3 rfl
  have HC72 := St.cell (L := [(gj, 26, Cr.zero.cells), (gh, 26, cH.cells), (gd, 26, cD.cells), (gb, 26, cB.cells), (ga, 26, cA.cells), (gc, 24, cfgCells smallC 7)]) (w0 := w) 0 rfl 4 rfl
  have HC73 := St.cell (L := [(gj, 26, Cr.zero.cells), (gh, 26, cH.cells), (gd, 26, cD.cells), (gb, 26, cB.cells), (ga, 26, cA.cells), (gc, 24, cfgCells smallC 7)]) (w0 := w) 1 rfl 0 rfl
  have HC74 := St.cell (L := [(gj, 26, Cr.zero.cells), (gh, 26, cH.cells), (gd, 26, cD.cells), (gb, 26, cB.cells), (ga, 26, cA.cells), (gc, 24, cfgCells smallC 7)]) (w0 := w) 1 rfl 1 rfl
  have HC75 := St.cell (L := [(gj, 26, Cr.zero.cells), (gh, 26, cH.cells), (gd, 26, cD.cells), (gb, 26, cB.cells), (ga, 26, cA.cells), (gc, 24, cfgCells smallC 7)]) (w0 := w) 1 rfl 2 rfl
  have HC76 := St.cell (L := [(gj, 26, Cr.zero.cells), (gh, 26, cH.cells), (gd, 26, cD.cells), (gb, 26, cB.cells), (ga, 26, cA.cells), (gc, 24, cfgCells smallC 7)]) (w0 := w) 1 rfl 3 rfl
  have HC77 := St.cell (L := [(gj, 26, Cr.zero.cells), (gh, 26, cH.cells), (gd, 26, cD.cells), (gb, 26, cB.cells), (ga, 26, cA.cells), (gc, 24, cfgCells smallC 7)]) (w0 := w) 1 rfl 4 rfl
  have HC78 := St.cell (L := [(gj, 26, Cr.zero.cells), (gh, 26, cH.cells), (gd, 26, cD.cells), (gb, 26, cB.cells), (ga, 26, cA.cells), (gc, 24, cfgCells smallC 7)]) (w0 := w) 2 rfl 0 rfl
  have HC79 := St.cell (L := [(gj, 26, Cr.zero.cells), (gh, 26, cH.cells), (gd, 26, cD.cells), (gb, 26, cB.cells), (ga, 26, cA.cells), (gc, 24, cfgCells smallC 7)]) (w0 := w) 2 rfl 1 rfl
  have HC80 := St.cell (L := [(gj, 26, Cr.zero.cells), (gh, 26, cH.cells), (gd, 26, cD.cells), (gb, 26, cB.cells), (ga, 26, cA.cells), (gc, 24, cfgCells smallC 7)]) (w0 := w) 2 rfl 2 rfl
  have HC81 := St.cell (L := [(gj, 26, Cr.zero.cells), (gh, 26, cH.cells), (gd, 26, cD.cells), (gb, 26, cB.cells), (ga, 26, cA.cells), (gc, 24, cfgCells smallC 7)]) (w0 := w) 2 rfl 3 rfl
  have HC82 := St.cell (L := [(gj, 26, Cr.zero.cells), (gh, 26, cH.cells), (gd, 26, cD.cells), (gb, 26, cB.cells), (ga, 26, cA.cells), (gc, 24, cfgCells smallC 7)]) (w0 := w) 2 rfl 4 rfl
  have HC83 := St.cell (L := [(gj, 26, Cr.zero.cells), (gh, 26, cH.cells), (gd, 26, cD.cells), (gb, 26, cB.cells), (ga, 26, cA.cells), (gc, 24, cfgCells smallC 7)]) (w0 := w) 3 rfl 0 rfl
  have HC84 := St.cell (L := [(gj, 26, Cr.zero.cells), (gh, 26, cH.cells), (gd, 26, cD.cells), (gb, 26, cB.cells), (ga, 26, cA.cells), (gc, 24, cfgCells smallC 7)]) (w0 := w) 3 rfl 1 rfl
  have HC85 := St.cell (L := [(gj, 26, Cr.zero.cells), (gh, 26, cH.cells), (gd, 26, cD.cells), (gb, 26, cB.cells), (ga, 26, cA.cells), (gc, 24, cfgCells smallC 7)]) (w0 := w) 3 rfl 2 rfl
  have HC86 := St.cell (L := [(gj, 26, Cr.zero.cells), (gh, 26, cH.cells), (gd, 26, cD.cells), (gb, 26, cB.cells), (ga, 26, cA.cells), (gc, 24, cfgCells smallC 7)]) (w0 := w) 3 rfl 3 rfl
  have HC87 := St.cell (L := [(gj, 26, Cr.zero.cells), (gh, 26, cH.cells), (gd, 26, cD.cells), (gb, 26, cB.cells), (ga, 26, cA.cells), (gc, 24, cfgCells smallC 7)]) (w0 := w) 3 rfl 4 rfl
  have HC88 := St.cell (L := [(gj, 26, Cr.zero.cells), (gh, 26, cH.cells), (gd, 26, cD.cells), (gb, 26, cB.cells), (ga, 26, cA.cells), (gc, 24, cfgCells smallC 7)]) (w0 := w) 4 rfl 0 rfl
  have HC89 := St.cell (L := [(gj, 26, Cr.zero.cells), (gh, 26, cH.cells), (gd, 26, cD.cells), (gb, 26, cB.cells), (ga, 26, cA.cells), (gc, 24, cfgCells smallC 7)]) (w0 := w) 4 rfl 1 rfl
  have HC90 := St.cell (L := [(gj, 26, Cr.zero.cells), (gh, 26, cH.cells), (gd, 26, cD.cells), (gb, 26, cB.cells), (ga, 26, cA.cells), (gc, 24, cfgCells smallC 7)]) (w0 := w) 4 rfl 2 rfl
  have HC91 := St.cell (L := [(gj, 26, Cr.zero.cells), (gh, 26, cH.cells), (gd, 26, cD.cells), (gb, 26, cB.cells), (ga, 26, cA.cells), (gc, 24, cfgCells smallC 7)]) (w0 := w) 4 rfl 3 rfl
  have HC92 := St.cell (L := [(gj, 26, Cr.zero.cells), (gh, 26, cH.cells), (gd, 26, cD.cells), (gb, 26, cB.cells), (ga, 26, cA.cells), (gc, 24, cfgCells smallC 7)]) (w0 := w) 4 rfl 4 rfl
  have HL93 := St.loadC (L := [(gj, 26, Cr.zero.cells), (gh, 26, cH.cells), (gd, 26, cD.cells), (gb, 26, cB.cells), (ga, 26, cA.cells), (gc, 24, cfgCells smallC 7)]) (w0 := w) 5 rfl
  go_wp2_with fail
  refine (ccheck_is 7 k6 _).mono ?_
  rintro e w94 ⟨rfl, hB⟩
  replace hS9 := St.step hS9 hB
  clear hB
  go_wp2
  go_ret
  exact ⟨rfl, hS9.below⟩
end Go.Proofs.Ytejepddoindnlaa
