/- Layer 13: the Go law's own anchor: its fixed answers are all true; nothing that was in memory is changed. No condition. -/
import Derived.Test.YtaalcdjhbbdadaaBucket2
namespace Go.Proofs.Ytaalcdjhbbdadaa
open Go.RowKit

def dC : Nat → Int := putV (putV smallC 7 2) 8 1
theorem take_is {c : Nat → Int} {t l now : Int} {r : Array Value} {b : Bool} (s : Int) (h1 : takeV c t l now = r) (h2 : decide (1 ≤ levelV c t l now) = b) (w : World) :
    Calls Try.prog 11 #[.agg (cfgCells c s), .agg (bkt t l), .int .i64 now] w fun e w' => e = .returned (.tuple #[.agg r, .bool b]) ∧ Below w.heap.size w w' :=
  (take_any c s t l now w).mono fun _ _ ⟨he, hb⟩ => ⟨by rw [he, h1, h2], hb⟩
theorem level_is {c : Nat → Int} {t l now n : Int} (s : Int) (h1 : levelV c t l now = n) (w : World) :
    Calls Try.prog 12 #[.agg (cfgCells c s), .agg (bkt t l), .int .i64 now] w fun e w' => e = .returned (.int .i64 n) ∧ Below w.heap.size w w' := h1 ▸ level_any c s t l now w
theorem until_is {c : Nat → Int} {t l now n : Int} (s : Int) (h1 : untilV c t l now = n) (w : World) :
    Calls Try.prog 13 #[.agg (cfgCells c s), .agg (bkt t l), .int .i64 now] w fun e w' => e = .returned (.int .i64 n) ∧ Below w.heap.size w w' := h1 ▸ until_any c s t l now w
theorem lv1 : levelV dC 2 5 5 = 2 := by decide +kernel
theorem lv2 : levelV dC 1 5 5 = 1 := by decide +kernel
theorem lv3 : levelV dC 0 5 5 = 0 := by decide +kernel
theorem lv4 : levelV dC 0 5 6 = 1 := by decide +kernel
theorem lv5 : levelV dC 0 5 9 = 2 := by decide +kernel
theorem un1 : untilV dC 0 5 5 = 1 := by decide +kernel
theorem tk1 : takeV dC 2 5 5 = bkt 1 5 := by unfold takeV; rw [lv1]; rfl
theorem tk2 : takeV dC 1 5 5 = bkt 0 5 := by unfold takeV; rw [lv2]; rfl
theorem tk3 : takeV dC 0 5 5 = bkt 0 5 := by unfold takeV; rw [lv3]; rfl
theorem tk4 : takeV dC 0 5 6 = bkt 0 6 := by unfold takeV; rw [lv4]; rfl
theorem dec1 : decide (1 ≤ levelV dC 2 5 5) = true := by rw [lv1]; rfl
theorem dec2 : decide (1 ≤ levelV dC 1 5 5) = true := by rw [lv2]; rfl
theorem dec3 : decide (1 ≤ levelV dC 0 5 5) = false := by rw [lv3]; rfl
theorem dec4 : decide (1 ≤ levelV dC 0 5 6) = true := by rw [lv4]; rfl

/-- A bucket in a listed block written anew. -/
theorem St.put2 {w0 a : World} {L : List (Nat × TypeId × Array Value)} {g : Nat} {t : TypeId} {x y : Int} (h : St w0 ((g, t, bkt x y) :: L) a) (x' y' : Int) :
    St w0 ((g, t, bkt x' y') :: L) ((a.setCell ⟨g, 0, none⟩ (.int .i64 x')).setCell ⟨g, 1, none⟩ (.int .i64 y')) := (h.setCellAt 0 rfl 0 _).setCellAt 0 rfl 1 _

theorem new_dC (w : World) : Calls Try.prog 7 #[.agg (cfgCells dC 7), .int .i64 5] w fun e w' => e = .returned (.agg (bkt 2 5)) ∧ Below w.heap.size w w' := new_any dC 7 5 w
theorem set_c1 (w : World) : Calls Try.prog 14 #[.agg (cfgCells smallC 7), .string ⟨#[98, 117, 114, 115, 116]⟩, .int .i64 2] w fun e w' => e = .returned (.tuple #[.agg (cfgCells (putV smallC 7 2) 7), .bool true]) ∧ Below w.heap.size w w' := set_at smallC 7 7 (by omega) 2 w
theorem set_c2 (w : World) : Calls Try.prog 14 #[.agg (cfgCells (putV smallC 7 2) 7), .string ⟨#[114, 97, 116, 101]⟩, .int .i64 1] w fun e w' => e = .returned (.tuple #[.agg (cfgCells dC 7), .bool true]) ∧ Below w.heap.size w w' := set_at (putV smallC 7 2) 7 8 (by omega) 1 w

set_option maxRecDepth 100000 in
set_option maxHeartbeats 2000000 in
theorem awake13 (w : World) : Calls Try.prog 6 #[] w fun e w' => e = .returned (.bool true) ∧ Below w.heap.size w w' := by
  have hS := St.nil w
  go_enter Try.func6, Try.ntmps6
  go_wp2_with fail
  refine (small_any _).mono ?_
  rintro e w1 ⟨rfl, hB⟩
  replace hS := St.step hS hB
  clear hB
  go_wp2_with fail
  refine (set_c1 _).mono ?_
  rintro e w2 ⟨rfl, hB⟩
  replace hS := St.step hS hB
  clear hB
  go_wp2_with (refine new_cfg hS rfl rfl _ _ rfl _ _ rfl rfl _ rfl ?_; intro w3 hS4 hlt; clear hS; generalize w2.heap.size = gc at hS4 hlt ⊢; have HL5 := St.loadC (L := [(gc, 24, cfgCells (putV smallC 7 2) 7)]) (w0 := w) 0 rfl)
  clear hlt
  go_wp2_with fail
  refine (set_c2 _).mono ?_
  rintro e w6 ⟨rfl, hB⟩
  replace hS4 := St.step hS4 hB
  clear hB
  go_wp2_with (refine new_cfg hS4 rfl rfl _ _ rfl _ _ rfl rfl _ rfl ?_; intro w7 hS8 hlt; clear hS4 HL5; generalize w6.heap.size = gd at hS8 hlt ⊢; have HL9 := St.loadC (L := [(gd, 24, cfgCells dC 7), (gc, 24, cfgCells (putV smallC 7 2) 7)]) (w0 := w) 0 rfl; have HL10 := St.loadC (L := [(gd, 24, cfgCells dC 7), (gc, 24, cfgCells (putV smallC 7 2) 7)]) (w0 := w) 1 rfl)
  clear hlt
  go_wp2_with fail
  refine (new_dC _).mono ?_
  rintro e w11 ⟨rfl, hB⟩
  replace hS8 := St.step hS8 hB
  clear hB
  go_wp2_with (refine store_new hS8 rfl rfl 26 _ _ rfl 26 _ (bkt 2 5) rfl rfl (by kernel_rfl) rfl (by simp [Value.oneCell']) ?_; intro w12 hS13 hlt; clear hS8 HL9 HL10; generalize w11.heap.size = gb at hS13 hlt ⊢; have HC14 := St.cell (L := [(gb, 26, (bkt 2 5)), (gd, 24, cfgCells dC 7), (gc, 24, cfgCells (putV smallC 7 2) 7)]) (w0 := w) 0 rfl 0 rfl; have HC15 := St.cell (L := [(gb, 26, (bkt 2 5)), (gd, 24, cfgCells dC 7), (gc, 24, cfgCells (putV smallC 7 2) 7)]) (w0 := w) 0 rfl 1 rfl; have HL16 := St.loadC (L := [(gb, 26, (bkt 2 5)), (gd, 24, cfgCells dC 7), (gc, 24, cfgCells (putV smallC 7 2) 7)]) (w0 := w) 1 rfl; have HL17 := St.loadC (L := [(gb, 26, (bkt 2 5)), (gd, 24, cfgCells dC 7), (gc, 24, cfgCells (putV smallC 7 2) 7)]) (w0 := w) 2 rfl)
  clear hlt
  go_wp2_with fail
  refine (take_is 7 tk1 dec1 _).mono ?_
  rintro e w18 ⟨rfl, hB⟩
  replace hS13 := St.step hS13 hB
  clear hB
  go_wp2_with (refine store_at hS13 rfl rfl 26 _ _ rfl 0 gb 26 ((bkt 2 5)) (bkt 1 5) rfl rfl rfl (by kernel_rfl) rfl (by simp [Value.oneCell']) ?_; intro w19 hS20; have hS20' : St w [(gb, 26, bkt 1 5), (gd, 24, cfgCells dC 7), (gc, 24, cfgCells (putV smallC 7 2) 7)] w19 := hS20; clear hS13 HC14 HC15 HL16 HL17 hS20; have HC21 := St.cell (L := [(gb, 26, bkt 1 5), (gd, 24, cfgCells dC 7), (gc, 24, cfgCells (putV smallC 7 2) 7)]) (w0 := w) 0 rfl 0 rfl; have HC22 := St.cell (L := [(gb, 26, bkt 1 5), (gd, 24, cfgCells dC 7), (gc, 24, cfgCells (putV smallC 7 2) 7)]) (w0 := w) 0 rfl 1 rfl; have HL23 := St.loadC (L := [(gb, 26, bkt 1 5), (gd, 24, cfgCells dC 7), (gc, 24, cfgCells (putV smallC 7 2) 7)]) (w0 := w) 1 rfl; have HL24 := St.loadC (L := [(gb, 26, bkt 1 5), (gd, 24, cfgCells dC 7), (gc, 24, cfgCells (putV smallC 7 2) 7)]) (w0 := w) 2 rfl)
  go_wp2_with fail
  refine (take_is 7 tk2 dec2 _).mono ?_
  rintro e w25 ⟨rfl, hB⟩
  replace hS20' := St.step hS20' hB
  clear hB
  go_wp2_with (refine store_at hS20' rfl rfl 26 _ _ rfl 0 gb 26 (bkt 1 5) (bkt 0 5) rfl rfl rfl (by kernel_rfl) rfl (by simp [Value.oneCell']) ?_; intro w26 hS27; have hS27' : St w [(gb, 26, bkt 0 5), (gd, 24, cfgCells dC 7), (gc, 24, cfgCells (putV smallC 7 2) 7)] w26 := hS27; clear hS20' HC21 HC22 HL23 HL24 hS27; have HC28 := St.cell (L := [(gb, 26, bkt 0 5), (gd, 24, cfgCells dC 7), (gc, 24, cfgCells (putV smallC 7 2) 7)]) (w0 := w) 0 rfl 0 rfl; have HC29 := St.cell (L := [(gb, 26, bkt 0 5), (gd, 24, cfgCells dC 7), (gc, 24, cfgCells (putV smallC 7 2) 7)]) (w0 := w) 0 rfl 1 rfl; have HL30 := St.loadC (L := [(gb, 26, bkt 0 5), (gd, 24, cfgCells dC 7), (gc, 24, cfgCells (putV smallC 7 2) 7)]) (w0 := w) 1 rfl; have HL31 := St.loadC (L := [(gb, 26, bkt 0 5), (gd, 24, cfgCells dC 7), (gc, 24, cfgCells (putV smallC 7 2) 7)]) (w0 := w) 2 rfl)
  go_wp2_with fail
  refine (take_is 7 tk3 dec3 _).mono ?_
  rintro e w32 ⟨rfl, hB⟩
  replace hS27' := St.step hS27' hB
  clear hB
  go_wp2_with (refine store_new hS27' rfl rfl 26 _ _ rfl 26 _ (bkt 0 5) rfl rfl (by kernel_rfl) rfl (by simp [Value.oneCell']) ?_; intro w33 hS34 hlt; clear hS27' HC28 HC29 HL30 HL31; generalize w32.heap.size = ge at hS34 hlt ⊢; have HC35 := St.cell (L := [(ge, 26, (bkt 0 5)), (gb, 26, bkt 0 5), (gd, 24, cfgCells dC 7), (gc, 24, cfgCells (putV smallC 7 2) 7)]) (w0 := w) 0 rfl 0 rfl; have HC36 := St.cell (L := [(ge, 26, (bkt 0 5)), (gb, 26, bkt 0 5), (gd, 24, cfgCells dC 7), (gc, 24, cfgCells (putV smallC 7 2) 7)]) (w0 := w) 0 rfl 1 rfl; have HC37 := St.cell (L := [(ge, 26, (bkt 0 5)), (gb, 26, bkt 0 5), (gd, 24, cfgCells dC 7), (gc, 24, cfgCells (putV smallC 7 2) 7)]) (w0 := w) 1 rfl 0 rfl; have HC38 := St.cell (L := [(ge, 26, (bkt 0 5)), (gb, 26, bkt 0 5), (gd, 24, cfgCells dC 7), (gc, 24, cfgCells (putV smallC 7 2) 7)]) (w0 := w) 1 rfl 1 rfl; have HL39 := St.loadC (L := [(ge, 26, (bkt 0 5)), (gb, 26, bkt 0 5), (gd, 24, cfgCells dC 7), (gc, 24, cfgCells (putV smallC 7 2) 7)]) (w0 := w) 2 rfl; have HL40 := St.loadC (L := [(ge, 26, (bkt 0 5)), (gb, 26, bkt 0 5), (gd, 24, cfgCells dC 7), (gc, 24, cfgCells (putV smallC 7 2) 7)]) (w0 := w) 3 rfl)
  clear hlt
  go_wp2_with fail
  refine (take_is 7 tk4 dec4 _).mono ?_
  rintro e w41 ⟨rfl, hB⟩
  replace hS34 := St.step hS34 hB
  clear hB
  go_wp2_with (refine store_new hS34 rfl rfl 26 _ _ rfl 26 _ (bkt 0 6) rfl rfl (by kernel_rfl) rfl (by simp [Value.oneCell']) ?_; intro w42 hS43 hlt; clear hS34 HC35 HC36 HC37 HC38 HL39 HL40; generalize w41.heap.size = gf at hS43 hlt ⊢; have HC44 := St.cell (L := [(gf, 26, (bkt 0 6)), (ge, 26, (bkt 0 5)), (gb, 26, bkt 0 5), (gd, 24, cfgCells dC 7), (gc, 24, cfgCells (putV smallC 7 2) 7)]) (w0 := w) 0 rfl 0 rfl; have HC45 := St.cell (L := [(gf, 26, (bkt 0 6)), (ge, 26, (bkt 0 5)), (gb, 26, bkt 0 5), (gd, 24, cfgCells dC 7), (gc, 24, cfgCells (putV smallC 7 2) 7)]) (w0 := w) 0 rfl 1 rfl; have HC46 := St.cell (L := [(gf, 26, (bkt 0 6)), (ge, 26, (bkt 0 5)), (gb, 26, bkt 0 5), (gd, 24, cfgCells dC 7), (gc, 24, cfgCells (putV smallC 7 2) 7)]) (w0 := w) 1 rfl 0 rfl; have HC47 := St.cell (L := [(gf, 26, (bkt 0 6)), (ge, 26, (bkt 0 5)), (gb, 26, bkt 0 5), (gd, 24, cfgCells dC 7), (gc, 24, cfgCells (putV smallC 7 2) 7)]) (w0 := w) 1 rfl 1 rfl; have HC48 := St.cell (L := [(gf, 26, (bkt 0 6)), (ge, 26, (bkt 0 5)), (gb, 26, bkt 0 5), (gd, 24, cfgCells dC 7), (gc, 24, cfgCells (putV smallC 7 2) 7)]) (w0 := w) 2 rfl 0 rfl; have HC49 := St.cell (L := [(gf, 26, (bkt 0 6)), (ge, 26, (bkt 0 5)), (gb, 26, bkt 0 5), (gd, 24, cfgCells dC 7), (gc, 24, cfgCells (putV smallC 7 2) 7)]) (w0 := w) 2 rfl 1 rfl; have HL50 := St.loadC (L := [(gf, 26, (bkt 0 6)), (ge, 26, (bkt 0 5)), (gb, 26, bkt 0 5), (gd, 24, cfgCells dC 7), (gc, 24, cfgCells (putV smallC 7 2) 7)]) (w0 := w) 3 rfl; have HL51 := St.loadC (L := [(gf, 26, (bkt 0 6)), (ge, 26, (bkt 0 5)), (gb, 26, bkt 0 5), (gd, 24, cfgCells dC 7), (gc, 24, cfgCells (putV smallC 7 2) 7)]) (w0 := w) 4 rfl)
  clear hlt
  go_wp2_with fail
  refine (until_is 7 un1 _).mono ?_
  rintro e w52 ⟨rfl, hB⟩
  replace hS43 := St.step hS43 hB
  clear hB
  go_wp2_with fail
  refine (level_is 7 lv5 _).mono ?_
  rintro e w53 ⟨rfl, hB⟩
  replace hS43 := St.step hS43 hB
  clear hB
  go_wp2
  go_ret
  exact ⟨rfl, hS43.below⟩
end Go.Proofs.Ytaalcdjhbbdadaa
