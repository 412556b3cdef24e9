/- The statement SiteSets, walked: for every configuration, two places and two numbers the Go law returns true, and nothing that was in memory is changed. No condition. -/
import Derived.Test.YtdnkdanpcbjnbaaSiteMath
import Derived.Test.YtdnkdanpcbjnbaaOpenArr
import Derived.Deep.LoopGhost
namespace Go.Proofs.Ytdnkdanpcbjnbaa
open Go.RowKit
attribute [local go_sem ↓] Go.wp_at_zero Go.wp_at_succ

theorem put_comm (c : Nat → Int) {i j : Nat} (h : i ≠ j) (m n : Int) : putV (putV c j n) i m = putV (putV c i m) j n := by
  funext x
  unfold putV
  by_cases e1 : x = i
  · subst e1
    rw [if_pos rfl, if_neg h, if_pos rfl]
  · rw [if_neg e1, if_neg e1]
theorem put_back (c : Nat → Int) (i : Nat) (m : Int) : putV (putV c i m) i (c i) = c := by
  funext x
  unfold putV
  by_cases e1 : x = i
  · subst e1
    rw [if_pos rfl]
  · rw [if_neg e1, if_neg e1]
theorem name_ne {i j : Nat} (hi : i < 17) (hj : j < 17) (h : i ≠ j) : ((nameAt i).toList == (nameAt j).toList) = false := by
  rw [beq_eq_false_iff_ne]
  intro e
  refine h ?_
  have e2 : nameAt i = nameAt j := by
    rw [ByteArray.toList_eq, ByteArray.toList_eq] at e
    cases hx : nameAt i with
    | mk x =>
      cases hy : nameAt j with
      | mk y =>
        rw [hx, hy] at e
        have : x.toList = y.toList := e
        rw [Array.toList_inj.1 this]
  rw [← find_name i hi, ← find_name j hj, e2]

set_option maxRecDepth 100000 in
set_option maxHeartbeats 4000000 in
theorem sets_law (c : Nat → Int) (s a0 a1 n0 n1 : Int) (w : World) :
    Calls Try.prog 6 #[.agg (cfgCells c s), .agg #[.int .i64 a0, .int .i64 a1], .agg #[.int .i64 n0, .int .i64 n1]] w fun e w' => e = .returned (.bool true) ∧ Below w.heap.size w w' := by
  obtain ⟨ka, hka, ha⟩ := mod17 a0
  obtain ⟨kb, hkb, hb⟩ := mod17 a1
  have ka0 : (0 : Int) ≤ (ka : Int) := by omega
  have ka1 : (ka : Int) < 17 := by omega
  have kb0 : (0 : Int) ≤ (kb : Int) := by omega
  have kb1 : (kb : Int) < 17 := by omega
  have HKA := Lib.hid hka
  have HKB := Lib.hid hkb
  clear hka hkb
  have hS := (((St.nil w).alloc 24 (cfgCells c s)).alloc' (w.heap.size + 1) (by simp) 45 #[.int .i64 a0, .int .i64 a1]).alloc' (w.heap.size + 1 + 1) (by simp) 45 #[.int .i64 n0, .int .i64 n1]
  go_enter Try.func6, Try.ntmps6
  go_wp2_with (go_at_call 7; refine (awake7 _).mono ?_; rintro e w1 ⟨rfl, hB⟩; replace hS := hS.step hB; clear hB)
  refine (names_any _).mono ?_
  rintro e w2 ⟨v, rfl, ⟨gs, cap, cur, rfl, hg1, hg2, hg3⟩, hB⟩
  replace hS := hS.call_new hB hg1 hg2
  have HG := Lib.hid hg3
  clear hB hg1 hg2 hg3
  have Q1 := St.cell (L := [(gs, 9, cur), (w.heap.size + 1 + 1, 45, #[.int .i64 n0, .int .i64 n1]), (w.heap.size + 1, 45, #[.int .i64 a0, .int .i64 a1]), (w.heap.size, 24, cfgCells (c) s)]) (w0 := w) 0 rfl ka (HG.out ka HKA.out)
  have Q2 := St.cell (L := [(gs, 9, cur), (w.heap.size + 1 + 1, 45, #[.int .i64 n0, .int .i64 n1]), (w.heap.size + 1, 45, #[.int .i64 a0, .int .i64 a1]), (w.heap.size, 24, cfgCells (c) s)]) (w0 := w) 0 rfl kb (HG.out kb HKB.out)
  have Q3 := St.cell (L := [(gs, 9, cur), (w.heap.size + 1 + 1, 45, #[.int .i64 n0, .int .i64 n1]), (w.heap.size + 1, 45, #[.int .i64 a0, .int .i64 a1]), (w.heap.size, 24, cfgCells (c) s)]) (w0 := w) 2 rfl 0 rfl
  have Q4 := St.cell (L := [(gs, 9, cur), (w.heap.size + 1 + 1, 45, #[.int .i64 n0, .int .i64 n1]), (w.heap.size + 1, 45, #[.int .i64 a0, .int .i64 a1]), (w.heap.size, 24, cfgCells (c) s)]) (w0 := w) 2 rfl 1 rfl
  have HL := St.loadC (L := [(gs, 9, cur), (w.heap.size + 1 + 1, 45, #[.int .i64 n0, .int .i64 n1]), (w.heap.size + 1, 45, #[.int .i64 a0, .int .i64 a1]), (w.heap.size, 24, cfgCells (c) s)]) (w0 := w) 3 rfl
  have HC := St.cell (L := [(gs, 9, cur), (w.heap.size + 1 + 1, 45, #[.int .i64 n0, .int .i64 n1]), (w.heap.size + 1, 45, #[.int .i64 a0, .int .i64 a1]), (w.heap.size, 24, cfgCells (c) s)]) (w0 := w) 1 rfl 0 rfl
  go_wp2_with fail
  clear Q1 Q2 Q3 Q4
  refine (set_at _ _ _ HKA.out _ _).mono ?_
  rintro e w9 ⟨rfl, hB⟩
  replace hS := hS.step hB
  clear hB
  go_wp2_with (refine new_cfg hS rfl rfl _ _ rfl _ _ rfl rfl _ rfl ?_; intro w8 hS1 hlt8; clear hS HL HC hlt8; generalize w9.heap.size = gd at hS1 ⊢; have HL := St.loadC (L := [(gd, 24, cfgCells (putV c ka n0) s), (gs, 9, cur), (w.heap.size + 1 + 1, 45, #[.int .i64 n0, .int .i64 n1]), (w.heap.size + 1, 45, #[.int .i64 a0, .int .i64 a1]), (w.heap.size, 24, cfgCells (c) s)]) (w0 := w) 0 rfl; have HC := St.cell (L := [(gd, 24, cfgCells (putV c ka n0) s), (gs, 9, cur), (w.heap.size + 1 + 1, 45, #[.int .i64 n0, .int .i64 n1]), (w.heap.size + 1, 45, #[.int .i64 a0, .int .i64 a1]), (w.heap.size, 24, cfgCells (c) s)]) (w0 := w) 2 rfl 1 rfl)
  have hS := hS1
  clear hS1
  go_wp2_with fail
  refine (set_at _ _ _ HKB.out _ _).mono ?_
  rintro e w9 ⟨rfl, hB⟩
  replace hS := hS.step hB
  clear hB
  go_wp2_with (refine new_cfg hS rfl rfl _ _ rfl _ _ rfl rfl _ rfl ?_; intro w8 hS2 hlt8; clear hS HL HC hlt8; generalize w9.heap.size = ge at hS2 ⊢; have HL := St.loadC (L := [(ge, 24, cfgCells (putV (putV c ka n0) kb n1) s), (gd, 24, cfgCells (putV c ka n0) s), (gs, 9, cur), (w.heap.size + 1 + 1, 45, #[.int .i64 n0, .int .i64 n1]), (w.heap.size + 1, 45, #[.int .i64 a0, .int .i64 a1]), (w.heap.size, 24, cfgCells (c) s)]) (w0 := w) 5 rfl; have HC := St.cell (L := [(ge, 24, cfgCells (putV (putV c ka n0) kb n1) s), (gd, 24, cfgCells (putV c ka n0) s), (gs, 9, cur), (w.heap.size + 1 + 1, 45, #[.int .i64 n0, .int .i64 n1]), (w.heap.size + 1, 45, #[.int .i64 a0, .int .i64 a1]), (w.heap.size, 24, cfgCells (c) s)]) (w0 := w) 3 rfl 1 rfl)
  have hS := hS2
  clear hS2
  go_wp2_with fail
  refine (set_at _ _ _ HKB.out _ _).mono ?_
  rintro e w9 ⟨rfl, hB⟩
  replace hS := hS.step hB
  clear hB
  go_wp2_with (refine new_cfg hS rfl rfl _ _ rfl _ _ rfl rfl _ rfl ?_; intro w8 hS3 hlt8; clear hS HL HC hlt8; generalize w9.heap.size = gf at hS3 ⊢; have HL := St.loadC (L := [(gf, 24, cfgCells (putV c kb n1) s), (ge, 24, cfgCells (putV (putV c ka n0) kb n1) s), (gd, 24, cfgCells (putV c ka n0) s), (gs, 9, cur), (w.heap.size + 1 + 1, 45, #[.int .i64 n0, .int .i64 n1]), (w.heap.size + 1, 45, #[.int .i64 a0, .int .i64 a1]), (w.heap.size, 24, cfgCells (c) s)]) (w0 := w) 0 rfl; have HC := St.cell (L := [(gf, 24, cfgCells (putV c kb n1) s), (ge, 24, cfgCells (putV (putV c ka n0) kb n1) s), (gd, 24, cfgCells (putV c ka n0) s), (gs, 9, cur), (w.heap.size + 1 + 1, 45, #[.int .i64 n0, .int .i64 n1]), (w.heap.size + 1, 45, #[.int .i64 a0, .int .i64 a1]), (w.heap.size, 24, cfgCells (c) s)]) (w0 := w) 4 rfl 0 rfl)
  have hS := hS3
  clear hS3
  go_wp2_with fail
  refine (set_at _ _ _ HKA.out _ _).mono ?_
  rintro e w9 ⟨rfl, hB⟩
  replace hS := hS.step hB
  clear hB
  go_upto_region 10 with (refine new_cfg hS rfl rfl _ _ rfl _ _ rfl rfl _ rfl ?_; intro w8 hS4 hlt8; clear hS HL HC hlt8; generalize w9.heap.size = gg at hS4 ⊢; have HL := St.loadC (L := [(gg, 24, cfgCells (putV (putV c kb n1) ka n0) s), (gf, 24, cfgCells (putV c kb n1) s), (ge, 24, cfgCells (putV (putV c ka n0) kb n1) s), (gd, 24, cfgCells (putV c ka n0) s), (gs, 9, cur), (w.heap.size + 1 + 1, 45, #[.int .i64 n0, .int .i64 n1]), (w.heap.size + 1, 45, #[.int .i64 a0, .int .i64 a1]), (w.heap.size, 24, cfgCells (c) s)]) (w0 := w) 0 rfl; have HC := St.cell (L := [(gg, 24, cfgCells (putV (putV c kb n1) ka n0) s), (gf, 24, cfgCells (putV c kb n1) s), (ge, 24, cfgCells (putV (putV c ka n0) kb n1) s), (gd, 24, cfgCells (putV c ka n0) s), (gs, 9, cur), (w.heap.size + 1 + 1, 45, #[.int .i64 n0, .int .i64 n1]), (w.heap.size + 1, 45, #[.int .i64 a0, .int .i64 a1]), (w.heap.size, 24, cfgCells (c) s)]) (w0 := w) 5 rfl 0 rfl)
  have hS := hS4
  clear hS4
  clear HL HC ha hb ka0 ka1 kb0 kb1
  go_cut [100] (fun b wx => b = .bool false ∧ St w [(gg, 24, cfgCells (putV (putV c kb n1) ka n0) s), (gf, 24, cfgCells (putV c kb n1) s), (ge, 24, cfgCells (putV (putV c ka n0) kb n1) s), (gd, 24, cfgCells (putV c ka n0) s), (gs, 9, cur), (w.heap.size + 1 + 1, 45, #[.int .i64 n0, .int .i64 n1]), (w.heap.size + 1, 45, #[.int .i64 a0, .int .i64 a1]), (w.heap.size, 24, cfgCells (c) s)] wx)
  case first =>
    have HGl := St.loadC (L := [(gg, 24, cfgCells (putV (putV c kb n1) ka n0) s), (gf, 24, cfgCells (putV c kb n1) s), (ge, 24, cfgCells (putV (putV c ka n0) kb n1) s), (gd, 24, cfgCells (putV c ka n0) s), (gs, 9, cur), (w.heap.size + 1 + 1, 45, #[.int .i64 n0, .int .i64 n1]), (w.heap.size + 1, 45, #[.int .i64 a0, .int .i64 a1]), (w.heap.size, 24, cfgCells (c) s)]) (w0 := w) 0 rfl
    have Q1 := St.cell (L := [(gg, 24, cfgCells (putV (putV c kb n1) ka n0) s), (gf, 24, cfgCells (putV c kb n1) s), (ge, 24, cfgCells (putV (putV c ka n0) kb n1) s), (gd, 24, cfgCells (putV c ka n0) s), (gs, 9, cur), (w.heap.size + 1 + 1, 45, #[.int .i64 n0, .int .i64 n1]), (w.heap.size + 1, 45, #[.int .i64 a0, .int .i64 a1]), (w.heap.size, 24, cfgCells (c) s)]) (w0 := w) 2 rfl 17 rfl
    have Q2 := St.cell (L := [(gg, 24, cfgCells (putV (putV c kb n1) ka n0) s), (gf, 24, cfgCells (putV c kb n1) s), (ge, 24, cfgCells (putV (putV c ka n0) kb n1) s), (gd, 24, cfgCells (putV c ka n0) s), (gs, 9, cur), (w.heap.size + 1 + 1, 45, #[.int .i64 n0, .int .i64 n1]), (w.heap.size + 1, 45, #[.int .i64 a0, .int .i64 a1]), (w.heap.size, 24, cfgCells (c) s)]) (w0 := w) 7 rfl 17 rfl
    by_cases hab : ka = kb
    · subst hab
      go_wp2_with fail
      go_meet
      exact ⟨rfl, hS⟩
    · have HE := name_ne HKA.out HKB.out hab
      have HEl : ∀ W, St w [(gg, 24, cfgCells (putV (putV c kb n1) ka n0) s), (gf, 24, cfgCells (putV c kb n1) s), (ge, 24, cfgCells (putV (putV c ka n0) kb n1) s), (gd, 24, cfgCells (putV c ka n0) s), (gs, 9, cur), (w.heap.size + 1 + 1, 45, #[.int .i64 n0, .int .i64 n1]), (w.heap.size + 1, 45, #[.int .i64 a0, .int .i64 a1]), (w.heap.size, 24, cfgCells (c) s)] W → (loadBig 24 ⟨ge, 0, none⟩).run Try.prog W = .ok (.agg (cfgCells (putV (putV c kb n1) ka n0) s)) W := fun W hW => by
        rw [St.loadC (L := [(gg, 24, cfgCells (putV (putV c kb n1) ka n0) s), (gf, 24, cfgCells (putV c kb n1) s), (ge, 24, cfgCells (putV (putV c ka n0) kb n1) s), (gd, 24, cfgCells (putV c ka n0) s), (gs, 9, cur), (w.heap.size + 1 + 1, 45, #[.int .i64 n0, .int .i64 n1]), (w.heap.size + 1, 45, #[.int .i64 a0, .int .i64 a1]), (w.heap.size, 24, cfgCells (c) s)]) (w0 := w) 2 rfl W hW, show putV (putV c ka n0) kb n1 = putV (putV c kb n1) ka n0 from put_comm c (Ne.symm hab) n1 n0]
      have HN := Lib.hid hab
      clear hab
      go_wp2_with fail
      go_meet
      exact ⟨rfl, hS⟩
  case rest =>
  obtain ⟨rfl, hS5⟩ := hcut
  clear hS
  go_wp2_with fail
  have HL := St.loadC (L := [(gg, 24, cfgCells (putV (putV c kb n1) ka n0) s), (gf, 24, cfgCells (putV c kb n1) s), (ge, 24, cfgCells (putV (putV c ka n0) kb n1) s), (gd, 24, cfgCells (putV c ka n0) s), (gs, 9, cur), (w.heap.size + 1 + 1, 45, #[.int .i64 n0, .int .i64 n1]), (w.heap.size + 1, 45, #[.int .i64 a0, .int .i64 a1]), (w.heap.size, 24, cfgCells (c) s)]) (w0 := w) 7 rfl
  have HD := St.loadC (L := [(gg, 24, cfgCells (putV (putV c kb n1) ka n0) s), (gf, 24, cfgCells (putV c kb n1) s), (ge, 24, cfgCells (putV (putV c ka n0) kb n1) s), (gd, 24, cfgCells (putV c ka n0) s), (gs, 9, cur), (w.heap.size + 1 + 1, 45, #[.int .i64 n0, .int .i64 n1]), (w.heap.size + 1, 45, #[.int .i64 a0, .int .i64 a1]), (w.heap.size, 24, cfgCells (c) s)]) (w0 := w) 3 rfl
  have HN := St.cell (L := [(gg, 24, cfgCells (putV (putV c kb n1) ka n0) s), (gf, 24, cfgCells (putV c kb n1) s), (ge, 24, cfgCells (putV (putV c ka n0) kb n1) s), (gd, 24, cfgCells (putV c ka n0) s), (gs, 9, cur), (w.heap.size + 1 + 1, 45, #[.int .i64 n0, .int .i64 n1]), (w.heap.size + 1, 45, #[.int .i64 a0, .int .i64 a1]), (w.heap.size, 24, cfgCells (c) s)]) (w0 := w) 5 rfl 0 rfl
  go_loopg [18] 17 (fun m i wr => ∃ k : Nat, m + k = 17 ∧ i = .int .i64 k ∧ St w [(gg, 24, cfgCells (putV (putV c kb n1) ka n0) s), (gf, 24, cfgCells (putV c kb n1) s), (ge, 24, cfgCells (putV (putV c ka n0) kb n1) s), (gd, 24, cfgCells (putV c ka n0) s), (gs, 9, cur), (w.heap.size + 1 + 1, 45, #[.int .i64 n0, .int .i64 n1]), (w.heap.size + 1, 45, #[.int .i64 a0, .int .i64 a1]), (w.heap.size, 24, cfgCells (c) s)] wr)
  case atStart => exact ⟨0, by omega, rfl, hS5⟩
  case round =>
    clear hS5
    obtain ⟨k, hk, rfl, hR⟩ := hrel
    by_cases hlt : k < 17
    · have k0 : (0 : Int) ≤ (k : Int) := by omega
      have k1 : (k : Int) < 17 := by omega
      have HC := St.cell (L := [(gg, 24, cfgCells (putV (putV c kb n1) ka n0) s), (gf, 24, cfgCells (putV c kb n1) s), (ge, 24, cfgCells (putV (putV c ka n0) kb n1) s), (gd, 24, cfgCells (putV c ka n0) s), (gs, 9, cur), (w.heap.size + 1 + 1, 45, #[.int .i64 n0, .int .i64 n1]), (w.heap.size + 1, 45, #[.int .i64 a0, .int .i64 a1]), (w.heap.size, 24, cfgCells (c) s)]) (w0 := w) 4 rfl k (HG.out k hlt)
      have HI := Lib.hid hlt
      have HK := Lib.hid hk
      clear hlt hk
      by_cases hka : k = ka
      · have hka' : ka = k := hka.symm
        clear hka
        subst hka'
        have HP := put_same c ka n0
        go_wp2_with fail
        have hR0 := hR.drew
        go_region_held3 (St w [(gg, 24, cfgCells (putV (putV c kb n1) ka n0) s), (gf, 24, cfgCells (putV c kb n1) s), (ge, 24, cfgCells (putV (putV c ka n0) kb n1) s), (gd, 24, cfgCells (putV c ka n0) s), (gs, 9, cur), (w.heap.size + 1 + 1, 45, #[.int .i64 n0, .int .i64 n1]), (w.heap.size + 1, 45, #[.int .i64 a0, .int .i64 a1]), (w.heap.size, 24, cfgCells (c) s)]) (assumption) ((go_at_call 18; refine (get_at _ _ _ HI.out _).mono ?_; rintro e w9 ⟨rfl, hB⟩; have hS9 := hR0.step hB))
        go_wp2_with fail
        have hR1 := hS9.drew
        go_region_held3 (St w [(gg, 24, cfgCells (putV (putV c kb n1) ka n0) s), (gf, 24, cfgCells (putV c kb n1) s), (ge, 24, cfgCells (putV (putV c ka n0) kb n1) s), (gd, 24, cfgCells (putV c ka n0) s), (gs, 9, cur), (w.heap.size + 1 + 1, 45, #[.int .i64 n0, .int .i64 n1]), (w.heap.size + 1, 45, #[.int .i64 a0, .int .i64 a1]), (w.heap.size, 24, cfgCells (c) s)]) (assumption) ((go_at_call 18; refine (get_at _ _ _ HI.out _).mono ?_; rintro e w10 ⟨rfl, hB⟩; rw [HP]; have hS10 := hR1.step hB))
        go_wp2_with fail
        go_roundg (gk - 1)
        case measure => have := HK.out; have := HI.out; omega
        case rel => exact ⟨ka + 1, by have := HK.out; have := HI.out; omega, by go_num, hS10⟩
      · have HP := put_other c hka n0
        have HE := name_ne HI.out HKA.out hka
        have HX := Lib.hid hka
        clear hka
        go_wp2_with fail
        have hR0 := hR.drew
        go_region_held3 (St w [(gg, 24, cfgCells (putV (putV c kb n1) ka n0) s), (gf, 24, cfgCells (putV c kb n1) s), (ge, 24, cfgCells (putV (putV c ka n0) kb n1) s), (gd, 24, cfgCells (putV c ka n0) s), (gs, 9, cur), (w.heap.size + 1 + 1, 45, #[.int .i64 n0, .int .i64 n1]), (w.heap.size + 1, 45, #[.int .i64 a0, .int .i64 a1]), (w.heap.size, 24, cfgCells (c) s)]) (assumption) ((go_at_call 18; refine (get_at _ _ _ HI.out _).mono ?_; rintro e w9 ⟨rfl, hB⟩; have hS9 := hR0.step hB))
        go_wp2_with fail
        have hR1 := hS9.drew
        go_region_held3 (St w [(gg, 24, cfgCells (putV (putV c kb n1) ka n0) s), (gf, 24, cfgCells (putV c kb n1) s), (ge, 24, cfgCells (putV (putV c ka n0) kb n1) s), (gd, 24, cfgCells (putV c ka n0) s), (gs, 9, cur), (w.heap.size + 1 + 1, 45, #[.int .i64 n0, .int .i64 n1]), (w.heap.size + 1, 45, #[.int .i64 a0, .int .i64 a1]), (w.heap.size, 24, cfgCells (c) s)]) (assumption) ((go_at_call 18; refine (get_at _ _ _ HI.out _).mono ?_; rintro e w10 ⟨rfl, hB⟩; rw [HP]; have hS10 := hR1.step hB))
        go_wp2_with fail
        go_roundg (gk - 1)
        case measure => have := HK.out; have := HI.out; omega
        case rel => exact ⟨k + 1, by have := HK.out; have := HI.out; omega, by go_num, hS10⟩
    · obtain rfl : k = 17 := by omega
      clear hlt hk HN
      go_wp2_with fail
      refine (get_at _ _ _ HKA.out _).mono ?_
      rintro e w11 ⟨rfl, hB⟩
      replace hR := hR.step hB
      clear hB
      go_wp2_with fail
      refine (set_at _ _ _ HKA.out _ _).mono ?_
      rintro e w12 ⟨rfl, hB⟩
      rw [put_back]
      replace hR := hR.step hB
      clear hB HL HD
      go_wp2_with (refine new_cfg hR rfl rfl _ _ rfl _ _ rfl rfl _ rfl ?_; intro w13 hS13 hlt13; clear hR hlt13; generalize w12.heap.size = gh at hS13 ⊢; have HL := St.loadC (L := [(gh, 24, cfgCells (c) s), (gg, 24, cfgCells (putV (putV c kb n1) ka n0) s), (gf, 24, cfgCells (putV c kb n1) s), (ge, 24, cfgCells (putV (putV c ka n0) kb n1) s), (gd, 24, cfgCells (putV c ka n0) s), (gs, 9, cur), (w.heap.size + 1 + 1, 45, #[.int .i64 n0, .int .i64 n1]), (w.heap.size + 1, 45, #[.int .i64 a0, .int .i64 a1]), (w.heap.size, 24, cfgCells (c) s)]) (w0 := w) 0 rfl; have HL2 := St.loadC (L := [(gh, 24, cfgCells (c) s), (gg, 24, cfgCells (putV (putV c kb n1) ka n0) s), (gf, 24, cfgCells (putV c kb n1) s), (ge, 24, cfgCells (putV (putV c ka n0) kb n1) s), (gd, 24, cfgCells (putV c ka n0) s), (gs, 9, cur), (w.heap.size + 1 + 1, 45, #[.int .i64 n0, .int .i64 n1]), (w.heap.size + 1, 45, #[.int .i64 a0, .int .i64 a1]), (w.heap.size, 24, cfgCells (c) s)]) (w0 := w) 8 rfl)
      go_ret
      exact ⟨rfl, hS13.below⟩
end Go.Proofs.Ytdnkdanpcbjnbaa
