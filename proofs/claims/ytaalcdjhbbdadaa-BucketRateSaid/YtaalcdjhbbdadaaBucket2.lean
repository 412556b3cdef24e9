/- Layer 13: bucket.Take and Until, and the document's Good and Level, for every configuration, bucket and tick; nothing that was in memory is changed. No condition. -/
import Derived.Test.YtaalcdjhbbdadaaBucket1
namespace Go.Proofs.Ytaalcdjhbbdadaa
open Go.RowKit

theorem level_bd (c : Nat → Int) (t l now : Int) : 0 ≤ levelV c t l now ∧ levelV c t l now ≤ 1024 := by
  unfold levelV
  split
  · rename_i h
    obtain ⟨h1, h2⟩ := Bool.and_eq_true_iff.1 h
    obtain ⟨hg, b1, b2, b3, b4⟩ := bchk_true h1
    obtain ⟨⟨c1, c2⟩, c3, c4⟩ := good_br hg
    have : 0 ≤ c 8 * max 0 (now - l) := Int.mul_nonneg (by omega) (by omega)
    omega
  · omega

def takeV (c : Nat → Int) (t l now : Int) : Array Value := if 1 ≤ levelV c t l now then bkt (levelV c t l now - 1) (max now l) else bkt t l
abbrev LT (c : Nat → Int) (s t l a b : Int) (w : World) : List (Nat × TypeId × Array Value) := [(w.heap.size + 1 + 1, 26, bkt a b), (w.heap.size + 1, 26, bkt t l), (w.heap.size, 24, cfgCells c s)]

theorem take_any (c : Nat → Int) (s t l now : Int) (w : World) :
    Calls Try.prog 11 #[.agg (cfgCells c s), .agg (bkt t l), .int .i64 now] w fun e w' => e = .returned (.tuple #[.agg (takeV c t l now), .bool (decide (1 ≤ levelV c t l now))]) ∧ Below w.heap.size w w' := by
  have hS := (((St.nil w).alloc 24 (cfgCells c s)).alloc' (w.heap.size + 1) (by simp) 26 (bkt t l)).alloc' (w.heap.size + 1 + 1) (by simp) 26 (bkt 0 0)
  have Q0 := St.loadC (L := LT c s t l 0 0 w) (w0 := w) 2 rfl
  have Q1 := St.cell (L := LT c s t l 0 0 w) (w0 := w) 1 rfl 0 rfl
  have Q2 := St.cell (L := LT c s t l 0 0 w) (w0 := w) 1 rfl 1 rfl
  have Q3 := St.cell (L := LT c s t l 0 0 w) (w0 := w) 0 rfl 0 rfl
  have Q4 := St.cell (L := LT c s t l 0 0 w) (w0 := w) 0 rfl 1 rfl
  have Q5 := St.froz (L := LT c s t l 0 0 w) (w0 := w) 0 rfl 0
  have Q6 := St.froz (L := LT c s t l 0 0 w) (w0 := w) 0 rfl 1
  obtain ⟨l0, l1⟩ := level_bd c t l now
  by_cases h : 1 ≤ levelV c t l now
  · have HT := Lib.hid (show takeV c t l now = bkt (levelV c t l now - 1) (max now l) by unfold takeV; rw [if_pos h])
    have HB := Lib.hid (decide_eq_true h)
    by_cases hm : now < l
    all_goals
      go_enter Try.func11, Try.ntmps11
      go_wp2_with (go_at_call 12; refine (level_any _ _ _ _ _ _).mono ?_; rintro e w1 ⟨rfl, hB⟩; replace hS := hS.step hB; clear hB)
      have hE := (hS.setCellAt 0 rfl 0 (.int .i64 (levelV c t l now - 1))).setCellAt 0 rfl 1 (.int .i64 (max now l))
      have hx : max now l = (if now < l then l else now) := by split <;> omega
      first
        | (rw [hx, if_pos hm] at hE
           refine bodyPost_ret (results_cell_tmp Try.results11 _ _ (w.heap.size + 1 + 1) 26 (bkt (levelV c t l now - 1) l) _ rfl (hE.get 0 rfl) Try.underlying26 rfl (by kernel_rfl)) rfl ?_
           refine ⟨?_, hE.below⟩
           rw [HT.out, HB.out, hx, if_pos hm]
           rfl)
        | (rw [hx, if_neg (by omega)] at hE
           refine bodyPost_ret (results_cell_tmp Try.results11 _ _ (w.heap.size + 1 + 1) 26 (bkt (levelV c t l now - 1) now) _ rfl (hE.get 0 rfl) Try.underlying26 rfl (by kernel_rfl)) rfl ?_
           refine ⟨?_, hE.below⟩
           rw [HT.out, HB.out, hx, if_neg (by omega)]
           rfl)
  · have HT := Lib.hid (show takeV c t l now = bkt t l by unfold takeV; rw [if_neg h])
    have HB := Lib.hid (decide_eq_false h)
    go_enter Try.func11, Try.ntmps11
    go_wp2_with (go_at_call 12; refine (level_any _ _ _ _ _ _).mono ?_; rintro e w1 ⟨rfl, hB⟩; replace hS := hS.step hB; clear hB)
    have hE := (hS.setCellAt 0 rfl 0 (.int .i64 t)).setCellAt 0 rfl 1 (.int .i64 l)
    refine bodyPost_ret (results_cell_tmp Try.results11 _ _ (w.heap.size + 1 + 1) 26 (bkt t l) _ rfl (hE.get 0 rfl) Try.underlying26 rfl (by kernel_rfl)) rfl ?_
    refine ⟨?_, hE.below⟩
    rw [HT.out, HB.out]
    rfl

def untilV (c : Nat → Int) (t l now : Int) : Int := if bchkV c t l && tickV now then (if 0 < levelV c t l now then 0 else max (l - now) 0 + 1) else -1

theorem until_any (c : Nat → Int) (s t l now : Int) (w : World) :
    Calls Try.prog 13 #[.agg (cfgCells c s), .agg (bkt t l), .int .i64 now] w fun e w' => e = .returned (.int .i64 (untilV c t l now)) ∧ Below w.heap.size w w' := by
  have hS := bstart c s t l w
  have Q0 := bL c s t l w
  have Q1 := bT c s t l w
  have Q2 := bA c s t l w
  cases hb : bchkV c t l
  · have H := Lib.hid hb
    have HT := Lib.hid (show untilV c t l now = -1 by unfold untilV; rw [hb]; rfl)
    clear hb
    go_enter Try.func13, Try.ntmps13
    go_wp2_with (go_at_call 8; refine (bcheck_any _ _ _ _ _).mono ?_; rintro e w1 ⟨rfl, hB⟩; rw [H.out]; replace hS := hS.step hB; clear hB)
    go_ret
    exact ⟨ret_int HT.out.symm, hS.below⟩
  · have H := Lib.hid hb
    cases hn : tickV now
    · have H' := Lib.hid hn
      have HT := Lib.hid (show untilV c t l now = -1 by unfold untilV; rw [hb, hn]; rfl)
      clear hb hn
      go_enter Try.func13, Try.ntmps13
      go_wp2_with (first | (go_at_call 8; refine (bcheck_any _ _ _ _ _).mono ?_; rintro e w1 ⟨rfl, hB⟩; rw [H.out]; replace hS := hS.step hB; clear hB) | (go_at_call 17; refine (tick_any _ _).mono ?_; rintro e w2 ⟨rfl, rfl⟩; rw [H'.out]))
      go_ret
      exact ⟨ret_int HT.out.symm, hS.below⟩
    · have H' := Lib.hid hn
      obtain ⟨hg, b1, b2, b3, b4⟩ := bchk_true hb
      obtain ⟨n1, n2⟩ := tick_true hn
      clear hg
      by_cases hl : 0 < levelV c t l now
      · have HT := Lib.hid (show untilV c t l now = 0 by unfold untilV; rw [hb, hn, if_pos hl]; rfl)
        clear hb hn
        go_enter Try.func13, Try.ntmps13
        go_wp2_with (first | (go_at_call 8; refine (bcheck_any _ _ _ _ _).mono ?_; rintro e w1 ⟨rfl, hB⟩; rw [H.out]; replace hS := hS.step hB; clear hB) | (go_at_call 17; refine (tick_any _ _).mono ?_; rintro e w2 ⟨rfl, rfl⟩; rw [H'.out]) | (go_at_call 12; refine (level_any _ _ _ _ _ _).mono ?_; rintro e w1 ⟨rfl, hB⟩; replace hS := hS.step hB; clear hB))
        go_ret
        exact ⟨ret_int HT.out.symm, hS.below⟩
      · have HT := Lib.hid (show untilV c t l now = max (l - now) 0 + 1 by unfold untilV; rw [hb, hn, if_neg hl]; rfl)
        clear hb hn
        by_cases hx : l - now < 0
        all_goals
          go_enter Try.func13, Try.ntmps13
          go_wp2_with (first | (go_at_call 8; refine (bcheck_any _ _ _ _ _).mono ?_; rintro e w1 ⟨rfl, hB⟩; rw [H.out]; replace hS := hS.step hB; clear hB) | (go_at_call 17; refine (tick_any _ _).mono ?_; rintro e w2 ⟨rfl, rfl⟩; rw [H'.out]) | (go_at_call 12; refine (level_any _ _ _ _ _ _).mono ?_; rintro e w1 ⟨rfl, hB⟩; replace hS := hS.step hB; clear hB))
          all_goals
            go_ret
            exact ⟨ret_int (by rw [HT.out]; omega), hS.below⟩

/-! ### the document's -/
theorem rgood13_any (c : Nat → Int) (s t l now : Int) (w : World) :
    Calls Try.prog 9 #[.agg (cfgCells c s), .int .i64 t, .int .i64 l, .int .i64 now] w fun e w' => e = .returned (.bool (bchkV c t l && tickV now)) ∧ Below w.heap.size w w' := by
  have hS := (St.nil w).alloc 24 (cfgCells c s)
  have Q0 := St.loadC (L := [(w.heap.size, 24, cfgCells c s)]) (w0 := w) 0 rfl
  have Q1 := St.cell (L := [(w.heap.size, 24, cfgCells c s)]) (w0 := w) 0 rfl 7 rfl
  cases hg : good c
  · have HT := Lib.hid (show (bchkV c t l && tickV now) = false by unfold bchkV; rw [hg]; rfl)
    go_enter Try.func9, Try.ntmps9
    go_wp2_with (go_at_call 18; refine (rgood_any _ _ _).mono ?_; rintro e w1 ⟨rfl, hB⟩; replace hS := hS.step hB; clear hB)
    go_ret
    exact ⟨ret_bool HT.out.symm, hS.below⟩
  · have HT := Lib.hid (show (bchkV c t l && tickV now) = (decide (0 ≤ t) && (decide (t ≤ c 7) && (decide (0 ≤ l) && decide (l ≤ 1073741824))) && (decide (0 ≤ now) && decide (now ≤ 1073741824))) by unfold bchkV tickV; rw [hg]; rfl)
    have H := Lib.hid hg
    clear hg
    by_cases h1 : 0 ≤ t
    all_goals by_cases h2 : t ≤ c 7
    all_goals by_cases h3 : 0 ≤ l
    all_goals by_cases h4 : l ≤ 1073741824
    all_goals by_cases h5 : 0 ≤ now
    all_goals (try (exfalso; omega))
    all_goals
      go_enter Try.func9, Try.ntmps9
      go_wp2_with (go_at_call 18; refine (rgood_any _ _ _).mono ?_; rintro e w1 ⟨rfl, hB⟩; rw [H.out]; replace hS := hS.step hB; clear hB)
      all_goals
        go_ret
        exact ⟨ret_bool (by rw [HT.out]; refine Bool.eq_iff_iff.2 ⟨fun hh => ?_, fun hh => ?_⟩ <;> simp only [Bool.and_eq_true, decide_eq_true_eq, Bool.false_eq_true] at hh ⊢ <;> omega), hS.below⟩

theorem rlevel_any (c : Nat → Int) (s t l now : Int) (w : World) :
    Calls Try.prog 10 #[.agg (cfgCells c s), .int .i64 t, .int .i64 l, .int .i64 now] w fun e w' => e = .returned (.int .i64 (levelV c t l now)) ∧ Below w.heap.size w w' := by
  have hS := (St.nil w).alloc 24 (cfgCells c s)
  have Q0 := St.loadC (L := [(w.heap.size, 24, cfgCells c s)]) (w0 := w) 0 rfl
  have Q1 := St.cell (L := [(w.heap.size, 24, cfgCells c s)]) (w0 := w) 0 rfl 7 rfl
  have Q2 := St.cell (L := [(w.heap.size, 24, cfgCells c s)]) (w0 := w) 0 rfl 8 rfl
  cases h : (bchkV c t l && tickV now)
  · have HT := Lib.hid (show levelV c t l now = 0 by unfold levelV; rw [h]; rfl)
    have H := Lib.hid h
    clear h
    go_enter Try.func10, Try.ntmps10
    go_wp2_with (go_at_call 9; refine (rgood13_any _ _ _ _ _ _).mono ?_; rintro e w1 ⟨rfl, hB⟩; rw [H.out]; replace hS := hS.step hB; clear hB)
    go_ret
    exact ⟨ret_int HT.out.symm, hS.below⟩
  · have H := Lib.hid h
    have HT := Lib.hid (show levelV c t l now = min (c 7) (t + c 8 * max 0 (now - l)) by unfold levelV; rw [h]; rfl)
    obtain ⟨hb, hn⟩ := Bool.and_eq_true_iff.1 h
    obtain ⟨hg, b1, b2, b3, b4⟩ := bchk_true hb
    obtain ⟨n1, n2⟩ := tick_true hn
    obtain ⟨⟨c1, c2⟩, c3, c4⟩ := good_br hg
    clear h hb hn hg
    by_cases hl : l < now
    · have hm := mul_bd (a := c 8) (b := now - l) (A := 1024) (B := 1073741824) (by omega) (by omega) (by omega) (by omega)
      have hm1 := hm.1
      have hm2 : c 8 * (now - l) ≤ 1099511627776 := hm.2
      clear hm
      by_cases hx : c 7 < t + c 8 * (now - l)
      all_goals
        go_enter Try.func10, Try.ntmps10
        go_wp2_with (go_at_call 9; refine (rgood13_any _ _ _ _ _ _).mono ?_; rintro e w1 ⟨rfl, hB⟩; rw [H.out]; replace hS := hS.step hB; clear hB)
        go_ret
        exact ⟨ret_int (by rw [HT.out, show max 0 (now - l) = now - l by omega]; omega), hS.below⟩
    · go_enter Try.func10, Try.ntmps10
      go_wp2_with (go_at_call 9; refine (rgood13_any _ _ _ _ _ _).mono ?_; rintro e w1 ⟨rfl, hB⟩; rw [H.out]; replace hS := hS.step hB; clear hB)
      go_ret
      exact ⟨ret_int (by rw [HT.out, show max 0 (now - l) = 0 by omega, Int.mul_zero]; omega), hS.below⟩
end Go.Proofs.Ytaalcdjhbbdadaa
