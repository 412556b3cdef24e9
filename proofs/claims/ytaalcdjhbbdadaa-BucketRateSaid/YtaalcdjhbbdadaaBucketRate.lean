/- The statement BucketRate, walked: for every configuration and row of numbers the Go law returns true, and nothing that was in memory is changed. -/
import Derived.Test.YtaalcdjhbbdadaaRateMath
import Derived.Test.YtaalcdjhbbdadaaBucketGrows
import Derived.Test.YtaalcdjhbbdadaaOwn
import Derived.Test.YtaalcdjhbbdadaaOpenInts
import Derived.Deep.LoopGhost
import Derived.Deep.DrawnRows
namespace Go.Proofs.Ytaalcdjhbbdadaa
open Go.RowKit
attribute [local go_sem ↓] Go.wp_at_zero Go.wp_at_succ

theorem infoInt : (Try.prog.info? 3).map (fun i => (i.zero, i.size, i.bytes)) = some (some (.int .i64 0), 1, 8) := by kernel_rfl

theorem rate_row {w : World} {L : List (Nat × TypeId × Array Value)} {v : Value} {ts : List Int} {x : Int} {wr : World} (h : SR w L [⟨v, 3, 1, ts.length + 1, ts.map (Value.int .i64) ++ [.int .i64 x]⟩] wr) :
    ∃ g cp, v = .slice (some ⟨g, 0, none⟩) (ts.length + 1) cp ∧ SR w L [⟨.slice (some ⟨g, 0, none⟩) (ts ++ [x]).length cp, 3, 1, (ts ++ [x]).length, (ts ++ [x]).map (Value.int .i64)⟩] wr := by
  rcases h.form 0 rfl with ⟨_, h0⟩ | ⟨g, cp, hv, _⟩
  · cases h0
  · have hv' : v = .slice (some ⟨g, 0, none⟩) (ts.length + 1) cp := hv
    subst hv'
    exact ⟨g, cp, rfl, by simpa using h⟩

set_option maxRecDepth 100000 in
set_option maxHeartbeats 2000000 in
theorem rate_long (c : Nat → Int) (s : Int) (zs : List Int) (A : Option Addr) (cap : Nat) (w : World) (hn : 200 < zs.length) (hm : zs.length ≤ 9223372036854775807) :
    Calls Try.prog 4 #[.agg (cfgCells c s), .slice A zs.length cap] w fun e w' => e = .returned (.bool true) ∧ Below w.heap.size w w' := by
  have hS := (St.nil w).alloc 24 (cfgCells c s)
  have h1 : (200 : Int) < (zs.length : Int) := by omega
  go_enter Try.func4, Try.ntmps4
  go_wp2_with (go_at_call 6; refine (awake13 _).mono ?_; rintro e w9 ⟨rfl, hB⟩; replace hS := hS.step hB; clear hB)
  go_ret
  exact ⟨rfl, hS.below⟩

set_option maxRecDepth 100000 in
set_option maxHeartbeats 2000000 in
theorem rate_bad (c : Nat → Int) (s : Int) (zs : List Int) (A : Option Addr) (cap : Nat) (w : World) (hn : zs.length ≤ 200) (hg : good c = false) :
    Calls Try.prog 4 #[.agg (cfgCells c s), .slice A zs.length cap] w fun e w' => e = .returned (.bool true) ∧ Below w.heap.size w w' := by
  have hS := (St.nil w).alloc 24 (cfgCells c s)
  have HL := St.loadC (L := [(w.heap.size, 24, cfgCells c s)]) (w0 := w) 0 rfl
  have HK := Lib.hid (show bchkV c (c 7) 0 = false by unfold bchkV; rw [hg]; rfl)
  have HU := Lib.hid (show untilV c (c 7) 0 0 = -1 by unfold untilV; rw [HK.out]; rfl)
  have h1 : (zs.length : Int) ≤ 200 := by omega
  clear hg
  go_enter Try.func4, Try.ntmps4
  go_wp2_with (go_at_call 6; refine (awake13 _).mono ?_; rintro e w9 ⟨rfl, hB⟩; replace hS := hS.step hB; clear hB)
  refine (new_any _ _ _ _).mono ?_
  rintro e w2 ⟨rfl, hB⟩
  replace hS := hS.step hB
  clear hB HL
  have hS2 := hS.alloc 26 (bkt (c 7) 0)
  have HL := St.loadC (L := [(w2.heap.size, 26, bkt (c 7) 0), (w.heap.size, 24, cfgCells c s)]) (w0 := w) 1 rfl
  have Q1 := St.cell (L := [(w2.heap.size, 26, bkt (c 7) 0), (w.heap.size, 24, cfgCells c s)]) (w0 := w) 0 rfl 0 rfl
  have Q2 := St.cell (L := [(w2.heap.size, 26, bkt (c 7) 0), (w.heap.size, 24, cfgCells c s)]) (w0 := w) 0 rfl 1 rfl
  clear hS
  go_wp2_with (first
    | (go_at_call 8; refine (bcheck_is s HK.out _).mono ?_; rintro e w9 ⟨rfl, hB⟩; replace hS2 := hS2.step hB; clear hB)
    | (go_at_call 13; refine (until_is s HU.out _).mono ?_; rintro e w9 ⟨rfl, hB⟩; replace hS2 := hS2.step hB; clear hB))
  go_ret
  exact ⟨rfl, hS2.below⟩

set_option maxRecDepth 100000 in
set_option maxHeartbeats 4000000 in
theorem rate_good (c : Nat → Int) (s : Int) (zs : List Int) (A : Option Addr) (cap : Nat) (w : World) (hn : zs.length ≤ 200) (hg : good c = true) (hA : ∀ k, k < zs.length → ∃ b o, A = some ⟨b, o, none⟩ ∧ b < w.heap.size ∧ w.cell? ⟨b, o + k, none⟩ = some (.int .i64 (zs.getD k 0))) :
    Calls Try.prog 4 #[.agg (cfgCells c s), .slice A zs.length cap] w fun e w' => e = .returned (.bool true) ∧ Below w.heap.size w w' := by
  have hS := (St.nil w).alloc 24 (cfgCells c s)
  have HL := St.loadC (L := [(w.heap.size, 24, cfgCells c s)]) (w0 := w) 0 rfl
  obtain ⟨⟨c1, c2⟩, c3, c4⟩ := good_br hg
  have hk0 := bchk_mk hg (t := c 7) (l := 0) (by omega) (Int.le_refl _) (by omega) (by omega)
  have HK := Lib.hid hk0
  have HA := Lib.hid hA
  have h1 : (zs.length : Int) ≤ 200 := by omega
  have HN := Lib.hid hn
  clear hg hk0 hA hn
  go_enter Try.func4, Try.ntmps4
  go_wp2_with (go_at_call 6; refine (awake13 _).mono ?_; rintro e w9 ⟨rfl, hB⟩; replace hS := hS.step hB; clear hB)
  refine (new_any _ _ _ _).mono ?_
  rintro e w2 ⟨rfl, hB⟩
  replace hS := hS.step hB
  clear hB HL
  have hS2 := hS.alloc 26 (bkt (c 7) 0)
  have HL := St.loadC (L := [(w2.heap.size, 26, bkt (c 7) 0), (w.heap.size, 24, cfgCells c s)]) (w0 := w) 1 rfl
  have Q1 := St.cell (L := [(w2.heap.size, 26, bkt (c 7) 0), (w.heap.size, 24, cfgCells c s)]) (w0 := w) 0 rfl 0 rfl
  have Q2 := St.cell (L := [(w2.heap.size, 26, bkt (c 7) 0), (w.heap.size, 24, cfgCells c s)]) (w0 := w) 0 rfl 1 rfl
  clear hS
  go_wp2_with (go_at_call 8; refine (bcheck_is s HK.out _).mono ?_; rintro e w3 ⟨rfl, hB⟩; replace hS2 := hS2.step hB; clear hB)
  have hW0 := (SR.ofSt hS2).newRow 3 1 0 #[] (by unfold maxLen; omega) rfl
  have hW : SR w [(w2.heap.size, 26, bkt (c 7) 0), (w.heap.size, 24, cfgCells c s)] [⟨.slice (some ⟨w3.heap.size, 0, none⟩) 0 0, 3, 1, 0, []⟩] (w3.alloc (.cells #[] 3)) := hW0
  clear hW0 hS2 HL Q1 Q2
  generalize w2.heap.size = gb at hW ⊢
  generalize w3.heap.size = gs at hW ⊢
  generalize w3.alloc (.cells #[] 3) = w4 at hW ⊢
  go_loopg [6, 7, 8] zs.length (fun m nowv v i wr => ∃ (k : Nat) (ts : List Int) (t l now : Int) (g cp : Nat), m + k = zs.length ∧ i = .int .i64 k ∧ nowv = .int .i64 now ∧ v = .slice (some ⟨g, 0, none⟩) ts.length cp ∧ ts.length ≤ k ∧
      SR w [(gb, 26, bkt t l), (w.heap.size, 24, cfgCells c s)] [⟨.slice (some ⟨g, 0, none⟩) ts.length cp, 3, 1, ts.length, ts.map (Value.int .i64)⟩] wr ∧ bchkV c t l = true ∧ l ≤ now ∧ now ≤ 3 * (k : Int) ∧ RI c ts t l)
  case atStart => exact ⟨0, [], c 7, 0, 0, gs, 0, by omega, rfl, rfl, rfl, by simp, hW, HK.out, by omega, by omega, RI.nil _ _ _⟩
  case round =>
    clear hW
    obtain ⟨k, ts, t, l, now, g, cp, hk, rfl, rfl, rfl, htk, hR, hb, hl, hnow, hI⟩ := hrel
    have HI := Lib.hid hI
    have HB0 := Lib.hid hb
    obtain ⟨hgd, b1, b2, b3, b4⟩ := bchk_true hb
    clear hgd hI hb
    by_cases hlt : k < zs.length
    · obtain ⟨b, o, rfl, hbw, hcell0⟩ := HA.out k hlt
      obtain ⟨z, hz⟩ : ∃ z, zs.getD k 0 = z := ⟨_, rfl⟩
      rw [hz] at hcell0
      have hcell := (hR.oldCell hbw).trans hcell0
      obtain ⟨m, hm4, hm⟩ := mod4 z
      have hkz : (k : Int) < (zs.length : Int) := by omega
      have hk0 : (0 : Int) ≤ (k : Int) := by omega
      have hm0 : (0 : Int) ≤ (m : Int) := by omega
      have hm1 : (m : Int) < 4 := by omega
      have HT := Lib.hid (tick_mk (n := now + m) (by omega) (by omega))
      have HTK := Lib.hid htk
      have HKK := Lib.hid hk
      have HLT := Lib.hid hlt
      have htz : ts.length ≤ 200 := by omega
      clear hz hcell0 hm4 htk hk hlt
      by_cases hlev : 1 ≤ levelV c t l (now + m)
      · have HL0 := Lib.hid hlev
        obtain ⟨n, hn⟩ : ∃ n, levelV c t l (now + m) = n := ⟨_, rfl⟩
        have hlb := level_bd c t l (now + m)
        rw [hn] at hlb hlev
        obtain ⟨n0, n1⟩ := hlb
        have HR := Lib.hid (show takeV c t l (now + m) = bkt (n - 1) (now + m) by unfold takeV; rw [hn, if_pos hlev, show max (now + m) l = now + m by omega])
        have HD := Lib.hid (show decide (1 ≤ levelV c t l (now + m)) = true by rw [hn]; exact decide_eq_true hlev)
        have HU := Lib.hid (until_zero HB0.out HT.out HL0.out)
        have HC := Lib.hid (show bchkV c (n - 1) (now + m) = true by have := taken_ok HB0.out HT.out HL0.out; rwa [hn, show max (now + m) l = now + m by omega] at this)
        have HN' := Lib.hid hn
        clear hn
        have HC1 := SR.cell (L := [(gb, 26, bkt t l), (w.heap.size, 24, cfgCells c s)]) (R := [⟨.slice (some ⟨g, 0, none⟩) ts.length cp, 3, 1, ts.length, ts.map (Value.int .i64)⟩]) (w0 := w) 0 rfl 0 rfl
        have HC2 := SR.cell (L := [(gb, 26, bkt t l), (w.heap.size, 24, cfgCells c s)]) (R := [⟨.slice (some ⟨g, 0, none⟩) ts.length cp, 3, 1, ts.length, ts.map (Value.int .i64)⟩]) (w0 := w) 0 rfl 1 rfl
        have HL3 := SR.loadC (L := [(gb, 26, bkt t l), (w.heap.size, 24, cfgCells c s)]) (R := [⟨.slice (some ⟨g, 0, none⟩) ts.length cp, 3, 1, ts.length, ts.map (Value.int .i64)⟩]) (w0 := w) 1 rfl
        go_wp2_with fail
        refine (until_is s HU.out _).mono ?_
        rintro e w4 ⟨rfl, hB⟩
        clear hcell
        replace hR := SR.step hR hB
        clear hB
        go_wp2_with fail
        refine (take_is s HR.out HD.out _).mono ?_
        rintro e w5 ⟨rfl, hB⟩
        replace hR := SR.step hR hB
        clear hB
        go_wp2_with (refine store_newR hR rfl rfl 26 _ _ rfl 26 _ (bkt (n - 1) (now + m)) rfl rfl (by kernel_rfl) rfl (by simp [Value.oneCell']) ?_; intro w6 hS7 hlt; clear hR HC1 HC2 HL3; generalize w5.heap.size = gd at hS7 hlt ⊢; clear hlt; have HC8 := SR.cell (L := [(gd, 26, (bkt (n - 1) (now + m))), (gb, 26, bkt t l), (w.heap.size, 24, cfgCells c s)]) (R := [⟨.slice (some ⟨g, 0, none⟩) ts.length cp, 3, 1, ts.length, ts.map (Value.int .i64)⟩]) (w0 := w) 0 rfl 0 rfl; have HC9 := SR.cell (L := [(gd, 26, (bkt (n - 1) (now + m))), (gb, 26, bkt t l), (w.heap.size, 24, cfgCells c s)]) (R := [⟨.slice (some ⟨g, 0, none⟩) ts.length cp, 3, 1, ts.length, ts.map (Value.int .i64)⟩]) (w0 := w) 0 rfl 1 rfl; have HC10 := SR.cell (L := [(gd, 26, (bkt (n - 1) (now + m))), (gb, 26, bkt t l), (w.heap.size, 24, cfgCells c s)]) (R := [⟨.slice (some ⟨g, 0, none⟩) ts.length cp, 3, 1, ts.length, ts.map (Value.int .i64)⟩]) (w0 := w) 1 rfl 0 rfl; have HC11 := SR.cell (L := [(gd, 26, (bkt (n - 1) (now + m))), (gb, 26, bkt t l), (w.heap.size, 24, cfgCells c s)]) (R := [⟨.slice (some ⟨g, 0, none⟩) ts.length cp, 3, 1, ts.length, ts.map (Value.int .i64)⟩]) (w0 := w) 1 rfl 1 rfl; have HL12 := SR.loadC (L := [(gd, 26, (bkt (n - 1) (now + m))), (gb, 26, bkt t l), (w.heap.size, 24, cfgCells c s)]) (R := [⟨.slice (some ⟨g, 0, none⟩) ts.length cp, 3, 1, ts.length, ts.map (Value.int .i64)⟩]) (w0 := w) 2 rfl)
        go_wp2_with fail
        refine (bcheck_is s HC.out _).mono ?_
        rintro e w13 ⟨rfl, hB⟩
        replace hS7 := SR.step hS7 hB
        clear hB
        go_wp2_with fail
        refine (take_is s HR.out HD.out _).mono ?_
        rintro e w14 ⟨rfl, hB⟩
        replace hS7 := SR.step hS7 hB
        clear hB
        go_wp2_with (first | (refine store_newR hS7 rfl rfl 26 _ _ rfl 26 _ (bkt (n - 1) (now + m)) rfl rfl (by kernel_rfl) rfl (by simp [Value.oneCell']) ?_; intro w15 hS16 hlt; clear hS7 HC8 HC9 HC10 HC11 HL12; generalize w14.heap.size = gx at hS16 hlt ⊢; clear hlt; have HC17 := SR.cell (L := [(gx, 26, (bkt (n - 1) (now + m))), (gd, 26, (bkt (n - 1) (now + m))), (gb, 26, bkt t l), (w.heap.size, 24, cfgCells c s)]) (R := [⟨.slice (some ⟨g, 0, none⟩) ts.length cp, 3, 1, ts.length, ts.map (Value.int .i64)⟩]) (w0 := w) 0 rfl 0 rfl; have HC18 := SR.cell (L := [(gx, 26, (bkt (n - 1) (now + m))), (gd, 26, (bkt (n - 1) (now + m))), (gb, 26, bkt t l), (w.heap.size, 24, cfgCells c s)]) (R := [⟨.slice (some ⟨g, 0, none⟩) ts.length cp, 3, 1, ts.length, ts.map (Value.int .i64)⟩]) (w0 := w) 0 rfl 1 rfl; have HC19 := SR.cell (L := [(gx, 26, (bkt (n - 1) (now + m))), (gd, 26, (bkt (n - 1) (now + m))), (gb, 26, bkt t l), (w.heap.size, 24, cfgCells c s)]) (R := [⟨.slice (some ⟨g, 0, none⟩) ts.length cp, 3, 1, ts.length, ts.map (Value.int .i64)⟩]) (w0 := w) 1 rfl 0 rfl; have HC20 := SR.cell (L := [(gx, 26, (bkt (n - 1) (now + m))), (gd, 26, (bkt (n - 1) (now + m))), (gb, 26, bkt t l), (w.heap.size, 24, cfgCells c s)]) (R := [⟨.slice (some ⟨g, 0, none⟩) ts.length cp, 3, 1, ts.length, ts.map (Value.int .i64)⟩]) (w0 := w) 1 rfl 1 rfl; have HC21 := SR.cell (L := [(gx, 26, (bkt (n - 1) (now + m))), (gd, 26, (bkt (n - 1) (now + m))), (gb, 26, bkt t l), (w.heap.size, 24, cfgCells c s)]) (R := [⟨.slice (some ⟨g, 0, none⟩) ts.length cp, 3, 1, ts.length, ts.map (Value.int .i64)⟩]) (w0 := w) 2 rfl 0 rfl; have HC22 := SR.cell (L := [(gx, 26, (bkt (n - 1) (now + m))), (gd, 26, (bkt (n - 1) (now + m))), (gb, 26, bkt t l), (w.heap.size, 24, cfgCells c s)]) (R := [⟨.slice (some ⟨g, 0, none⟩) ts.length cp, 3, 1, ts.length, ts.map (Value.int .i64)⟩]) (w0 := w) 2 rfl 1 rfl; have HL23 := SR.loadC (L := [(gx, 26, (bkt (n - 1) (now + m))), (gd, 26, (bkt (n - 1) (now + m))), (gb, 26, bkt t l), (w.heap.size, 24, cfgCells c s)]) (R := [⟨.slice (some ⟨g, 0, none⟩) ts.length cp, 3, 1, ts.length, ts.map (Value.int .i64)⟩]) (w0 := w) 3 rfl) | (at_builtin; refine app_row (SR.old hS16 _) rfl _ _ 36 rfl (.int .i64 0) 8 Try.underlying36 infoInt rfl (by show 0 < 1; omega) rfl _ #[.int .i64 (now + m)] 3 rfl (Blk.new _ _ _) rfl (by simp [Value.oneCell']) (by (try simp only); omega) (by omega) ?_; intro v9 w24 hS25; have hS25' : SR w [(gx, 26, (bkt (n - 1) (now + m))), (gd, 26, (bkt (n - 1) (now + m))), (gb, 26, bkt t l), (w.heap.size, 24, cfgCells c s)] [⟨v9, 3, 1, ts.length + 1, ts.map (Value.int .i64) ++ [.int .i64 (now + m)]⟩] w24 := hS25; clear hS16 HC17 HC18 HC19 HC20 HC21 HC22 HL23 hS25; have HC26 := SR.cell (L := [(gx, 26, (bkt (n - 1) (now + m))), (gd, 26, (bkt (n - 1) (now + m))), (gb, 26, bkt t l), (w.heap.size, 24, cfgCells c s)]) (R := [⟨v9, 3, 1, ts.length + 1, ts.map (Value.int .i64) ++ [.int .i64 (now + m)]⟩]) (w0 := w) 0 rfl 0 rfl; have HC27 := SR.cell (L := [(gx, 26, (bkt (n - 1) (now + m))), (gd, 26, (bkt (n - 1) (now + m))), (gb, 26, bkt t l), (w.heap.size, 24, cfgCells c s)]) (R := [⟨v9, 3, 1, ts.length + 1, ts.map (Value.int .i64) ++ [.int .i64 (now + m)]⟩]) (w0 := w) 0 rfl 1 rfl; have HC28 := SR.cell (L := [(gx, 26, (bkt (n - 1) (now + m))), (gd, 26, (bkt (n - 1) (now + m))), (gb, 26, bkt t l), (w.heap.size, 24, cfgCells c s)]) (R := [⟨v9, 3, 1, ts.length + 1, ts.map (Value.int .i64) ++ [.int .i64 (now + m)]⟩]) (w0 := w) 1 rfl 0 rfl; have HC29 := SR.cell (L := [(gx, 26, (bkt (n - 1) (now + m))), (gd, 26, (bkt (n - 1) (now + m))), (gb, 26, bkt t l), (w.heap.size, 24, cfgCells c s)]) (R := [⟨v9, 3, 1, ts.length + 1, ts.map (Value.int .i64) ++ [.int .i64 (now + m)]⟩]) (w0 := w) 1 rfl 1 rfl; have HC30 := SR.cell (L := [(gx, 26, (bkt (n - 1) (now + m))), (gd, 26, (bkt (n - 1) (now + m))), (gb, 26, bkt t l), (w.heap.size, 24, cfgCells c s)]) (R := [⟨v9, 3, 1, ts.length + 1, ts.map (Value.int .i64) ++ [.int .i64 (now + m)]⟩]) (w0 := w) 2 rfl 0 rfl; have HC31 := SR.cell (L := [(gx, 26, (bkt (n - 1) (now + m))), (gd, 26, (bkt (n - 1) (now + m))), (gb, 26, bkt t l), (w.heap.size, 24, cfgCells c s)]) (R := [⟨v9, 3, 1, ts.length + 1, ts.map (Value.int .i64) ++ [.int .i64 (now + m)]⟩]) (w0 := w) 2 rfl 1 rfl; have HL32 := SR.loadC (L := [(gx, 26, (bkt (n - 1) (now + m))), (gd, 26, (bkt (n - 1) (now + m))), (gb, 26, bkt t l), (w.heap.size, 24, cfgCells c s)]) (R := [⟨v9, 3, 1, ts.length + 1, ts.map (Value.int .i64) ++ [.int .i64 (now + m)]⟩]) (w0 := w) 3 rfl) | (refine store_atR hS25' rfl rfl 26 _ _ rfl 2 gb 26 (bkt t l) (bkt (n - 1) (now + m)) rfl rfl rfl (by kernel_rfl) rfl (by simp [Value.oneCell']) ?_; intro w33 hS34; have hS34' : SR w [(gx, 26, (bkt (n - 1) (now + m))), (gd, 26, (bkt (n - 1) (now + m))), (gb, 26, bkt (n - 1) (now + m)), (w.heap.size, 24, cfgCells c s)] [⟨v9, 3, 1, ts.length + 1, ts.map (Value.int .i64) ++ [.int .i64 (now + m)]⟩] w33 := hS34; clear hS25' HC26 HC27 HC28 HC29 HC30 HC31 HL32 hS34; have HC35 := SR.cell (L := [(gx, 26, (bkt (n - 1) (now + m))), (gd, 26, (bkt (n - 1) (now + m))), (gb, 26, bkt (n - 1) (now + m)), (w.heap.size, 24, cfgCells c s)]) (R := [⟨v9, 3, 1, ts.length + 1, ts.map (Value.int .i64) ++ [.int .i64 (now + m)]⟩]) (w0 := w) 0 rfl 0 rfl; have HC36 := SR.cell (L := [(gx, 26, (bkt (n - 1) (now + m))), (gd, 26, (bkt (n - 1) (now + m))), (gb, 26, bkt (n - 1) (now + m)), (w.heap.size, 24, cfgCells c s)]) (R := [⟨v9, 3, 1, ts.length + 1, ts.map (Value.int .i64) ++ [.int .i64 (now + m)]⟩]) (w0 := w) 0 rfl 1 rfl; have HC37 := SR.cell (L := [(gx, 26, (bkt (n - 1) (now + m))), (gd, 26, (bkt (n - 1) (now + m))), (gb, 26, bkt (n - 1) (now + m)), (w.heap.size, 24, cfgCells c s)]) (R := [⟨v9, 3, 1, ts.length + 1, ts.map (Value.int .i64) ++ [.int .i64 (now + m)]⟩]) (w0 := w) 1 rfl 0 rfl; have HC38 := SR.cell (L := [(gx, 26, (bkt (n - 1) (now + m))), (gd, 26, (bkt (n - 1) (now + m))), (gb, 26, bkt (n - 1) (now + m)), (w.heap.size, 24, cfgCells c s)]) (R := [⟨v9, 3, 1, ts.length + 1, ts.map (Value.int .i64) ++ [.int .i64 (now + m)]⟩]) (w0 := w) 1 rfl 1 rfl; have HC39 := SR.cell (L := [(gx, 26, (bkt (n - 1) (now + m))), (gd, 26, (bkt (n - 1) (now + m))), (gb, 26, bkt (n - 1) (now + m)), (w.heap.size, 24, cfgCells c s)]) (R := [⟨v9, 3, 1, ts.length + 1, ts.map (Value.int .i64) ++ [.int .i64 (now + m)]⟩]) (w0 := w) 2 rfl 0 rfl; have HC40 := SR.cell (L := [(gx, 26, (bkt (n - 1) (now + m))), (gd, 26, (bkt (n - 1) (now + m))), (gb, 26, bkt (n - 1) (now + m)), (w.heap.size, 24, cfgCells c s)]) (R := [⟨v9, 3, 1, ts.length + 1, ts.map (Value.int .i64) ++ [.int .i64 (now + m)]⟩]) (w0 := w) 2 rfl 1 rfl; have HL41 := SR.loadC (L := [(gx, 26, (bkt (n - 1) (now + m))), (gd, 26, (bkt (n - 1) (now + m))), (gb, 26, bkt (n - 1) (now + m)), (w.heap.size, 24, cfgCells c s)]) (R := [⟨v9, 3, 1, ts.length + 1, ts.map (Value.int .i64) ++ [.int .i64 (now + m)]⟩]) (w0 := w) 3 rfl))
        go_roundg (gk - 1)
        case measure => have := HKK.out; have := HLT.out; omega
        case rel =>
          obtain ⟨g9, cp9, rfl, hR9⟩ := rate_row hS34'
          have hl9 : (ts ++ [now + (m : Int)]).length ≤ k + 1 := by have := HTK.out; simp; omega
          exact ⟨k + 1, ts ++ [now + m], n - 1, now + m, now + m, g9, cp9, by have := HKK.out; have := HLT.out; omega, by go_num, rfl, by simp, hl9, hR9.sub ((List.sublist_cons_self _ _).trans (List.sublist_cons_self _ _)), HC.out, Int.le_refl _, by omega, by have := RI.take HI.out HB0.out HT.out (by omega) HL0.out; rwa [HN'.out] at this⟩
      · have HL0 := Lib.hid hlev
        have HT1 := Lib.hid (tick_mk (n := now + m + 1) (by omega) (by omega))
        obtain ⟨n, hn⟩ : ∃ n, levelV c t l (now + m + 1) = n := ⟨_, rfl⟩
        have hlb := level_bd c t l (now + m + 1)
        have hl1 := wait_level (c := c) (t := t) (l := l) (now := now + m) HB0.out HT1.out (by omega)
        rw [hn] at hlb hl1
        obtain ⟨n0, n1⟩ := hlb
        have HR := Lib.hid (show takeV c t l (now + m) = bkt t l by unfold takeV; rw [if_neg hlev])
        have HD := Lib.hid (show decide (1 ≤ levelV c t l (now + m)) = false from decide_eq_false hlev)
        have HU := Lib.hid (until_one HB0.out HT.out hlev (by omega))
        have HR1 := Lib.hid (show takeV c t l (now + m + 1) = bkt (n - 1) (now + m + 1) by unfold takeV; rw [hn, if_pos hl1, show max (now + m + 1) l = now + m + 1 by omega])
        have HD1 := Lib.hid (show decide (1 ≤ levelV c t l (now + m + 1)) = true by rw [hn]; exact decide_eq_true hl1)
        clear hn hlev hl1
        have HC1 := SR.cell (L := [(gb, 26, bkt t l), (w.heap.size, 24, cfgCells c s)]) (R := [⟨.slice (some ⟨g, 0, none⟩) ts.length cp, 3, 1, ts.length, ts.map (Value.int .i64)⟩]) (w0 := w) 0 rfl 0 rfl
        have HC2 := SR.cell (L := [(gb, 26, bkt t l), (w.heap.size, 24, cfgCells c s)]) (R := [⟨.slice (some ⟨g, 0, none⟩) ts.length cp, 3, 1, ts.length, ts.map (Value.int .i64)⟩]) (w0 := w) 0 rfl 1 rfl
        have HL3 := SR.loadC (L := [(gb, 26, bkt t l), (w.heap.size, 24, cfgCells c s)]) (R := [⟨.slice (some ⟨g, 0, none⟩) ts.length cp, 3, 1, ts.length, ts.map (Value.int .i64)⟩]) (w0 := w) 1 rfl
        go_wp2_with fail
        refine (until_is s HU.out _).mono ?_
        rintro e w4 ⟨rfl, hB⟩
        clear hcell
        replace hR := SR.step hR hB
        clear hB
        go_wp2_with fail
        refine (take_is s HR.out HD.out _).mono ?_
        rintro e w5 ⟨rfl, hB⟩
        replace hR := SR.step hR hB
        clear hB
        go_wp2_with (refine store_newR hR rfl rfl 26 _ _ rfl 26 _ (bkt t l) rfl rfl (by kernel_rfl) rfl (by simp [Value.oneCell']) ?_; intro w6 hS7 hlt; clear hR HC1 HC2 HL3; generalize w5.heap.size = gd at hS7 hlt ⊢; clear hlt; have HC8 := SR.cell (L := [(gd, 26, (bkt t l)), (gb, 26, bkt t l), (w.heap.size, 24, cfgCells c s)]) (R := [⟨.slice (some ⟨g, 0, none⟩) ts.length cp, 3, 1, ts.length, ts.map (Value.int .i64)⟩]) (w0 := w) 0 rfl 0 rfl; have HC9 := SR.cell (L := [(gd, 26, (bkt t l)), (gb, 26, bkt t l), (w.heap.size, 24, cfgCells c s)]) (R := [⟨.slice (some ⟨g, 0, none⟩) ts.length cp, 3, 1, ts.length, ts.map (Value.int .i64)⟩]) (w0 := w) 0 rfl 1 rfl; have HC10 := SR.cell (L := [(gd, 26, (bkt t l)), (gb, 26, bkt t l), (w.heap.size, 24, cfgCells c s)]) (R := [⟨.slice (some ⟨g, 0, none⟩) ts.length cp, 3, 1, ts.length, ts.map (Value.int .i64)⟩]) (w0 := w) 1 rfl 0 rfl; have HC11 := SR.cell (L := [(gd, 26, (bkt t l)), (gb, 26, bkt t l), (w.heap.size, 24, cfgCells c s)]) (R := [⟨.slice (some ⟨g, 0, none⟩) ts.length cp, 3, 1, ts.length, ts.map (Value.int .i64)⟩]) (w0 := w) 1 rfl 1 rfl; have HL12 := SR.loadC (L := [(gd, 26, (bkt t l)), (gb, 26, bkt t l), (w.heap.size, 24, cfgCells c s)]) (R := [⟨.slice (some ⟨g, 0, none⟩) ts.length cp, 3, 1, ts.length, ts.map (Value.int .i64)⟩]) (w0 := w) 2 rfl)
        go_wp2_with fail
        refine (bcheck_is s HB0.out _).mono ?_
        rintro e w13 ⟨rfl, hB⟩
        replace hS7 := SR.step hS7 hB
        clear hB
        go_wp2_with fail
        refine (take_is s HR1.out HD1.out _).mono ?_
        rintro e w14 ⟨rfl, hB⟩
        replace hS7 := SR.step hS7 hB
        clear hB
        go_wp2_with (refine store_newR hS7 rfl rfl 26 _ _ rfl 26 _ (bkt (n - 1) (now + m + 1)) rfl rfl (by kernel_rfl) rfl (by simp [Value.oneCell']) ?_; intro w15 hS16 hlt; clear hS7 HC8 HC9 HC10 HC11 HL12; generalize w14.heap.size = gx at hS16 hlt ⊢; clear hlt; have HC17 := SR.cell (L := [(gx, 26, (bkt (n - 1) (now + m + 1))), (gd, 26, (bkt t l)), (gb, 26, bkt t l), (w.heap.size, 24, cfgCells c s)]) (R := [⟨.slice (some ⟨g, 0, none⟩) ts.length cp, 3, 1, ts.length, ts.map (Value.int .i64)⟩]) (w0 := w) 0 rfl 0 rfl; have HC18 := SR.cell (L := [(gx, 26, (bkt (n - 1) (now + m + 1))), (gd, 26, (bkt t l)), (gb, 26, bkt t l), (w.heap.size, 24, cfgCells c s)]) (R := [⟨.slice (some ⟨g, 0, none⟩) ts.length cp, 3, 1, ts.length, ts.map (Value.int .i64)⟩]) (w0 := w) 0 rfl 1 rfl; have HC19 := SR.cell (L := [(gx, 26, (bkt (n - 1) (now + m + 1))), (gd, 26, (bkt t l)), (gb, 26, bkt t l), (w.heap.size, 24, cfgCells c s)]) (R := [⟨.slice (some ⟨g, 0, none⟩) ts.length cp, 3, 1, ts.length, ts.map (Value.int .i64)⟩]) (w0 := w) 1 rfl 0 rfl; have HC20 := SR.cell (L := [(gx, 26, (bkt (n - 1) (now + m + 1))), (gd, 26, (bkt t l)), (gb, 26, bkt t l), (w.heap.size, 24, cfgCells c s)]) (R := [⟨.slice (some ⟨g, 0, none⟩) ts.length cp, 3, 1, ts.length, ts.map (Value.int .i64)⟩]) (w0 := w) 1 rfl 1 rfl; have HC21 := SR.cell (L := [(gx, 26, (bkt (n - 1) (now + m + 1))), (gd, 26, (bkt t l)), (gb, 26, bkt t l), (w.heap.size, 24, cfgCells c s)]) (R := [⟨.slice (some ⟨g, 0, none⟩) ts.length cp, 3, 1, ts.length, ts.map (Value.int .i64)⟩]) (w0 := w) 2 rfl 0 rfl; have HC22 := SR.cell (L := [(gx, 26, (bkt (n - 1) (now + m + 1))), (gd, 26, (bkt t l)), (gb, 26, bkt t l), (w.heap.size, 24, cfgCells c s)]) (R := [⟨.slice (some ⟨g, 0, none⟩) ts.length cp, 3, 1, ts.length, ts.map (Value.int .i64)⟩]) (w0 := w) 2 rfl 1 rfl; have HL23 := SR.loadC (L := [(gx, 26, (bkt (n - 1) (now + m + 1))), (gd, 26, (bkt t l)), (gb, 26, bkt t l), (w.heap.size, 24, cfgCells c s)]) (R := [⟨.slice (some ⟨g, 0, none⟩) ts.length cp, 3, 1, ts.length, ts.map (Value.int .i64)⟩]) (w0 := w) 3 rfl)
        go_roundg (gk - 1)
        case measure => have := HKK.out; have := HLT.out; omega
        case rel =>
          exact ⟨k + 1, ts, t, l, now + m, g, cp, by have := HKK.out; have := HLT.out; omega, by go_num, rfl, rfl, by have := HTK.out; omega, hS16.sub ((List.sublist_cons_self _ _).trans (List.sublist_cons_self _ _)), HB0.out, by omega, by omega, HI.out⟩
    · obtain rfl : k = zs.length := by omega
      have hnz : now ≤ 600 := by omega
      have htz : ts.length ≤ 200 := by omega
      have hbd := HI.out.bd
      have HBD := Lib.hid hbd
      have HTW := Lib.hid HI.out.two
      clear hlt hk htk hbd
      go_wp2_with fail
      go_loopg [14] ts.length (fun m i wx => ∃ j : Nat, m + j = ts.length ∧ i = .int .i64 j ∧ SR w [(gb, 26, bkt t l), (w.heap.size, 24, cfgCells c s)] [⟨.slice (some ⟨g, 0, none⟩) ts.length cp, 3, 1, ts.length, ts.map (Value.int .i64)⟩] wx)
      case atStart => exact ⟨0, by omega, rfl, hR⟩
      case round =>
        clear hR
        obtain ⟨j, hj, rfl, hR⟩ := hrel
        have hj0 : (0 : Int) ≤ (j : Int) := by omega
        have htl : (ts.length : Int) ≤ 200 := by omega
        by_cases hjl : j < ts.length
        · have hjz : (j : Int) < (ts.length : Int) := by omega
          have HJ := Lib.hid hj
          have HJL := Lib.hid hjl
          clear hj hjl
          go_wp2_with fail
          go_loopg [15] (ts.length - j) (fun m kv wy => ∃ q : Nat, m + q = ts.length ∧ j ≤ q ∧ kv = .int .i64 q ∧ SR w [(gb, 26, bkt t l), (w.heap.size, 24, cfgCells c s)] [⟨.slice (some ⟨g, 0, none⟩) ts.length cp, 3, 1, ts.length, ts.map (Value.int .i64)⟩] wy)
          case atStart => exact ⟨j, by have := HJL.out; omega, Nat.le_refl _, rfl, hR⟩
          case round =>
            clear hR
            obtain ⟨q, hq, hjq, rfl, hR⟩ := hrel
            have hq0 : (0 : Int) ≤ (q : Int) := by omega
            have hjq' : (j : Int) ≤ (q : Int) := by omega
            by_cases hql : q < ts.length
            · have hqz : (q : Int) < (ts.length : Int) := by omega
              obtain ⟨x, hx⟩ : ∃ x, ts.getD q 0 = x := ⟨_, rfl⟩
              obtain ⟨y, hy⟩ : ∃ y, ts.getD j 0 = y := ⟨_, rfl⟩
              have hxb := HBD.out q hql
              have hyb := HBD.out j HJL.out
              have htw := HTW.out j q hjq hql
              rw [hx] at hxb htw
              rw [hy] at hyb htw
              have q1 := hR.item 0 rfl rfl q (u := .int .i64 x) (by rw [← hx]; simp [hql])
              have q2 := hR.item 0 rfl rfl j (u := .int .i64 y) (by rw [← hy]; have := HJL.out; simp [this])
              have q3 := SR.cell (L := [(gb, 26, bkt t l), (w.heap.size, 24, cfgCells c s)]) (R := [⟨.slice (some ⟨g, 0, none⟩) ts.length cp, 3, 1, ts.length, ts.map (Value.int .i64)⟩]) (w0 := w) 1 rfl 7 rfl _ hR
              have q4 := SR.cell (L := [(gb, 26, bkt t l), (w.heap.size, 24, cfgCells c s)]) (R := [⟨.slice (some ⟨g, 0, none⟩) ts.length cp, 3, 1, ts.length, ts.map (Value.int .i64)⟩]) (w0 := w) 1 rfl 8 rfl _ hR
              have hpb := prod_bd (a := c 8) (b := x - y) (by omega) (by omega) (by omega) (by omega)
              have e1 : IntKind.i64.wrap ((q : Int) - j) = (q : Int) - j := IntWalk.i64_in _ (by omega)
              have e2 : IntKind.i64.wrap ((q : Int) - j + 1) = (q : Int) - j + 1 := IntWalk.i64_in _ (by omega)
              have e3 : IntKind.i64.wrap (x - y) = x - y := IntWalk.i64_in _ (by omega)
              have e4 : IntKind.i64.wrap (c 8 * (x - y)) = c 8 * (x - y) := IntWalk.i64_in _ (by omega)
              have e5 : IntKind.i64.wrap (c 7 + c 8 * (x - y)) = c 7 + c 8 * (x - y) := IntWalk.i64_in _ (by omega)
              have e6 : decide (c 7 + c 8 * (x - y) < (q : Int) - j + 1) = false := decide_eq_false (by omega)
              have HQ := Lib.hid hq
              have HQL := Lib.hid hql
              clear hx hy hxb hyb htw hpb hq hql
              go_wp2_with fail
              go_quiet (fail)
              clear e1 e2 e3 e4 e5 e6
              go_wp2_with fail
              go_roundg (gk - 1)
              case measure => have := HQ.out; have := HQL.out; omega
              case rel => exact ⟨q + 1, by have := HQ.out; have := HQL.out; omega, by omega, by go_num, hR.drewN _⟩
            · obtain rfl : q = ts.length := by omega
              clear hql hq
              go_wp2_with fail
              go_roundg (ts.length - (j + 1))
              case measure => have := HJ.out; have := HJL.out; omega
              case rel => exact ⟨j + 1, by have := HJL.out; omega, by go_num, hR⟩
        · obtain rfl : j = ts.length := by omega
          clear hjl hj
          go_wp2_with fail
          go_ret
          exact ⟨rfl, hR.below⟩

theorem rate_law (c : Nat → Int) (s : Int) (zs : List Int) (A : Option Addr) (cap : Nat) (w : World) (hm : zs.length ≤ 9223372036854775807) (hA : ∀ k, k < zs.length → ∃ b o, A = some ⟨b, o, none⟩ ∧ b < w.heap.size ∧ w.cell? ⟨b, o + k, none⟩ = some (.int .i64 (zs.getD k 0))) :
    Calls Try.prog 4 #[.agg (cfgCells c s), .slice A zs.length cap] w fun e w' => e = .returned (.bool true) ∧ Below w.heap.size w w' := by
  by_cases hn : zs.length ≤ 200
  · cases hg : good c
    · exact rate_bad c s zs A cap w hn hg
    · exact rate_good c s zs A cap w hn hg hA
  · exact rate_long c s zs A cap w (by omega) hm
end Go.Proofs.Ytaalcdjhbbdadaa
