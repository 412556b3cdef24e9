/- The statement CarStays, walked: for every configuration and row of deeds the Go law returns true, and nothing that was in memory is changed. -/
import Derived.Test.YtejepddoindnlaaCar5
import Derived.Test.YtejepddoindnlaaOpenInts
import Derived.Deep.LoopGhost
namespace Go.Proofs.Ytejepddoindnlaa
open Go.RowKit
set_option linter.unusedVariables false

/-- How many waits there were since the door was opened. -/
def KI (c : Nat → Int) (x : Cr) (op : Int) : Prop := (0 < x.o → op = c 15 - x.o + x.h) ∧ 0 ≤ op ∧ op ≤ c 15 + c 16
theorem mod6 (x : Int) : ∃ k : Nat, k < 6 ∧ (IntKind.u64.wrap x).tmod 6 = (k : Int) := by
  have h0 : 0 ≤ IntKind.u64.wrap x := by
    have : (0 : Int) ≤ x % 18446744073709551616 := Int.emod_nonneg _ (by decide)
    exact this
  obtain ⟨m, hm⟩ := Int.eq_ofNat_of_zero_le h0
  refine ⟨m % 6, Nat.mod_lt _ (by omega), ?_⟩
  rw [hm]
  rfl
theorem does_is {c : Nat → Int} {x y : Cr} {k : Nat} {dir e : Int} (s : Int) (h1 : 1 ≤ k) (h5 : k ≤ 5) (hT : doV c x k dir = y) (hE : doE c x k dir = e) (w : World) :
    Calls Try.prog 11 #[.agg (cfgCells c s), .agg x.cells, .int .i64 (k : Int), .int .i64 dir] w fun en w' => en = .returned (.tuple #[.agg y.cells, .int .i64 e]) ∧ Below w.heap.size w w' := hT ▸ hE ▸ does_any c s x k h1 h5 dir w

section
variable {c : Nat → Int} {f d o h : Int} {m : Bool}
theorem r_open (hc : cokV c ⟨f, d, 0, 0, m⟩ = true) (dir : Int) : doV c ⟨f, d, 0, 0, m⟩ 1 dir = ⟨f, d, c 15, 0, false⟩ ∧ doE c ⟨f, d, 0, 0, m⟩ 1 dir = 0 := by
  have hf : faultV c ⟨f, d, 0, 0, m⟩ false = 0 := fault_z hc rfl
  exact ⟨by unfold doV openV; rw [hf]; rfl, by unfold doE; rw [hf]; rfl⟩
theorem r_rest (hc : cokV c ⟨f, d, 0, 0, m⟩ = true) (dir : Int) : doV c ⟨f, d, 0, 0, m⟩ 5 dir = ⟨f, 0, 0, 0, m⟩ ∧ doE c ⟨f, d, 0, 0, m⟩ 5 dir = 0 := by
  have hf : faultV c ⟨f, d, 0, 0, m⟩ false = 0 := fault_z hc rfl
  exact ⟨by unfold doV restV; rw [hf]; rfl, by unfold doE; rw [hf]; rfl⟩
theorem r_go (hc : cokV c ⟨f, d, 0, 0, m⟩ = true) (dir : Int) : doV c ⟨f, d, 0, 0, m⟩ 4 dir = (if stepB c ⟨f, d, 0, 0, m⟩ dir = true then ⟨f + dir, dir, 0, 0, true⟩ else Cr.zero) ∧ doE c ⟨f, d, 0, 0, m⟩ 4 dir = (if stepB c ⟨f, d, 0, 0, m⟩ dir = true then 0 else 3) := by
  have hf : faultV c ⟨f, d, 0, 0, m⟩ false = 0 := fault_z hc rfl
  exact ⟨by unfold doV goV; rw [hf]; rfl, by unfold doE goE; rw [hf]; rfl⟩
theorem r_hold (hc : cokV c ⟨f, d, o, h, m⟩ = true) (ho : 0 < o) (dir : Int) (hh : h < c 16) : doV c ⟨f, d, o, h, m⟩ 2 dir = ⟨f, d, o, h + 1, m⟩ ∧ doE c ⟨f, d, o, h, m⟩ 2 dir = 0 := by
  have hf : faultV c ⟨f, d, o, h, m⟩ true = 0 := fault_z hc (decide_eq_true ho)
  refine ⟨?_, by unfold doE; rw [hf]; rfl⟩
  unfold doV waitV
  rw [hf]
  show (if (true && decide (h < c 16)) = true then (⟨f, d, o, h + 1, m⟩ : Cr) else _) = _
  rw [if_pos (by simpa using hh)]
theorem r_wait2 (hc : cokV c ⟨f, d, o, h, m⟩ = true) (ho : 0 < o) (dir : Int) (hh : ¬ h < c 16) : doV c ⟨f, d, o, h, m⟩ 2 dir = ⟨f, d, o - 1, if o - 1 = 0 then 0 else h, m⟩ ∧ doE c ⟨f, d, o, h, m⟩ 2 dir = 0 := by
  have hf : faultV c ⟨f, d, o, h, m⟩ true = 0 := fault_z hc (decide_eq_true ho)
  refine ⟨?_, by unfold doE; rw [hf]; rfl⟩
  unfold doV waitV
  rw [hf]
  show (if (true && decide (h < c 16)) = true then (⟨f, d, o, h + 1, m⟩ : Cr) else _) = _
  rw [if_neg (by simpa using hh)]
theorem r_wait3 (hc : cokV c ⟨f, d, o, h, m⟩ = true) (ho : 0 < o) (dir : Int) : doV c ⟨f, d, o, h, m⟩ 3 dir = ⟨f, d, o - 1, if o - 1 = 0 then 0 else h, m⟩ ∧ doE c ⟨f, d, o, h, m⟩ 3 dir = 0 := by
  have hf : faultV c ⟨f, d, o, h, m⟩ true = 0 := fault_z hc (decide_eq_true ho)
  exact ⟨by unfold doV waitV; rw [hf]; rfl, by unfold doE; rw [hf]; rfl⟩
end

set_option maxRecDepth 100000 in
set_option maxHeartbeats 8000000 in
theorem stays (c : Nat → Int) (s : Int) (zs : List Int) (A : Option Addr) (cap : Nat) (w : World) (hn : zs.length ≤ 9223372036854775807) (hA : ∀ k, k < zs.length → ∃ b o, A = some ⟨b, o, none⟩ ∧ b < w.heap.size ∧ w.cell? ⟨b, o + k, none⟩ = some (.int .i64 (zs.getD k 0))) :
    Calls Try.prog 4 #[.agg (cfgCells c s), .slice A zs.length cap] w fun e w' => e = .returned (.bool true) ∧ Below w.heap.size w w' := by
  have hS := (St.nil w).alloc 24 (cfgCells c s)
  have HA := Lib.hid hA
  have HZ := Lib.hid hn
  clear hA hn
  obtain ⟨b0, hb0⟩ : ∃ b, cokV c newCr = b := ⟨_, rfl⟩
  have HB := Lib.hid hb0
  go_enter Try.func4, Try.ntmps4
  go_wp2_with fail
  refine (awake16 _).mono ?_
  rintro e w1 ⟨rfl, hB⟩
  replace hS := St.step hS hB
  clear hB
  go_wp2_with fail
  refine (cnew_any _).mono ?_
  rintro e w2 ⟨rfl, hB⟩
  replace hS := St.step hS hB
  clear hB
  go_wp2_with ((with_reducible show wpList _ _ _ (⟨none, .store 26 _ _, _, _, _, _⟩ :: _) _ _); refine store_new hS rfl rfl 26 _ _ rfl 26 _ newCr.cells rfl rfl (by kernel_rfl) rfl (by simp [Value.oneCell']) ?_; intro w3 hS4 hlt; clear hS; generalize w2.heap.size = gx at hS4 hlt ⊢; clear hlt; have HC5 := St.cell (L := [(gx, 26, newCr.cells), (w.heap.size, 24, cfgCells c s)]) (w0 := w) 0 rfl 0 rfl; have HC6 := St.cell (L := [(gx, 26, newCr.cells), (w.heap.size, 24, cfgCells c s)]) (w0 := w) 0 rfl 1 rfl; have HC7 := St.cell (L := [(gx, 26, newCr.cells), (w.heap.size, 24, cfgCells c s)]) (w0 := w) 0 rfl 2 rfl; have HC8 := St.cell (L := [(gx, 26, newCr.cells), (w.heap.size, 24, cfgCells c s)]) (w0 := w) 0 rfl 3 rfl; have HC9 := St.cell (L := [(gx, 26, newCr.cells), (w.heap.size, 24, cfgCells c s)]) (w0 := w) 0 rfl 4 rfl; have HL10 := St.loadC (L := [(gx, 26, newCr.cells), (w.heap.size, 24, cfgCells c s)]) (w0 := w) 1 rfl)
  cases b0
  · clear hb0
    go_wp2_with fail
    refine (ccheck_is s HB.out _).mono ?_
    rintro e w11 ⟨rfl, hB⟩
    replace hS4 := St.step hS4 hB
    clear hB
    go_wp2
    go_ret
    exact ⟨rfl, hS4.below⟩
  · go_wp2_with fail
    refine (ccheck_is s HB.out _).mono ?_
    rintro e w11 ⟨rfl, hB⟩
    replace hS4 := St.step hS4 hB
    clear hB
    go_wp2_with fail
    clear HC5 HC6 HC7 HC8 HC9 HL10
    have hS0 := hS4
    clear hS4
    go_loopg [6, 7] 100 (fun mm opv iv wr => ∃ (i : Nat) (op : Int) (x : Cr), mm + i = 100 ∧ iv = .int .i64 i ∧ opv = .int .i64 op ∧ St w [(gx, 26, x.cells), (w.heap.size, 24, cfgCells c s)] wr ∧ cokV c x = true ∧ KI c x op)
    case atStart => exact ⟨0, 0, newCr, by omega, rfl, rfl, hS0, hb0, ⟨(fun h => by cases h), Int.le_refl _, by have := good_nums (cok_true hb0).1; omega⟩⟩
    case round =>
      clear hS0 hb0
      obtain ⟨i, op, x, hi, rfl, rfl, hR, hc, hK⟩ := hrel
      have i0 : (0 : Int) ≤ (i : Int) := by omega
      have i1 : (i : Int) ≤ 100 := by omega
      have HC := Lib.hid hc
      have HK := Lib.hid hK
      obtain ⟨hg, ⟨f1, f2⟩, ⟨d1, d2⟩, ⟨o1, o2⟩, ⟨h1, h2⟩, hoh⟩ := cok_true hc
      obtain ⟨⟨g1, g2⟩, _, _, _, _, ⟨g3, g4⟩, ⟨g5, g6⟩⟩ := good_nums hg
      have HG := Lib.hid hg
      have HOH := Lib.hid hoh
      have hop0 := hK.2.1
      have hop1 := hK.2.2
      have hzl : (zs.length : Int) ≤ 9223372036854775807 := by have := HZ.out; omega
      clear hc hK hg hoh
      by_cases hlt : i < zs.length
      rotate_left
      · have hlt' : (zs.length : Int) ≤ (i : Int) := by omega
        clear hlt hi
        go_wp2_with fail
        go_ret
        exact ⟨rfl, hR.below⟩
      have hltz : (i : Int) < (zs.length : Int) := by omega
      by_cases h100 : i = 100
      · subst h100
        clear hlt hi
        go_wp2_with fail
        go_ret
        exact ⟨rfl, hR.below⟩
      have hi9 : (i : Int) < 100 := by omega
      obtain ⟨b, o0, rfl, hbw, hcell0⟩ := HA.out i hlt
      obtain ⟨z, hz⟩ : ∃ z, zs.getD i 0 = z := ⟨_, rfl⟩
      rw [hz] at hcell0
      have hcell := (hR.oldCell hbw).trans hcell0
      obtain ⟨mm, hm6, hm⟩ := mod6 z
      have HI := Lib.hid hi
      have HIN := Lib.hid h100
      clear hz hcell0 hlt hi h100
      obtain ⟨f, d, o, h, m⟩ := x
      simp only at f1 f2 d1 d2 o1 o2 h1 h2
      have hmm : mm = 0 ∨ mm = 1 ∨ mm = 2 ∨ mm = 3 ∨ mm = 4 ∨ mm = 5 := by omega
      clear hm6
      rcases hmm with rfl | rfl | rfl | rfl | rfl | rfl
      · by_cases hop : 0 < o
        · have HT := Lib.hid (do_door HC.out 1 1 (by show decide (0 < o) = _; rw [decide_eq_true hop]; rfl)).1
          have HE := Lib.hid (do_door HC.out 1 1 (by show decide (0 < o) = _; rw [decide_eq_true hop]; rfl)).2
          have hob : decide (0 < o) = true := decide_eq_true hop
          clear hop
          have HC1 := St.cell (L := [(gx, 26, Cr.cells ⟨f, d, o, h, m⟩), (w.heap.size, 24, cfgCells c s)]) (w0 := w) 0 rfl 0 rfl
          have HC2 := St.cell (L := [(gx, 26, Cr.cells ⟨f, d, o, h, m⟩), (w.heap.size, 24, cfgCells c s)]) (w0 := w) 0 rfl 1 rfl
          have HC3 := St.cell (L := [(gx, 26, Cr.cells ⟨f, d, o, h, m⟩), (w.heap.size, 24, cfgCells c s)]) (w0 := w) 0 rfl 2 rfl
          have HC4 := St.cell (L := [(gx, 26, Cr.cells ⟨f, d, o, h, m⟩), (w.heap.size, 24, cfgCells c s)]) (w0 := w) 0 rfl 3 rfl
          have HC5 := St.cell (L := [(gx, 26, Cr.cells ⟨f, d, o, h, m⟩), (w.heap.size, 24, cfgCells c s)]) (w0 := w) 0 rfl 4 rfl
          have HL6 := St.loadC (L := [(gx, 26, Cr.cells ⟨f, d, o, h, m⟩), (w.heap.size, 24, cfgCells c s)]) (w0 := w) 1 rfl
          have HC7 := St.cell (L := [(gx, 26, Cr.cells ⟨f, d, o, h, m⟩), (w.heap.size, 24, cfgCells c s)]) (w0 := w) 1 rfl 15 rfl
          have HC8 := St.cell (L := [(gx, 26, Cr.cells ⟨f, d, o, h, m⟩), (w.heap.size, 24, cfgCells c s)]) (w0 := w) 1 rfl 16 rfl
          go_wp2_with fail
          refine (does_is (k := 1) (dir := 1) s (by omega) (by omega) HT.out HE.out _).mono ?_
          rintro e w9 ⟨rfl, hB⟩
          clear hcell hm
          replace hR := St.step hR hB
          clear hB
          go_wp2_with ((with_reducible show wpList _ _ _ (⟨none, .store 26 _ _, _, _, _, _⟩ :: _) _ _); refine store_new hR rfl rfl 26 _ _ rfl 26 _ (Cr.cells Cr.zero) rfl rfl (by kernel_rfl) rfl (by simp [Value.oneCell']) ?_; intro w10 hS11 hlt; clear hR HC1 HC2 HC3 HC4 HC5 HL6 HC7 HC8; generalize w9.heap.size = gy at hS11 hlt ⊢; clear hlt; have HC12 := St.cell (L := [(gy, 26, (Cr.cells Cr.zero)), (gx, 26, Cr.cells ⟨f, d, o, h, m⟩), (w.heap.size, 24, cfgCells c s)]) (w0 := w) 0 rfl 0 rfl; have HC13 := St.cell (L := [(gy, 26, (Cr.cells Cr.zero)), (gx, 26, Cr.cells ⟨f, d, o, h, m⟩), (w.heap.size, 24, cfgCells c s)]) (w0 := w) 0 rfl 1 rfl; have HC14 := St.cell (L := [(gy, 26, (Cr.cells Cr.zero)), (gx, 26, Cr.cells ⟨f, d, o, h, m⟩), (w.heap.size, 24, cfgCells c s)]) (w0 := w) 0 rfl 2 rfl; have HC15 := St.cell (L := [(gy, 26, (Cr.cells Cr.zero)), (gx, 26, Cr.cells ⟨f, d, o, h, m⟩), (w.heap.size, 24, cfgCells c s)]) (w0 := w) 0 rfl 3 rfl; have HC16 := St.cell (L := [(gy, 26, (Cr.cells Cr.zero)), (gx, 26, Cr.cells ⟨f, d, o, h, m⟩), (w.heap.size, 24, cfgCells c s)]) (w0 := w) 0 rfl 4 rfl; have HC17 := St.cell (L := [(gy, 26, (Cr.cells Cr.zero)), (gx, 26, Cr.cells ⟨f, d, o, h, m⟩), (w.heap.size, 24, cfgCells c s)]) (w0 := w) 1 rfl 0 rfl; have HC18 := St.cell (L := [(gy, 26, (Cr.cells Cr.zero)), (gx, 26, Cr.cells ⟨f, d, o, h, m⟩), (w.heap.size, 24, cfgCells c s)]) (w0 := w) 1 rfl 1 rfl; have HC19 := St.cell (L := [(gy, 26, (Cr.cells Cr.zero)), (gx, 26, Cr.cells ⟨f, d, o, h, m⟩), (w.heap.size, 24, cfgCells c s)]) (w0 := w) 1 rfl 2 rfl; have HC20 := St.cell (L := [(gy, 26, (Cr.cells Cr.zero)), (gx, 26, Cr.cells ⟨f, d, o, h, m⟩), (w.heap.size, 24, cfgCells c s)]) (w0 := w) 1 rfl 3 rfl; have HC21 := St.cell (L := [(gy, 26, (Cr.cells Cr.zero)), (gx, 26, Cr.cells ⟨f, d, o, h, m⟩), (w.heap.size, 24, cfgCells c s)]) (w0 := w) 1 rfl 4 rfl; have HL22 := St.loadC (L := [(gy, 26, (Cr.cells Cr.zero)), (gx, 26, Cr.cells ⟨f, d, o, h, m⟩), (w.heap.size, 24, cfgCells c s)]) (w0 := w) 2 rfl; have HC23 := St.cell (L := [(gy, 26, (Cr.cells Cr.zero)), (gx, 26, Cr.cells ⟨f, d, o, h, m⟩), (w.heap.size, 24, cfgCells c s)]) (w0 := w) 2 rfl 15 rfl; have HC24 := St.cell (L := [(gy, 26, (Cr.cells Cr.zero)), (gx, 26, Cr.cells ⟨f, d, o, h, m⟩), (w.heap.size, 24, cfgCells c s)]) (w0 := w) 2 rfl 16 rfl)
          go_roundg (gk - 1)
          case measure => have := HI.out; have := HIN.out; omega
          case rel => exact ⟨i + 1, op, ⟨f, d, o, h, m⟩, by have := HI.out; have := HIN.out; omega, by go_num, rfl, hS11.sub (List.sublist_cons_self _ _), HC.out, HK.out⟩
        · obtain rfl : o = 0 := by omega
          obtain rfl : h = 0 := by rcases HOH.out with hq | hq
                                   · simp at hq
                                   · simpa using hq
          clear hop
          have hne : ((0 : Int) == c 15 + c 16) = false := by simp; omega
          obtain ⟨hT, hE⟩ := r_open HC.out 1
          have HT := Lib.hid (show doV c ⟨f, d, 0, 0, m⟩ 1 1 = ⟨f, d, c 15, 0, false⟩ from hT)
          have HE := Lib.hid hE
          have HY := Lib.hid (show cokV c ⟨f, d, c 15, 0, false⟩ = true from cok_mk HG.out ⟨(by first | omega | (dsimp only; omega)), (by first | omega | (dsimp only; omega))⟩ ⟨(by first | omega | (dsimp only; omega)), (by first | omega | (dsimp only; omega))⟩ ⟨(by first | omega | (dsimp only; omega)), (by first | omega | (dsimp only; omega))⟩ ⟨(by first | omega | (dsimp only; omega)), (by first | omega | (dsimp only; omega))⟩ (.inl (by show 0 < c 15; omega)))
          clear hT hE
          have HC1 := St.cell (L := [(gx, 26, Cr.cells ⟨f, d, 0, 0, m⟩), (w.heap.size, 24, cfgCells c s)]) (w0 := w) 0 rfl 0 rfl
          have HC2 := St.cell (L := [(gx, 26, Cr.cells ⟨f, d, 0, 0, m⟩), (w.heap.size, 24, cfgCells c s)]) (w0 := w) 0 rfl 1 rfl
          have HC3 := St.cell (L := [(gx, 26, Cr.cells ⟨f, d, 0, 0, m⟩), (w.heap.size, 24, cfgCells c s)]) (w0 := w) 0 rfl 2 rfl
          have HC4 := St.cell (L := [(gx, 26, Cr.cells ⟨f, d, 0, 0, m⟩), (w.heap.size, 24, cfgCells c s)]) (w0 := w) 0 rfl 3 rfl
          have HC5 := St.cell (L := [(gx, 26, Cr.cells ⟨f, d, 0, 0, m⟩), (w.heap.size, 24, cfgCells c s)]) (w0 := w) 0 rfl 4 rfl
          have HL6 := St.loadC (L := [(gx, 26, Cr.cells ⟨f, d, 0, 0, m⟩), (w.heap.size, 24, cfgCells c s)]) (w0 := w) 1 rfl
          have HC7 := St.cell (L := [(gx, 26, Cr.cells ⟨f, d, 0, 0, m⟩), (w.heap.size, 24, cfgCells c s)]) (w0 := w) 1 rfl 15 rfl
          have HC8 := St.cell (L := [(gx, 26, Cr.cells ⟨f, d, 0, 0, m⟩), (w.heap.size, 24, cfgCells c s)]) (w0 := w) 1 rfl 16 rfl
          go_wp2_with fail
          refine (does_is (k := 1) (dir := 1) s (by omega) (by omega) HT.out HE.out _).mono ?_
          rintro e w9 ⟨rfl, hB⟩
          clear hcell hm
          replace hR := St.step hR hB
          clear hB
          go_wp2_with (first | ((with_reducible show wpList _ _ _ (⟨none, .store 26 _ _, _, _, _, _⟩ :: _) _ _); refine store_new hR rfl rfl 26 _ _ rfl 26 _ (Cr.cells ⟨f, d, c 15, 0, false⟩) rfl rfl (by kernel_rfl) rfl (by simp [Value.oneCell']) ?_; intro w10 hS11 hlt; clear hR HC1 HC2 HC3 HC4 HC5 HL6 HC7 HC8; generalize w9.heap.size = gy at hS11 hlt ⊢; clear hlt; have HC12 := St.cell (L := [(gy, 26, (Cr.cells ⟨f, d, c 15, 0, false⟩)), (gx, 26, Cr.cells ⟨f, d, 0, 0, m⟩), (w.heap.size, 24, cfgCells c s)]) (w0 := w) 0 rfl 0 rfl; have HC13 := St.cell (L := [(gy, 26, (Cr.cells ⟨f, d, c 15, 0, false⟩)), (gx, 26, Cr.cells ⟨f, d, 0, 0, m⟩), (w.heap.size, 24, cfgCells c s)]) (w0 := w) 0 rfl 1 rfl; have HC14 := St.cell (L := [(gy, 26, (Cr.cells ⟨f, d, c 15, 0, false⟩)), (gx, 26, Cr.cells ⟨f, d, 0, 0, m⟩), (w.heap.size, 24, cfgCells c s)]) (w0 := w) 0 rfl 2 rfl; have HC15 := St.cell (L := [(gy, 26, (Cr.cells ⟨f, d, c 15, 0, false⟩)), (gx, 26, Cr.cells ⟨f, d, 0, 0, m⟩), (w.heap.size, 24, cfgCells c s)]) (w0 := w) 0 rfl 3 rfl; have HC16 := St.cell (L := [(gy, 26, (Cr.cells ⟨f, d, c 15, 0, false⟩)), (gx, 26, Cr.cells ⟨f, d, 0, 0, m⟩), (w.heap.size, 24, cfgCells c s)]) (w0 := w) 0 rfl 4 rfl; have HC17 := St.cell (L := [(gy, 26, (Cr.cells ⟨f, d, c 15, 0, false⟩)), (gx, 26, Cr.cells ⟨f, d, 0, 0, m⟩), (w.heap.size, 24, cfgCells c s)]) (w0 := w) 1 rfl 0 rfl; have HC18 := St.cell (L := [(gy, 26, (Cr.cells ⟨f, d, c 15, 0, false⟩)), (gx, 26, Cr.cells ⟨f, d, 0, 0, m⟩), (w.heap.size, 24, cfgCells c s)]) (w0 := w) 1 rfl 1 rfl; have HC19 := St.cell (L := [(gy, 26, (Cr.cells ⟨f, d, c 15, 0, false⟩)), (gx, 26, Cr.cells ⟨f, d, 0, 0, m⟩), (w.heap.size, 24, cfgCells c s)]) (w0 := w) 1 rfl 2 rfl; have HC20 := St.cell (L := [(gy, 26, (Cr.cells ⟨f, d, c 15, 0, false⟩)), (gx, 26, Cr.cells ⟨f, d, 0, 0, m⟩), (w.heap.size, 24, cfgCells c s)]) (w0 := w) 1 rfl 3 rfl; have HC21 := St.cell (L := [(gy, 26, (Cr.cells ⟨f, d, c 15, 0, false⟩)), (gx, 26, Cr.cells ⟨f, d, 0, 0, m⟩), (w.heap.size, 24, cfgCells c s)]) (w0 := w) 1 rfl 4 rfl; have HL22 := St.loadC (L := [(gy, 26, (Cr.cells ⟨f, d, c 15, 0, false⟩)), (gx, 26, Cr.cells ⟨f, d, 0, 0, m⟩), (w.heap.size, 24, cfgCells c s)]) (w0 := w) 2 rfl; have HC23 := St.cell (L := [(gy, 26, (Cr.cells ⟨f, d, c 15, 0, false⟩)), (gx, 26, Cr.cells ⟨f, d, 0, 0, m⟩), (w.heap.size, 24, cfgCells c s)]) (w0 := w) 2 rfl 15 rfl; have HC24 := St.cell (L := [(gy, 26, (Cr.cells ⟨f, d, c 15, 0, false⟩)), (gx, 26, Cr.cells ⟨f, d, 0, 0, m⟩), (w.heap.size, 24, cfgCells c s)]) (w0 := w) 2 rfl 16 rfl) | (go_at_call 7; refine (ccheck_is s HY.out _).mono ?_; rintro e w30 ⟨rfl, hB⟩; replace hS11 := St.step hS11 hB; clear hB) | ((with_reducible show wpList _ _ _ (⟨none, .store 26 _ _, _, _, _, _⟩ :: _) _ _); refine store_at hS11 rfl rfl 26 _ _ rfl 1 gx 26 (Cr.cells ⟨f, d, 0, 0, m⟩) (Cr.cells ⟨f, d, c 15, 0, false⟩) rfl rfl rfl (by kernel_rfl) rfl (by simp [Value.oneCell']) ?_; intro w25 hS26; have hS26' : St w [(gy, 26, (Cr.cells ⟨f, d, c 15, 0, false⟩)), (gx, 26, Cr.cells ⟨f, d, c 15, 0, false⟩), (w.heap.size, 24, cfgCells c s)] w25 := hS26; clear hS11 HC12 HC13 HC14 HC15 HC16 HC17 HC18 HC19 HC20 HC21 HL22 HC23 HC24 hS26; have HC27 := St.cell (L := [(gy, 26, (Cr.cells ⟨f, d, c 15, 0, false⟩)), (gx, 26, Cr.cells ⟨f, d, c 15, 0, false⟩), (w.heap.size, 24, cfgCells c s)]) (w0 := w) 0 rfl 0 rfl; have HC28 := St.cell (L := [(gy, 26, (Cr.cells ⟨f, d, c 15, 0, false⟩)), (gx, 26, Cr.cells ⟨f, d, c 15, 0, false⟩), (w.heap.size, 24, cfgCells c s)]) (w0 := w) 0 rfl 1 rfl; have HC29 := St.cell (L := [(gy, 26, (Cr.cells ⟨f, d, c 15, 0, false⟩)), (gx, 26, Cr.cells ⟨f, d, c 15, 0, false⟩), (w.heap.size, 24, cfgCells c s)]) (w0 := w) 0 rfl 2 rfl; have HC30 := St.cell (L := [(gy, 26, (Cr.cells ⟨f, d, c 15, 0, false⟩)), (gx, 26, Cr.cells ⟨f, d, c 15, 0, false⟩), (w.heap.size, 24, cfgCells c s)]) (w0 := w) 0 rfl 3 rfl; have HC31 := St.cell (L := [(gy, 26, (Cr.cells ⟨f, d, c 15, 0, false⟩)), (gx, 26, Cr.cells ⟨f, d, c 15, 0, false⟩), (w.heap.size, 24, cfgCells c s)]) (w0 := w) 0 rfl 4 rfl; have HC32 := St.cell (L := [(gy, 26, (Cr.cells ⟨f, d, c 15, 0, false⟩)), (gx, 26, Cr.cells ⟨f, d, c 15, 0, false⟩), (w.heap.size, 24, cfgCells c s)]) (w0 := w) 1 rfl 0 rfl; have HC33 := St.cell (L := [(gy, 26, (Cr.cells ⟨f, d, c 15, 0, false⟩)), (gx, 26, Cr.cells ⟨f, d, c 15, 0, false⟩), (w.heap.size, 24, cfgCells c s)]) (w0 := w) 1 rfl 1 rfl; have HC34 := St.cell (L := [(gy, 26, (Cr.cells ⟨f, d, c 15, 0, false⟩)), (gx, 26, Cr.cells ⟨f, d, c 15, 0, false⟩), (w.heap.size, 24, cfgCells c s)]) (w0 := w) 1 rfl 2 rfl; have HC35 := St.cell (L := [(gy, 26, (Cr.cells ⟨f, d, c 15, 0, false⟩)), (gx, 26, Cr.cells ⟨f, d, c 15, 0, false⟩), (w.heap.size, 24, cfgCells c s)]) (w0 := w) 1 rfl 3 rfl; have HC36 := St.cell (L := [(gy, 26, (Cr.cells ⟨f, d, c 15, 0, false⟩)), (gx, 26, Cr.cells ⟨f, d, c 15, 0, false⟩), (w.heap.size, 24, cfgCells c s)]) (w0 := w) 1 rfl 4 rfl; have HL37 := St.loadC (L := [(gy, 26, (Cr.cells ⟨f, d, c 15, 0, false⟩)), (gx, 26, Cr.cells ⟨f, d, c 15, 0, false⟩), (w.heap.size, 24, cfgCells c s)]) (w0 := w) 2 rfl; have HC38 := St.cell (L := [(gy, 26, (Cr.cells ⟨f, d, c 15, 0, false⟩)), (gx, 26, Cr.cells ⟨f, d, c 15, 0, false⟩), (w.heap.size, 24, cfgCells c s)]) (w0 := w) 2 rfl 15 rfl; have HC39 := St.cell (L := [(gy, 26, (Cr.cells ⟨f, d, c 15, 0, false⟩)), (gx, 26, Cr.cells ⟨f, d, c 15, 0, false⟩), (w.heap.size, 24, cfgCells c s)]) (w0 := w) 2 rfl 16 rfl))
          go_roundg (gk - 1)
          case measure => have := HI.out; have := HIN.out; omega
          case rel => exact ⟨i + 1, 0, ⟨f, d, c 15, 0, false⟩, by have := HI.out; have := HIN.out; omega, by go_num, rfl, hS26'.sub (List.sublist_cons_self _ _), HY.out, ⟨(fun _ => by show (0 : Int) = c 15 - c 15 + 0; omega), Int.le_refl _, by omega⟩⟩
      · by_cases hop : 0 < o
        · have hkk : op = c 15 - o + h := HK.out.1 hop
          have HKK := Lib.hid hkk
          have hopz : op + 1 ≤ c 15 + c 16 := by omega
          have hob : decide (0 < o) = true := decide_eq_true hop
          by_cases hh : h < c 16
          · have hne : ((op + 1 : Int) == c 15 + c 16) = false := by simp; omega
            clear hkk
            obtain ⟨hT, hE⟩ := r_hold HC.out hop 1 hh
            have HT := Lib.hid (show doV c ⟨f, d, o, h, m⟩ 2 1 = ⟨f, d, o, h + 1, m⟩ from hT)
            have HE := Lib.hid hE
            have HY := Lib.hid (show cokV c ⟨f, d, o, h + 1, m⟩ = true from cok_mk HG.out ⟨(by first | omega | (dsimp only; omega)), (by first | omega | (dsimp only; omega))⟩ ⟨(by first | omega | (dsimp only; omega)), (by first | omega | (dsimp only; omega))⟩ ⟨(by first | omega | (dsimp only; omega)), (by first | omega | (dsimp only; omega))⟩ ⟨by show 0 ≤ h + 1; omega, by show h + 1 ≤ c 16; omega⟩ (.inl hop))
            clear hT hE
            have HC1 := St.cell (L := [(gx, 26, Cr.cells ⟨f, d, o, h, m⟩), (w.heap.size, 24, cfgCells c s)]) (w0 := w) 0 rfl 0 rfl
            have HC2 := St.cell (L := [(gx, 26, Cr.cells ⟨f, d, o, h, m⟩), (w.heap.size, 24, cfgCells c s)]) (w0 := w) 0 rfl 1 rfl
            have HC3 := St.cell (L := [(gx, 26, Cr.cells ⟨f, d, o, h, m⟩), (w.heap.size, 24, cfgCells c s)]) (w0 := w) 0 rfl 2 rfl
            have HC4 := St.cell (L := [(gx, 26, Cr.cells ⟨f, d, o, h, m⟩), (w.heap.size, 24, cfgCells c s)]) (w0 := w) 0 rfl 3 rfl
            have HC5 := St.cell (L := [(gx, 26, Cr.cells ⟨f, d, o, h, m⟩), (w.heap.size, 24, cfgCells c s)]) (w0 := w) 0 rfl 4 rfl
            have HL6 := St.loadC (L := [(gx, 26, Cr.cells ⟨f, d, o, h, m⟩), (w.heap.size, 24, cfgCells c s)]) (w0 := w) 1 rfl
            have HC7 := St.cell (L := [(gx, 26, Cr.cells ⟨f, d, o, h, m⟩), (w.heap.size, 24, cfgCells c s)]) (w0 := w) 1 rfl 15 rfl
            have HC8 := St.cell (L := [(gx, 26, Cr.cells ⟨f, d, o, h, m⟩), (w.heap.size, 24, cfgCells c s)]) (w0 := w) 1 rfl 16 rfl
            go_wp2_with fail
            refine (does_is (k := 2) (dir := 1) s (by omega) (by omega) HT.out HE.out _).mono ?_
            rintro e w9 ⟨rfl, hB⟩
            clear hcell hm
            replace hR := St.step hR hB
            clear hB
            go_wp2_with (first | ((with_reducible show wpList _ _ _ (⟨none, .store 26 _ _, _, _, _, _⟩ :: _) _ _); refine store_new hR rfl rfl 26 _ _ rfl 26 _ (Cr.cells ⟨f, d, o, h + 1, m⟩) rfl rfl (by kernel_rfl) rfl (by simp [Value.oneCell']) ?_; intro w10 hS11 hlt; clear hR HC1 HC2 HC3 HC4 HC5 HL6 HC7 HC8; generalize w9.heap.size = gy at hS11 hlt ⊢; clear hlt; have HC12 := St.cell (L := [(gy, 26, (Cr.cells ⟨f, d, o, h + 1, m⟩)), (gx, 26, Cr.cells ⟨f, d, o, h, m⟩), (w.heap.size, 24, cfgCells c s)]) (w0 := w) 0 rfl 0 rfl; have HC13 := St.cell (L := [(gy, 26, (Cr.cells ⟨f, d, o, h + 1, m⟩)), (gx, 26, Cr.cells ⟨f, d, o, h, m⟩), (w.heap.size, 24, cfgCells c s)]) (w0 := w) 0 rfl 1 rfl; have HC14 := St.cell (L := [(gy, 26, (Cr.cells ⟨f, d, o, h + 1, m⟩)), (gx, 26, Cr.cells ⟨f, d, o, h, m⟩), (w.heap.size, 24, cfgCells c s)]) (w0 := w) 0 rfl 2 rfl; have HC15 := St.cell (L := [(gy, 26, (Cr.cells ⟨f, d, o, h + 1, m⟩)), (gx, 26, Cr.cells ⟨f, d, o, h, m⟩), (w.heap.size, 24, cfgCells c s)]) (w0 := w) 0 rfl 3 rfl; have HC16 := St.cell (L := [(gy, 26, (Cr.cells ⟨f, d, o, h + 1, m⟩)), (gx, 26, Cr.cells ⟨f, d, o, h, m⟩), (w.heap.size, 24, cfgCells c s)]) (w0 := w) 0 rfl 4 rfl; have HC17 := St.cell (L := [(gy, 26, (Cr.cells ⟨f, d, o, h + 1, m⟩)), (gx, 26, Cr.cells ⟨f, d, o, h, m⟩), (w.heap.size, 24, cfgCells c s)]) (w0 := w) 1 rfl 0 rfl; have HC18 := St.cell (L := [(gy, 26, (Cr.cells ⟨f, d, o, h + 1, m⟩)), (gx, 26, Cr.cells ⟨f, d, o, h, m⟩), (w.heap.size, 24, cfgCells c s)]) (w0 := w) 1 rfl 1 rfl; have HC19 := St.cell (L := [(gy, 26, (Cr.cells ⟨f, d, o, h + 1, m⟩)), (gx, 26, Cr.cells ⟨f, d, o, h, m⟩), (w.heap.size, 24, cfgCells c s)]) (w0 := w) 1 rfl 2 rfl; have HC20 := St.cell (L := [(gy, 26, (Cr.cells ⟨f, d, o, h + 1, m⟩)), (gx, 26, Cr.cells ⟨f, d, o, h, m⟩), (w.heap.size, 24, cfgCells c s)]) (w0 := w) 1 rfl 3 rfl; have HC21 := St.cell (L := [(gy, 26, (Cr.cells ⟨f, d, o, h + 1, m⟩)), (gx, 26, Cr.cells ⟨f, d, o, h, m⟩), (w.heap.size, 24, cfgCells c s)]) (w0 := w) 1 rfl 4 rfl; have HL22 := St.loadC (L := [(gy, 26, (Cr.cells ⟨f, d, o, h + 1, m⟩)), (gx, 26, Cr.cells ⟨f, d, o, h, m⟩), (w.heap.size, 24, cfgCells c s)]) (w0 := w) 2 rfl; have HC23 := St.cell (L := [(gy, 26, (Cr.cells ⟨f, d, o, h + 1, m⟩)), (gx, 26, Cr.cells ⟨f, d, o, h, m⟩), (w.heap.size, 24, cfgCells c s)]) (w0 := w) 2 rfl 15 rfl; have HC24 := St.cell (L := [(gy, 26, (Cr.cells ⟨f, d, o, h + 1, m⟩)), (gx, 26, Cr.cells ⟨f, d, o, h, m⟩), (w.heap.size, 24, cfgCells c s)]) (w0 := w) 2 rfl 16 rfl) | (go_at_call 7; refine (ccheck_is s HY.out _).mono ?_; rintro e w30 ⟨rfl, hB⟩; replace hS11 := St.step hS11 hB; clear hB) | ((with_reducible show wpList _ _ _ (⟨none, .store 26 _ _, _, _, _, _⟩ :: _) _ _); refine store_at hS11 rfl rfl 26 _ _ rfl 1 gx 26 (Cr.cells ⟨f, d, o, h, m⟩) (Cr.cells ⟨f, d, o, h + 1, m⟩) rfl rfl rfl (by kernel_rfl) rfl (by simp [Value.oneCell']) ?_; intro w25 hS26; have hS26' : St w [(gy, 26, (Cr.cells ⟨f, d, o, h + 1, m⟩)), (gx, 26, Cr.cells ⟨f, d, o, h + 1, m⟩), (w.heap.size, 24, cfgCells c s)] w25 := hS26; clear hS11 HC12 HC13 HC14 HC15 HC16 HC17 HC18 HC19 HC20 HC21 HL22 HC23 HC24 hS26; have HC27 := St.cell (L := [(gy, 26, (Cr.cells ⟨f, d, o, h + 1, m⟩)), (gx, 26, Cr.cells ⟨f, d, o, h + 1, m⟩), (w.heap.size, 24, cfgCells c s)]) (w0 := w) 0 rfl 0 rfl; have HC28 := St.cell (L := [(gy, 26, (Cr.cells ⟨f, d, o, h + 1, m⟩)), (gx, 26, Cr.cells ⟨f, d, o, h + 1, m⟩), (w.heap.size, 24, cfgCells c s)]) (w0 := w) 0 rfl 1 rfl; have HC29 := St.cell (L := [(gy, 26, (Cr.cells ⟨f, d, o, h + 1, m⟩)), (gx, 26, Cr.cells ⟨f, d, o, h + 1, m⟩), (w.heap.size, 24, cfgCells c s)]) (w0 := w) 0 rfl 2 rfl; have HC30 := St.cell (L := [(gy, 26, (Cr.cells ⟨f, d, o, h + 1, m⟩)), (gx, 26, Cr.cells ⟨f, d, o, h + 1, m⟩), (w.heap.size, 24, cfgCells c s)]) (w0 := w) 0 rfl 3 rfl; have HC31 := St.cell (L := [(gy, 26, (Cr.cells ⟨f, d, o, h + 1, m⟩)), (gx, 26, Cr.cells ⟨f, d, o, h + 1, m⟩), (w.heap.size, 24, cfgCells c s)]) (w0 := w) 0 rfl 4 rfl; have HC32 := St.cell (L := [(gy, 26, (Cr.cells ⟨f, d, o, h + 1, m⟩)), (gx, 26, Cr.cells ⟨f, d, o, h + 1, m⟩), (w.heap.size, 24, cfgCells c s)]) (w0 := w) 1 rfl 0 rfl; have HC33 := St.cell (L := [(gy, 26, (Cr.cells ⟨f, d, o, h + 1, m⟩)), (gx, 26, Cr.cells ⟨f, d, o, h + 1, m⟩), (w.heap.size, 24, cfgCells c s)]) (w0 := w) 1 rfl 1 rfl; have HC34 := St.cell (L := [(gy, 26, (Cr.cells ⟨f, d, o, h + 1, m⟩)), (gx, 26, Cr.cells ⟨f, d, o, h + 1, m⟩), (w.heap.size, 24, cfgCells c s)]) (w0 := w) 1 rfl 2 rfl; have HC35 := St.cell (L := [(gy, 26, (Cr.cells ⟨f, d, o, h + 1, m⟩)), (gx, 26, Cr.cells ⟨f, d, o, h + 1, m⟩), (w.heap.size, 24, cfgCells c s)]) (w0 := w) 1 rfl 3 rfl; have HC36 := St.cell (L := [(gy, 26, (Cr.cells ⟨f, d, o, h + 1, m⟩)), (gx, 26, Cr.cells ⟨f, d, o, h + 1, m⟩), (w.heap.size, 24, cfgCells c s)]) (w0 := w) 1 rfl 4 rfl; have HL37 := St.loadC (L := [(gy, 26, (Cr.cells ⟨f, d, o, h + 1, m⟩)), (gx, 26, Cr.cells ⟨f, d, o, h + 1, m⟩), (w.heap.size, 24, cfgCells c s)]) (w0 := w) 2 rfl; have HC38 := St.cell (L := [(gy, 26, (Cr.cells ⟨f, d, o, h + 1, m⟩)), (gx, 26, Cr.cells ⟨f, d, o, h + 1, m⟩), (w.heap.size, 24, cfgCells c s)]) (w0 := w) 2 rfl 15 rfl; have HC39 := St.cell (L := [(gy, 26, (Cr.cells ⟨f, d, o, h + 1, m⟩)), (gx, 26, Cr.cells ⟨f, d, o, h + 1, m⟩), (w.heap.size, 24, cfgCells c s)]) (w0 := w) 2 rfl 16 rfl))
            go_roundg (gk - 1)
            case measure => have := HI.out; have := HIN.out; omega
            case rel => exact ⟨i + 1, op + 1, ⟨f, d, o, h + 1, m⟩, by have := HI.out; have := HIN.out; omega, by go_num, rfl, hS26'.sub (List.sublist_cons_self _ _), HY.out, ⟨(fun _ => by show op + 1 = c 15 - o + (h + 1); have := HKK.out; omega), by omega, hopz⟩⟩
          · by_cases hz : o - 1 = 0
            · obtain rfl : o = 1 := by omega
              clear hkk hz
              obtain ⟨hT, hE⟩ := r_wait2 HC.out hop 1 hh
              have HT := Lib.hid (show doV c ⟨f, d, 1, h, m⟩ 2 1 = ⟨f, d, 0, 0, m⟩ from hT)
              have HE := Lib.hid hE
              have HY := Lib.hid (show cokV c ⟨f, d, 0, 0, m⟩ = true from cok_mk HG.out ⟨(by first | omega | (dsimp only; omega)), (by first | omega | (dsimp only; omega))⟩ ⟨(by first | omega | (dsimp only; omega)), (by first | omega | (dsimp only; omega))⟩ ⟨(by first | omega | (dsimp only; omega)), (by first | omega | (dsimp only; omega))⟩ ⟨(by first | omega | (dsimp only; omega)), (by first | omega | (dsimp only; omega))⟩ (.inr rfl))
              clear hT hE
              have HC1 := St.cell (L := [(gx, 26, Cr.cells ⟨f, d, 1, h, m⟩), (w.heap.size, 24, cfgCells c s)]) (w0 := w) 0 rfl 0 rfl
              have HC2 := St.cell (L := [(gx, 26, Cr.cells ⟨f, d, 1, h, m⟩), (w.heap.size, 24, cfgCells c s)]) (w0 := w) 0 rfl 1 rfl
              have HC3 := St.cell (L := [(gx, 26, Cr.cells ⟨f, d, 1, h, m⟩), (w.heap.size, 24, cfgCells c s)]) (w0 := w) 0 rfl 2 rfl
              have HC4 := St.cell (L := [(gx, 26, Cr.cells ⟨f, d, 1, h, m⟩), (w.heap.size, 24, cfgCells c s)]) (w0 := w) 0 rfl 3 rfl
              have HC5 := St.cell (L := [(gx, 26, Cr.cells ⟨f, d, 1, h, m⟩), (w.heap.size, 24, cfgCells c s)]) (w0 := w) 0 rfl 4 rfl
              have HL6 := St.loadC (L := [(gx, 26, Cr.cells ⟨f, d, 1, h, m⟩), (w.heap.size, 24, cfgCells c s)]) (w0 := w) 1 rfl
              have HC7 := St.cell (L := [(gx, 26, Cr.cells ⟨f, d, 1, h, m⟩), (w.heap.size, 24, cfgCells c s)]) (w0 := w) 1 rfl 15 rfl
              have HC8 := St.cell (L := [(gx, 26, Cr.cells ⟨f, d, 1, h, m⟩), (w.heap.size, 24, cfgCells c s)]) (w0 := w) 1 rfl 16 rfl
              go_wp2_with fail
              refine (does_is (k := 2) (dir := 1) s (by omega) (by omega) HT.out HE.out _).mono ?_
              rintro e w9 ⟨rfl, hB⟩
              clear hcell hm
              replace hR := St.step hR hB
              clear hB
              go_wp2_with (first | ((with_reducible show wpList _ _ _ (⟨none, .store 26 _ _, _, _, _, _⟩ :: _) _ _); refine store_new hR rfl rfl 26 _ _ rfl 26 _ (Cr.cells ⟨f, d, 0, 0, m⟩) rfl rfl (by kernel_rfl) rfl (by simp [Value.oneCell']) ?_; intro w10 hS11 hlt; clear hR HC1 HC2 HC3 HC4 HC5 HL6 HC7 HC8; generalize w9.heap.size = gy at hS11 hlt ⊢; clear hlt; have HC12 := St.cell (L := [(gy, 26, (Cr.cells ⟨f, d, 0, 0, m⟩)), (gx, 26, Cr.cells ⟨f, d, 1, h, m⟩), (w.heap.size, 24, cfgCells c s)]) (w0 := w) 0 rfl 0 rfl; have HC13 := St.cell (L := [(gy, 26, (Cr.cells ⟨f, d, 0, 0, m⟩)), (gx, 26, Cr.cells ⟨f, d, 1, h, m⟩), (w.heap.size, 24, cfgCells c s)]) (w0 := w) 0 rfl 1 rfl; have HC14 := St.cell (L := [(gy, 26, (Cr.cells ⟨f, d, 0, 0, m⟩)), (gx, 26, Cr.cells ⟨f, d, 1, h, m⟩), (w.heap.size, 24, cfgCells c s)]) (w0 := w) 0 rfl 2 rfl; have HC15 := St.cell (L := [(gy, 26, (Cr.cells ⟨f, d, 0, 0, m⟩)), (gx, 26, Cr.cells ⟨f, d, 1, h, m⟩), (w.heap.size, 24, cfgCells c s)]) (w0 := w) 0 rfl 3 rfl; have HC16 := St.cell (L := [(gy, 26, (Cr.cells ⟨f, d, 0, 0, m⟩)), (gx, 26, Cr.cells ⟨f, d, 1, h, m⟩), (w.heap.size, 24, cfgCells c s)]) (w0 := w) 0 rfl 4 rfl; have HC17 := St.cell (L := [(gy, 26, (Cr.cells ⟨f, d, 0, 0, m⟩)), (gx, 26, Cr.cells ⟨f, d, 1, h, m⟩), (w.heap.size, 24, cfgCells c s)]) (w0 := w) 1 rfl 0 rfl; have HC18 := St.cell (L := [(gy, 26, (Cr.cells ⟨f, d, 0, 0, m⟩)), (gx, 26, Cr.cells ⟨f, d, 1, h, m⟩), (w.heap.size, 24, cfgCells c s)]) (w0 := w) 1 rfl 1 rfl; have HC19 := St.cell (L := [(gy, 26, (Cr.cells ⟨f, d, 0, 0, m⟩)), (gx, 26, Cr.cells ⟨f, d, 1, h, m⟩), (w.heap.size, 24, cfgCells c s)]) (w0 := w) 1 rfl 2 rfl; have HC20 := St.cell (L := [(gy, 26, (Cr.cells ⟨f, d, 0, 0, m⟩)), (gx, 26, Cr.cells ⟨f, d, 1, h, m⟩), (w.heap.size, 24, cfgCells c s)]) (w0 := w) 1 rfl 3 rfl; have HC21 := St.cell (L := [(gy, 26, (Cr.cells ⟨f, d, 0, 0, m⟩)), (gx, 26, Cr.cells ⟨f, d, 1, h, m⟩), (w.heap.size, 24, cfgCells c s)]) (w0 := w) 1 rfl 4 rfl; have HL22 := St.loadC (L := [(gy, 26, (Cr.cells ⟨f, d, 0, 0, m⟩)), (gx, 26, Cr.cells ⟨f, d, 1, h, m⟩), (w.heap.size, 24, cfgCells c s)]) (w0 := w) 2 rfl; have HC23 := St.cell (L := [(gy, 26, (Cr.cells ⟨f, d, 0, 0, m⟩)), (gx, 26, Cr.cells ⟨f, d, 1, h, m⟩), (w.heap.size, 24, cfgCells c s)]) (w0 := w) 2 rfl 15 rfl; have HC24 := St.cell (L := [(gy, 26, (Cr.cells ⟨f, d, 0, 0, m⟩)), (gx, 26, Cr.cells ⟨f, d, 1, h, m⟩), (w.heap.size, 24, cfgCells c s)]) (w0 := w) 2 rfl 16 rfl) | (go_at_call 7; refine (ccheck_is s HY.out _).mono ?_; rintro e w30 ⟨rfl, hB⟩; replace hS11 := St.step hS11 hB; clear hB) | ((with_reducible show wpList _ _ _ (⟨none, .store 26 _ _, _, _, _, _⟩ :: _) _ _); refine store_at hS11 rfl rfl 26 _ _ rfl 1 gx 26 (Cr.cells ⟨f, d, 1, h, m⟩) (Cr.cells ⟨f, d, 0, 0, m⟩) rfl rfl rfl (by kernel_rfl) rfl (by simp [Value.oneCell']) ?_; intro w25 hS26; have hS26' : St w [(gy, 26, (Cr.cells ⟨f, d, 0, 0, m⟩)), (gx, 26, Cr.cells ⟨f, d, 0, 0, m⟩), (w.heap.size, 24, cfgCells c s)] w25 := hS26; clear hS11 HC12 HC13 HC14 HC15 HC16 HC17 HC18 HC19 HC20 HC21 HL22 HC23 HC24 hS26; have HC27 := St.cell (L := [(gy, 26, (Cr.cells ⟨f, d, 0, 0, m⟩)), (gx, 26, Cr.cells ⟨f, d, 0, 0, m⟩), (w.heap.size, 24, cfgCells c s)]) (w0 := w) 0 rfl 0 rfl; have HC28 := St.cell (L := [(gy, 26, (Cr.cells ⟨f, d, 0, 0, m⟩)), (gx, 26, Cr.cells ⟨f, d, 0, 0, m⟩), (w.heap.size, 24, cfgCells c s)]) (w0 := w) 0 rfl 1 rfl; have HC29 := St.cell (L := [(gy, 26, (Cr.cells ⟨f, d, 0, 0, m⟩)), (gx, 26, Cr.cells ⟨f, d, 0, 0, m⟩), (w.heap.size, 24, cfgCells c s)]) (w0 := w) 0 rfl 2 rfl; have HC30 := St.cell (L := [(gy, 26, (Cr.cells ⟨f, d, 0, 0, m⟩)), (gx, 26, Cr.cells ⟨f, d, 0, 0, m⟩), (w.heap.size, 24, cfgCells c s)]) (w0 := w) 0 rfl 3 rfl; have HC31 := St.cell (L := [(gy, 26, (Cr.cells ⟨f, d, 0, 0, m⟩)), (gx, 26, Cr.cells ⟨f, d, 0, 0, m⟩), (w.heap.size, 24, cfgCells c s)]) (w0 := w) 0 rfl 4 rfl; have HC32 := St.cell (L := [(gy, 26, (Cr.cells ⟨f, d, 0, 0, m⟩)), (gx, 26, Cr.cells ⟨f, d, 0, 0, m⟩), (w.heap.size, 24, cfgCells c s)]) (w0 := w) 1 rfl 0 rfl; have HC33 := St.cell (L := [(gy, 26, (Cr.cells ⟨f, d, 0, 0, m⟩)), (gx, 26, Cr.cells ⟨f, d, 0, 0, m⟩), (w.heap.size, 24, cfgCells c s)]) (w0 := w) 1 rfl 1 rfl; have HC34 := St.cell (L := [(gy, 26, (Cr.cells ⟨f, d, 0, 0, m⟩)), (gx, 26, Cr.cells ⟨f, d, 0, 0, m⟩), (w.heap.size, 24, cfgCells c s)]) (w0 := w) 1 rfl 2 rfl; have HC35 := St.cell (L := [(gy, 26, (Cr.cells ⟨f, d, 0, 0, m⟩)), (gx, 26, Cr.cells ⟨f, d, 0, 0, m⟩), (w.heap.size, 24, cfgCells c s)]) (w0 := w) 1 rfl 3 rfl; have HC36 := St.cell (L := [(gy, 26, (Cr.cells ⟨f, d, 0, 0, m⟩)), (gx, 26, Cr.cells ⟨f, d, 0, 0, m⟩), (w.heap.size, 24, cfgCells c s)]) (w0 := w) 1 rfl 4 rfl; have HL37 := St.loadC (L := [(gy, 26, (Cr.cells ⟨f, d, 0, 0, m⟩)), (gx, 26, Cr.cells ⟨f, d, 0, 0, m⟩), (w.heap.size, 24, cfgCells c s)]) (w0 := w) 2 rfl; have HC38 := St.cell (L := [(gy, 26, (Cr.cells ⟨f, d, 0, 0, m⟩)), (gx, 26, Cr.cells ⟨f, d, 0, 0, m⟩), (w.heap.size, 24, cfgCells c s)]) (w0 := w) 2 rfl 15 rfl; have HC39 := St.cell (L := [(gy, 26, (Cr.cells ⟨f, d, 0, 0, m⟩)), (gx, 26, Cr.cells ⟨f, d, 0, 0, m⟩), (w.heap.size, 24, cfgCells c s)]) (w0 := w) 2 rfl 16 rfl))
              go_roundg (gk - 1)
              case measure => have := HI.out; have := HIN.out; omega
              case rel => exact ⟨i + 1, op + 1, ⟨f, d, 0, 0, m⟩, by have := HI.out; have := HIN.out; omega, by go_num, rfl, hS26'.sub (List.sublist_cons_self _ _), HY.out, ⟨(fun hh => by simp at hh), by omega, hopz⟩⟩
            · have hne : ((op + 1 : Int) == c 15 + c 16) = false := by simp; omega
              have ho1 : (1 : Int) < o := by omega
              have hob2 : decide ((1 : Int) < o) = true := decide_eq_true ho1
              clear hkk
              obtain ⟨hT, hE⟩ := r_wait2 HC.out hop 1 hh
              rw [if_neg hz] at hT
              have HT := Lib.hid (show doV c ⟨f, d, o, h, m⟩ 2 1 = ⟨f, d, o - 1, h, m⟩ from hT)
              have HE := Lib.hid hE
              have HY := Lib.hid (show cokV c ⟨f, d, o - 1, h, m⟩ = true from cok_mk HG.out ⟨(by first | omega | (dsimp only; omega)), (by first | omega | (dsimp only; omega))⟩ ⟨(by first | omega | (dsimp only; omega)), (by first | omega | (dsimp only; omega))⟩ ⟨by show 0 ≤ o - 1; omega, by show o - 1 ≤ c 15; omega⟩ ⟨(by first | omega | (dsimp only; omega)), (by first | omega | (dsimp only; omega))⟩ (.inl (by show 0 < o - 1; omega)))
              clear hz
              clear hT hE
              have HC1 := St.cell (L := [(gx, 26, Cr.cells ⟨f, d, o, h, m⟩), (w.heap.size, 24, cfgCells c s)]) (w0 := w) 0 rfl 0 rfl
              have HC2 := St.cell (L := [(gx, 26, Cr.cells ⟨f, d, o, h, m⟩), (w.heap.size, 24, cfgCells c s)]) (w0 := w) 0 rfl 1 rfl
              have HC3 := St.cell (L := [(gx, 26, Cr.cells ⟨f, d, o, h, m⟩), (w.heap.size, 24, cfgCells c s)]) (w0 := w) 0 rfl 2 rfl
              have HC4 := St.cell (L := [(gx, 26, Cr.cells ⟨f, d, o, h, m⟩), (w.heap.size, 24, cfgCells c s)]) (w0 := w) 0 rfl 3 rfl
              have HC5 := St.cell (L := [(gx, 26, Cr.cells ⟨f, d, o, h, m⟩), (w.heap.size, 24, cfgCells c s)]) (w0 := w) 0 rfl 4 rfl
              have HL6 := St.loadC (L := [(gx, 26, Cr.cells ⟨f, d, o, h, m⟩), (w.heap.size, 24, cfgCells c s)]) (w0 := w) 1 rfl
              have HC7 := St.cell (L := [(gx, 26, Cr.cells ⟨f, d, o, h, m⟩), (w.heap.size, 24, cfgCells c s)]) (w0 := w) 1 rfl 15 rfl
              have HC8 := St.cell (L := [(gx, 26, Cr.cells ⟨f, d, o, h, m⟩), (w.heap.size, 24, cfgCells c s)]) (w0 := w) 1 rfl 16 rfl
              go_wp2_with fail
              refine (does_is (k := 2) (dir := 1) s (by omega) (by omega) HT.out HE.out _).mono ?_
              rintro e w9 ⟨rfl, hB⟩
              clear hcell hm
              replace hR := St.step hR hB
              clear hB
              go_wp2_with (first | ((with_reducible show wpList _ _ _ (⟨none, .store 26 _ _, _, _, _, _⟩ :: _) _ _); refine store_new hR rfl rfl 26 _ _ rfl 26 _ (Cr.cells ⟨f, d, o - 1, h, m⟩) rfl rfl (by kernel_rfl) rfl (by simp [Value.oneCell']) ?_; intro w10 hS11 hlt; clear hR HC1 HC2 HC3 HC4 HC5 HL6 HC7 HC8; generalize w9.heap.size = gy at hS11 hlt ⊢; clear hlt; have HC12 := St.cell (L := [(gy, 26, (Cr.cells ⟨f, d, o - 1, h, m⟩)), (gx, 26, Cr.cells ⟨f, d, o, h, m⟩), (w.heap.size, 24, cfgCells c s)]) (w0 := w) 0 rfl 0 rfl; have HC13 := St.cell (L := [(gy, 26, (Cr.cells ⟨f, d, o - 1, h, m⟩)), (gx, 26, Cr.cells ⟨f, d, o, h, m⟩), (w.heap.size, 24, cfgCells c s)]) (w0 := w) 0 rfl 1 rfl; have HC14 := St.cell (L := [(gy, 26, (Cr.cells ⟨f, d, o - 1, h, m⟩)), (gx, 26, Cr.cells ⟨f, d, o, h, m⟩), (w.heap.size, 24, cfgCells c s)]) (w0 := w) 0 rfl 2 rfl; have HC15 := St.cell (L := [(gy, 26, (Cr.cells ⟨f, d, o - 1, h, m⟩)), (gx, 26, Cr.cells ⟨f, d, o, h, m⟩), (w.heap.size, 24, cfgCells c s)]) (w0 := w) 0 rfl 3 rfl; have HC16 := St.cell (L := [(gy, 26, (Cr.cells ⟨f, d, o - 1, h, m⟩)), (gx, 26, Cr.cells ⟨f, d, o, h, m⟩), (w.heap.size, 24, cfgCells c s)]) (w0 := w) 0 rfl 4 rfl; have HC17 := St.cell (L := [(gy, 26, (Cr.cells ⟨f, d, o - 1, h, m⟩)), (gx, 26, Cr.cells ⟨f, d, o, h, m⟩), (w.heap.size, 24, cfgCells c s)]) (w0 := w) 1 rfl 0 rfl; have HC18 := St.cell (L := [(gy, 26, (Cr.cells ⟨f, d, o - 1, h, m⟩)), (gx, 26, Cr.cells ⟨f, d, o, h, m⟩), (w.heap.size, 24, cfgCells c s)]) (w0 := w) 1 rfl 1 rfl; have HC19 := St.cell (L := [(gy, 26, (Cr.cells ⟨f, d, o - 1, h, m⟩)), (gx, 26, Cr.cells ⟨f, d, o, h, m⟩), (w.heap.size, 24, cfgCells c s)]) (w0 := w) 1 rfl 2 rfl; have HC20 := St.cell (L := [(gy, 26, (Cr.cells ⟨f, d, o - 1, h, m⟩)), (gx, 26, Cr.cells ⟨f, d, o, h, m⟩), (w.heap.size, 24, cfgCells c s)]) (w0 := w) 1 rfl 3 rfl; have HC21 := St.cell (L := [(gy, 26, (Cr.cells ⟨f, d, o - 1, h, m⟩)), (gx, 26, Cr.cells ⟨f, d, o, h, m⟩), (w.heap.size, 24, cfgCells c s)]) (w0 := w) 1 rfl 4 rfl; have HL22 := St.loadC (L := [(gy, 26, (Cr.cells ⟨f, d, o - 1, h, m⟩)), (gx, 26, Cr.cells ⟨f, d, o, h, m⟩), (w.heap.size, 24, cfgCells c s)]) (w0 := w) 2 rfl; have HC23 := St.cell (L := [(gy, 26, (Cr.cells ⟨f, d, o - 1, h, m⟩)), (gx, 26, Cr.cells ⟨f, d, o, h, m⟩), (w.heap.size, 24, cfgCells c s)]) (w0 := w) 2 rfl 15 rfl; have HC24 := St.cell (L := [(gy, 26, (Cr.cells ⟨f, d, o - 1, h, m⟩)), (gx, 26, Cr.cells ⟨f, d, o, h, m⟩), (w.heap.size, 24, cfgCells c s)]) (w0 := w) 2 rfl 16 rfl) | (go_at_call 7; refine (ccheck_is s HY.out _).mono ?_; rintro e w30 ⟨rfl, hB⟩; replace hS11 := St.step hS11 hB; clear hB) | ((with_reducible show wpList _ _ _ (⟨none, .store 26 _ _, _, _, _, _⟩ :: _) _ _); refine store_at hS11 rfl rfl 26 _ _ rfl 1 gx 26 (Cr.cells ⟨f, d, o, h, m⟩) (Cr.cells ⟨f, d, o - 1, h, m⟩) rfl rfl rfl (by kernel_rfl) rfl (by simp [Value.oneCell']) ?_; intro w25 hS26; have hS26' : St w [(gy, 26, (Cr.cells ⟨f, d, o - 1, h, m⟩)), (gx, 26, Cr.cells ⟨f, d, o - 1, h, m⟩), (w.heap.size, 24, cfgCells c s)] w25 := hS26; clear hS11 HC12 HC13 HC14 HC15 HC16 HC17 HC18 HC19 HC20 HC21 HL22 HC23 HC24 hS26; have HC27 := St.cell (L := [(gy, 26, (Cr.cells ⟨f, d, o - 1, h, m⟩)), (gx, 26, Cr.cells ⟨f, d, o - 1, h, m⟩), (w.heap.size, 24, cfgCells c s)]) (w0 := w) 0 rfl 0 rfl; have HC28 := St.cell (L := [(gy, 26, (Cr.cells ⟨f, d, o - 1, h, m⟩)), (gx, 26, Cr.cells ⟨f, d, o - 1, h, m⟩), (w.heap.size, 24, cfgCells c s)]) (w0 := w) 0 rfl 1 rfl; have HC29 := St.cell (L := [(gy, 26, (Cr.cells ⟨f, d, o - 1, h, m⟩)), (gx, 26, Cr.cells ⟨f, d, o - 1, h, m⟩), (w.heap.size, 24, cfgCells c s)]) (w0 := w) 0 rfl 2 rfl; have HC30 := St.cell (L := [(gy, 26, (Cr.cells ⟨f, d, o - 1, h, m⟩)), (gx, 26, Cr.cells ⟨f, d, o - 1, h, m⟩), (w.heap.size, 24, cfgCells c s)]) (w0 := w) 0 rfl 3 rfl; have HC31 := St.cell (L := [(gy, 26, (Cr.cells ⟨f, d, o - 1, h, m⟩)), (gx, 26, Cr.cells ⟨f, d, o - 1, h, m⟩), (w.heap.size, 24, cfgCells c s)]) (w0 := w) 0 rfl 4 rfl; have HC32 := St.cell (L := [(gy, 26, (Cr.cells ⟨f, d, o - 1, h, m⟩)), (gx, 26, Cr.cells ⟨f, d, o - 1, h, m⟩), (w.heap.size, 24, cfgCells c s)]) (w0 := w) 1 rfl 0 rfl; have HC33 := St.cell (L := [(gy, 26, (Cr.cells ⟨f, d, o - 1, h, m⟩)), (gx, 26, Cr.cells ⟨f, d, o - 1, h, m⟩), (w.heap.size, 24, cfgCells c s)]) (w0 := w) 1 rfl 1 rfl; have HC34 := St.cell (L := [(gy, 26, (Cr.cells ⟨f, d, o - 1, h, m⟩)), (gx, 26, Cr.cells ⟨f, d, o - 1, h, m⟩), (w.heap.size, 24, cfgCells c s)]) (w0 := w) 1 rfl 2 rfl; have HC35 := St.cell (L := [(gy, 26, (Cr.cells ⟨f, d, o - 1, h, m⟩)), (gx, 26, Cr.cells ⟨f, d, o - 1, h, m⟩), (w.heap.size, 24, cfgCells c s)]) (w0 := w) 1 rfl 3 rfl; have HC36 := St.cell (L := [(gy, 26, (Cr.cells ⟨f, d, o - 1, h, m⟩)), (gx, 26, Cr.cells ⟨f, d, o - 1, h, m⟩), (w.heap.size, 24, cfgCells c s)]) (w0 := w) 1 rfl 4 rfl; have HL37 := St.loadC (L := [(gy, 26, (Cr.cells ⟨f, d, o - 1, h, m⟩)), (gx, 26, Cr.cells ⟨f, d, o - 1, h, m⟩), (w.heap.size, 24, cfgCells c s)]) (w0 := w) 2 rfl; have HC38 := St.cell (L := [(gy, 26, (Cr.cells ⟨f, d, o - 1, h, m⟩)), (gx, 26, Cr.cells ⟨f, d, o - 1, h, m⟩), (w.heap.size, 24, cfgCells c s)]) (w0 := w) 2 rfl 15 rfl; have HC39 := St.cell (L := [(gy, 26, (Cr.cells ⟨f, d, o - 1, h, m⟩)), (gx, 26, Cr.cells ⟨f, d, o - 1, h, m⟩), (w.heap.size, 24, cfgCells c s)]) (w0 := w) 2 rfl 16 rfl))
              go_roundg (gk - 1)
              case measure => have := HI.out; have := HIN.out; omega
              case rel => exact ⟨i + 1, op + 1, ⟨f, d, o - 1, h, m⟩, by have := HI.out; have := HIN.out; omega, by go_num, rfl, hS26'.sub (List.sublist_cons_self _ _), HY.out, ⟨(fun _ => by show op + 1 = c 15 - (o - 1) + h; have := HKK.out; omega), by omega, hopz⟩⟩
        · have HT := Lib.hid (do_door HC.out 2 1 (by show decide (0 < o) = _; rw [decide_eq_false hop]; rfl)).1
          have HE := Lib.hid (do_door HC.out 2 1 (by show decide (0 < o) = _; rw [decide_eq_false hop]; rfl)).2
          have hob : decide (0 < o) = false := decide_eq_false hop
          clear hop
          have HC1 := St.cell (L := [(gx, 26, Cr.cells ⟨f, d, o, h, m⟩), (w.heap.size, 24, cfgCells c s)]) (w0 := w) 0 rfl 0 rfl
          have HC2 := St.cell (L := [(gx, 26, Cr.cells ⟨f, d, o, h, m⟩), (w.heap.size, 24, cfgCells c s)]) (w0 := w) 0 rfl 1 rfl
          have HC3 := St.cell (L := [(gx, 26, Cr.cells ⟨f, d, o, h, m⟩), (w.heap.size, 24, cfgCells c s)]) (w0 := w) 0 rfl 2 rfl
          have HC4 := St.cell (L := [(gx, 26, Cr.cells ⟨f, d, o, h, m⟩), (w.heap.size, 24, cfgCells c s)]) (w0 := w) 0 rfl 3 rfl
          have HC5 := St.cell (L := [(gx, 26, Cr.cells ⟨f, d, o, h, m⟩), (w.heap.size, 24, cfgCells c s)]) (w0 := w) 0 rfl 4 rfl
          have HL6 := St.loadC (L := [(gx, 26, Cr.cells ⟨f, d, o, h, m⟩), (w.heap.size, 24, cfgCells c s)]) (w0 := w) 1 rfl
          have HC7 := St.cell (L := [(gx, 26, Cr.cells ⟨f, d, o, h, m⟩), (w.heap.size, 24, cfgCells c s)]) (w0 := w) 1 rfl 15 rfl
          have HC8 := St.cell (L := [(gx, 26, Cr.cells ⟨f, d, o, h, m⟩), (w.heap.size, 24, cfgCells c s)]) (w0 := w) 1 rfl 16 rfl
          go_wp2_with fail
          refine (does_is (k := 2) (dir := 1) s (by omega) (by omega) HT.out HE.out _).mono ?_
          rintro e w9 ⟨rfl, hB⟩
          clear hcell hm
          replace hR := St.step hR hB
          clear hB
          go_wp2_with ((with_reducible show wpList _ _ _ (⟨none, .store 26 _ _, _, _, _, _⟩ :: _) _ _); refine store_new hR rfl rfl 26 _ _ rfl 26 _ (Cr.cells Cr.zero) rfl rfl (by kernel_rfl) rfl (by simp [Value.oneCell']) ?_; intro w10 hS11 hlt; clear hR HC1 HC2 HC3 HC4 HC5 HL6 HC7 HC8; generalize w9.heap.size = gy at hS11 hlt ⊢; clear hlt; have HC12 := St.cell (L := [(gy, 26, (Cr.cells Cr.zero)), (gx, 26, Cr.cells ⟨f, d, o, h, m⟩), (w.heap.size, 24, cfgCells c s)]) (w0 := w) 0 rfl 0 rfl; have HC13 := St.cell (L := [(gy, 26, (Cr.cells Cr.zero)), (gx, 26, Cr.cells ⟨f, d, o, h, m⟩), (w.heap.size, 24, cfgCells c s)]) (w0 := w) 0 rfl 1 rfl; have HC14 := St.cell (L := [(gy, 26, (Cr.cells Cr.zero)), (gx, 26, Cr.cells ⟨f, d, o, h, m⟩), (w.heap.size, 24, cfgCells c s)]) (w0 := w) 0 rfl 2 rfl; have HC15 := St.cell (L := [(gy, 26, (Cr.cells Cr.zero)), (gx, 26, Cr.cells ⟨f, d, o, h, m⟩), (w.heap.size, 24, cfgCells c s)]) (w0 := w) 0 rfl 3 rfl; have HC16 := St.cell (L := [(gy, 26, (Cr.cells Cr.zero)), (gx, 26, Cr.cells ⟨f, d, o, h, m⟩), (w.heap.size, 24, cfgCells c s)]) (w0 := w) 0 rfl 4 rfl; have HC17 := St.cell (L := [(gy, 26, (Cr.cells Cr.zero)), (gx, 26, Cr.cells ⟨f, d, o, h, m⟩), (w.heap.size, 24, cfgCells c s)]) (w0 := w) 1 rfl 0 rfl; have HC18 := St.cell (L := [(gy, 26, (Cr.cells Cr.zero)), (gx, 26, Cr.cells ⟨f, d, o, h, m⟩), (w.heap.size, 24, cfgCells c s)]) (w0 := w) 1 rfl 1 rfl; have HC19 := St.cell (L := [(gy, 26, (Cr.cells Cr.zero)), (gx, 26, Cr.cells ⟨f, d, o, h, m⟩), (w.heap.size, 24, cfgCells c s)]) (w0 := w) 1 rfl 2 rfl; have HC20 := St.cell (L := [(gy, 26, (Cr.cells Cr.zero)), (gx, 26, Cr.cells ⟨f, d, o, h, m⟩), (w.heap.size, 24, cfgCells c s)]) (w0 := w) 1 rfl 3 rfl; have HC21 := St.cell (L := [(gy, 26, (Cr.cells Cr.zero)), (gx, 26, Cr.cells ⟨f, d, o, h, m⟩), (w.heap.size, 24, cfgCells c s)]) (w0 := w) 1 rfl 4 rfl; have HL22 := St.loadC (L := [(gy, 26, (Cr.cells Cr.zero)), (gx, 26, Cr.cells ⟨f, d, o, h, m⟩), (w.heap.size, 24, cfgCells c s)]) (w0 := w) 2 rfl; have HC23 := St.cell (L := [(gy, 26, (Cr.cells Cr.zero)), (gx, 26, Cr.cells ⟨f, d, o, h, m⟩), (w.heap.size, 24, cfgCells c s)]) (w0 := w) 2 rfl 15 rfl; have HC24 := St.cell (L := [(gy, 26, (Cr.cells Cr.zero)), (gx, 26, Cr.cells ⟨f, d, o, h, m⟩), (w.heap.size, 24, cfgCells c s)]) (w0 := w) 2 rfl 16 rfl)
          go_roundg (gk - 1)
          case measure => have := HI.out; have := HIN.out; omega
          case rel => exact ⟨i + 1, op, ⟨f, d, o, h, m⟩, by have := HI.out; have := HIN.out; omega, by go_num, rfl, hS11.sub (List.sublist_cons_self _ _), HC.out, HK.out⟩
      · by_cases hop : 0 < o
        · have hkk : op = c 15 - o + h := HK.out.1 hop
          have HKK := Lib.hid hkk
          have hopz : op + 1 ≤ c 15 + c 16 := by omega
          have hob : decide (0 < o) = true := decide_eq_true hop
          by_cases hz : o - 1 = 0
          · obtain rfl : o = 1 := by omega
            clear hkk hz
            obtain ⟨hT, hE⟩ := r_wait3 HC.out hop 1
            have HT := Lib.hid (show doV c ⟨f, d, 1, h, m⟩ 3 1 = ⟨f, d, 0, 0, m⟩ from hT)
            have HE := Lib.hid hE
            have HY := Lib.hid (show cokV c ⟨f, d, 0, 0, m⟩ = true from cok_mk HG.out ⟨(by first | omega | (dsimp only; omega)), (by first | omega | (dsimp only; omega))⟩ ⟨(by first | omega | (dsimp only; omega)), (by first | omega | (dsimp only; omega))⟩ ⟨(by first | omega | (dsimp only; omega)), (by first | omega | (dsimp only; omega))⟩ ⟨(by first | omega | (dsimp only; omega)), (by first | omega | (dsimp only; omega))⟩ (.inr rfl))
            clear hT hE
            have HC1 := St.cell (L := [(gx, 26, Cr.cells ⟨f, d, 1, h, m⟩), (w.heap.size, 24, cfgCells c s)]) (w0 := w) 0 rfl 0 rfl
            have HC2 := St.cell (L := [(gx, 26, Cr.cells ⟨f, d, 1, h, m⟩), (w.heap.size, 24, cfgCells c s)]) (w0 := w) 0 rfl 1 rfl
            have HC3 := St.cell (L := [(gx, 26, Cr.cells ⟨f, d, 1, h, m⟩), (w.heap.size, 24, cfgCells c s)]) (w0 := w) 0 rfl 2 rfl
            have HC4 := St.cell (L := [(gx, 26, Cr.cells ⟨f, d, 1, h, m⟩), (w.heap.size, 24, cfgCells c s)]) (w0 := w) 0 rfl 3 rfl
            have HC5 := St.cell (L := [(gx, 26, Cr.cells ⟨f, d, 1, h, m⟩), (w.heap.size, 24, cfgCells c s)]) (w0 := w) 0 rfl 4 rfl
            have HL6 := St.loadC (L := [(gx, 26, Cr.cells ⟨f, d, 1, h, m⟩), (w.heap.size, 24, cfgCells c s)]) (w0 := w) 1 rfl
            have HC7 := St.cell (L := [(gx, 26, Cr.cells ⟨f, d, 1, h, m⟩), (w.heap.size, 24, cfgCells c s)]) (w0 := w) 1 rfl 15 rfl
            have HC8 := St.cell (L := [(gx, 26, Cr.cells ⟨f, d, 1, h, m⟩), (w.heap.size, 24, cfgCells c s)]) (w0 := w) 1 rfl 16 rfl
            go_wp2_with fail
            refine (does_is (k := 3) (dir := 1) s (by omega) (by omega) HT.out HE.out _).mono ?_
            rintro e w9 ⟨rfl, hB⟩
            clear hcell hm
            replace hR := St.step hR hB
            clear hB
            go_wp2_with (first | ((with_reducible show wpList _ _ _ (⟨none, .store 26 _ _, _, _, _, _⟩ :: _) _ _); refine store_new hR rfl rfl 26 _ _ rfl 26 _ (Cr.cells ⟨f, d, 0, 0, m⟩) rfl rfl (by kernel_rfl) rfl (by simp [Value.oneCell']) ?_; intro w10 hS11 hlt; clear hR HC1 HC2 HC3 HC4 HC5 HL6 HC7 HC8; generalize w9.heap.size = gy at hS11 hlt ⊢; clear hlt; have HC12 := St.cell (L := [(gy, 26, (Cr.cells ⟨f, d, 0, 0, m⟩)), (gx, 26, Cr.cells ⟨f, d, 1, h, m⟩), (w.heap.size, 24, cfgCells c s)]) (w0 := w) 0 rfl 0 rfl; have HC13 := St.cell (L := [(gy, 26, (Cr.cells ⟨f, d, 0, 0, m⟩)), (gx, 26, Cr.cells ⟨f, d, 1, h, m⟩), (w.heap.size, 24, cfgCells c s)]) (w0 := w) 0 rfl 1 rfl; have HC14 := St.cell (L := [(gy, 26, (Cr.cells ⟨f, d, 0, 0, m⟩)), (gx, 26, Cr.cells ⟨f, d, 1, h, m⟩), (w.heap.size, 24, cfgCells c s)]) (w0 := w) 0 rfl 2 rfl; have HC15 := St.cell (L := [(gy, 26, (Cr.cells ⟨f, d, 0, 0, m⟩)), (gx, 26, Cr.cells ⟨f, d, 1, h, m⟩), (w.heap.size, 24, cfgCells c s)]) (w0 := w) 0 rfl 3 rfl; have HC16 := St.cell (L := [(gy, 26, (Cr.cells ⟨f, d, 0, 0, m⟩)), (gx, 26, Cr.cells ⟨f, d, 1, h, m⟩), (w.heap.size, 24, cfgCells c s)]) (w0 := w) 0 rfl 4 rfl; have HC17 := St.cell (L := [(gy, 26, (Cr.cells ⟨f, d, 0, 0, m⟩)), (gx, 26, Cr.cells ⟨f, d, 1, h, m⟩), (w.heap.size, 24, cfgCells c s)]) (w0 := w) 1 rfl 0 rfl; have HC18 := St.cell (L := [(gy, 26, (Cr.cells ⟨f, d, 0, 0, m⟩)), (gx, 26, Cr.cells ⟨f, d, 1, h, m⟩), (w.heap.size, 24, cfgCells c s)]) (w0 := w) 1 rfl 1 rfl; have HC19 := St.cell (L := [(gy, 26, (Cr.cells ⟨f, d, 0, 0, m⟩)), (gx, 26, Cr.cells ⟨f, d, 1, h, m⟩), (w.heap.size, 24, cfgCells c s)]) (w0 := w) 1 rfl 2 rfl; have HC20 := St.cell (L := [(gy, 26, (Cr.cells ⟨f, d, 0, 0, m⟩)), (gx, 26, Cr.cells ⟨f, d, 1, h, m⟩), (w.heap.size, 24, cfgCells c s)]) (w0 := w) 1 rfl 3 rfl; have HC21 := St.cell (L := [(gy, 26, (Cr.cells ⟨f, d, 0, 0, m⟩)), (gx, 26, Cr.cells ⟨f, d, 1, h, m⟩), (w.heap.size, 24, cfgCells c s)]) (w0 := w) 1 rfl 4 rfl; have HL22 := St.loadC (L := [(gy, 26, (Cr.cells ⟨f, d, 0, 0, m⟩)), (gx, 26, Cr.cells ⟨f, d, 1, h, m⟩), (w.heap.size, 24, cfgCells c s)]) (w0 := w) 2 rfl; have HC23 := St.cell (L := [(gy, 26, (Cr.cells ⟨f, d, 0, 0, m⟩)), (gx, 26, Cr.cells ⟨f, d, 1, h, m⟩), (w.heap.size, 24, cfgCells c s)]) (w0 := w) 2 rfl 15 rfl; have HC24 := St.cell (L := [(gy, 26, (Cr.cells ⟨f, d, 0, 0, m⟩)), (gx, 26, Cr.cells ⟨f, d, 1, h, m⟩), (w.heap.size, 24, cfgCells c s)]) (w0 := w) 2 rfl 16 rfl) | (go_at_call 7; refine (ccheck_is s HY.out _).mono ?_; rintro e w30 ⟨rfl, hB⟩; replace hS11 := St.step hS11 hB; clear hB) | ((with_reducible show wpList _ _ _ (⟨none, .store 26 _ _, _, _, _, _⟩ :: _) _ _); refine store_at hS11 rfl rfl 26 _ _ rfl 1 gx 26 (Cr.cells ⟨f, d, 1, h, m⟩) (Cr.cells ⟨f, d, 0, 0, m⟩) rfl rfl rfl (by kernel_rfl) rfl (by simp [Value.oneCell']) ?_; intro w25 hS26; have hS26' : St w [(gy, 26, (Cr.cells ⟨f, d, 0, 0, m⟩)), (gx, 26, Cr.cells ⟨f, d, 0, 0, m⟩), (w.heap.size, 24, cfgCells c s)] w25 := hS26; clear hS11 HC12 HC13 HC14 HC15 HC16 HC17 HC18 HC19 HC20 HC21 HL22 HC23 HC24 hS26; have HC27 := St.cell (L := [(gy, 26, (Cr.cells ⟨f, d, 0, 0, m⟩)), (gx, 26, Cr.cells ⟨f, d, 0, 0, m⟩), (w.heap.size, 24, cfgCells c s)]) (w0 := w) 0 rfl 0 rfl; have HC28 := St.cell (L := [(gy, 26, (Cr.cells ⟨f, d, 0, 0, m⟩)), (gx, 26, Cr.cells ⟨f, d, 0, 0, m⟩), (w.heap.size, 24, cfgCells c s)]) (w0 := w) 0 rfl 1 rfl; have HC29 := St.cell (L := [(gy, 26, (Cr.cells ⟨f, d, 0, 0, m⟩)), (gx, 26, Cr.cells ⟨f, d, 0, 0, m⟩), (w.heap.size, 24, cfgCells c s)]) (w0 := w) 0 rfl 2 rfl; have HC30 := St.cell (L := [(gy, 26, (Cr.cells ⟨f, d, 0, 0, m⟩)), (gx, 26, Cr.cells ⟨f, d, 0, 0, m⟩), (w.heap.size, 24, cfgCells c s)]) (w0 := w) 0 rfl 3 rfl; have HC31 := St.cell (L := [(gy, 26, (Cr.cells ⟨f, d, 0, 0, m⟩)), (gx, 26, Cr.cells ⟨f, d, 0, 0, m⟩), (w.heap.size, 24, cfgCells c s)]) (w0 := w) 0 rfl 4 rfl; have HC32 := St.cell (L := [(gy, 26, (Cr.cells ⟨f, d, 0, 0, m⟩)), (gx, 26, Cr.cells ⟨f, d, 0, 0, m⟩), (w.heap.size, 24, cfgCells c s)]) (w0 := w) 1 rfl 0 rfl; have HC33 := St.cell (L := [(gy, 26, (Cr.cells ⟨f, d, 0, 0, m⟩)), (gx, 26, Cr.cells ⟨f, d, 0, 0, m⟩), (w.heap.size, 24, cfgCells c s)]) (w0 := w) 1 rfl 1 rfl; have HC34 := St.cell (L := [(gy, 26, (Cr.cells ⟨f, d, 0, 0, m⟩)), (gx, 26, Cr.cells ⟨f, d, 0, 0, m⟩), (w.heap.size, 24, cfgCells c s)]) (w0 := w) 1 rfl 2 rfl; have HC35 := St.cell (L := [(gy, 26, (Cr.cells ⟨f, d, 0, 0, m⟩)), (gx, 26, Cr.cells ⟨f, d, 0, 0, m⟩), (w.heap.size, 24, cfgCells c s)]) (w0 := w) 1 rfl 3 rfl; have HC36 := St.cell (L := [(gy, 26, (Cr.cells ⟨f, d, 0, 0, m⟩)), (gx, 26, Cr.cells ⟨f, d, 0, 0, m⟩), (w.heap.size, 24, cfgCells c s)]) (w0 := w) 1 rfl 4 rfl; have HL37 := St.loadC (L := [(gy, 26, (Cr.cells ⟨f, d, 0, 0, m⟩)), (gx, 26, Cr.cells ⟨f, d, 0, 0, m⟩), (w.heap.size, 24, cfgCells c s)]) (w0 := w) 2 rfl; have HC38 := St.cell (L := [(gy, 26, (Cr.cells ⟨f, d, 0, 0, m⟩)), (gx, 26, Cr.cells ⟨f, d, 0, 0, m⟩), (w.heap.size, 24, cfgCells c s)]) (w0 := w) 2 rfl 15 rfl; have HC39 := St.cell (L := [(gy, 26, (Cr.cells ⟨f, d, 0, 0, m⟩)), (gx, 26, Cr.cells ⟨f, d, 0, 0, m⟩), (w.heap.size, 24, cfgCells c s)]) (w0 := w) 2 rfl 16 rfl))
            go_roundg (gk - 1)
            case measure => have := HI.out; have := HIN.out; omega
            case rel => exact ⟨i + 1, op + 1, ⟨f, d, 0, 0, m⟩, by have := HI.out; have := HIN.out; omega, by go_num, rfl, hS26'.sub (List.sublist_cons_self _ _), HY.out, ⟨(fun hh => by simp at hh), by omega, hopz⟩⟩
          · have hne : ((op + 1 : Int) == c 15 + c 16) = false := by simp; omega
            have ho1 : (1 : Int) < o := by omega
            have hob2 : decide ((1 : Int) < o) = true := decide_eq_true ho1
            clear hkk
            obtain ⟨hT, hE⟩ := r_wait3 HC.out hop 1
            rw [if_neg hz] at hT
            have HT := Lib.hid (show doV c ⟨f, d, o, h, m⟩ 3 1 = ⟨f, d, o - 1, h, m⟩ from hT)
            have HE := Lib.hid hE
            have HY := Lib.hid (show cokV c ⟨f, d, o - 1, h, m⟩ = true from cok_mk HG.out ⟨(by first | omega | (dsimp only; omega)), (by first | omega | (dsimp only; omega))⟩ ⟨(by first | omega | (dsimp only; omega)), (by first | omega | (dsimp only; omega))⟩ ⟨by show 0 ≤ o - 1; omega, by show o - 1 ≤ c 15; omega⟩ ⟨(by first | omega | (dsimp only; omega)), (by first | omega | (dsimp only; omega))⟩ (.inl (by show 0 < o - 1; omega)))
            clear hz
            clear hT hE
            have HC1 := St.cell (L := [(gx, 26, Cr.cells ⟨f, d, o, h, m⟩), (w.heap.size, 24, cfgCells c s)]) (w0 := w) 0 rfl 0 rfl
            have HC2 := St.cell (L := [(gx, 26, Cr.cells ⟨f, d, o, h, m⟩), (w.heap.size, 24, cfgCells c s)]) (w0 := w) 0 rfl 1 rfl
            have HC3 := St.cell (L := [(gx, 26, Cr.cells ⟨f, d, o, h, m⟩), (w.heap.size, 24, cfgCells c s)]) (w0 := w) 0 rfl 2 rfl
            have HC4 := St.cell (L := [(gx, 26, Cr.cells ⟨f, d, o, h, m⟩), (w.heap.size, 24, cfgCells c s)]) (w0 := w) 0 rfl 3 rfl
            have HC5 := St.cell (L := [(gx, 26, Cr.cells ⟨f, d, o, h, m⟩), (w.heap.size, 24, cfgCells c s)]) (w0 := w) 0 rfl 4 rfl
            have HL6 := St.loadC (L := [(gx, 26, Cr.cells ⟨f, d, o, h, m⟩), (w.heap.size, 24, cfgCells c s)]) (w0 := w) 1 rfl
            have HC7 := St.cell (L := [(gx, 26, Cr.cells ⟨f, d, o, h, m⟩), (w.heap.size, 24, cfgCells c s)]) (w0 := w) 1 rfl 15 rfl
            have HC8 := St.cell (L := [(gx, 26, Cr.cells ⟨f, d, o, h, m⟩), (w.heap.size, 24, cfgCells c s)]) (w0 := w) 1 rfl 16 rfl
            go_wp2_with fail
            refine (does_is (k := 3) (dir := 1) s (by omega) (by omega) HT.out HE.out _).mono ?_
            rintro e w9 ⟨rfl, hB⟩
            clear hcell hm
            replace hR := St.step hR hB
            clear hB
            go_wp2_with (first | ((with_reducible show wpList _ _ _ (⟨none, .store 26 _ _, _, _, _, _⟩ :: _) _ _); refine store_new hR rfl rfl 26 _ _ rfl 26 _ (Cr.cells ⟨f, d, o - 1, h, m⟩) rfl rfl (by kernel_rfl) rfl (by simp [Value.oneCell']) ?_; intro w10 hS11 hlt; clear hR HC1 HC2 HC3 HC4 HC5 HL6 HC7 HC8; generalize w9.heap.size = gy at hS11 hlt ⊢; clear hlt; have HC12 := St.cell (L := [(gy, 26, (Cr.cells ⟨f, d, o - 1, h, m⟩)), (gx, 26, Cr.cells ⟨f, d, o, h, m⟩), (w.heap.size, 24, cfgCells c s)]) (w0 := w) 0 rfl 0 rfl; have HC13 := St.cell (L := [(gy, 26, (Cr.cells ⟨f, d, o - 1, h, m⟩)), (gx, 26, Cr.cells ⟨f, d, o, h, m⟩), (w.heap.size, 24, cfgCells c s)]) (w0 := w) 0 rfl 1 rfl; have HC14 := St.cell (L := [(gy, 26, (Cr.cells ⟨f, d, o - 1, h, m⟩)), (gx, 26, Cr.cells ⟨f, d, o, h, m⟩), (w.heap.size, 24, cfgCells c s)]) (w0 := w) 0 rfl 2 rfl; have HC15 := St.cell (L := [(gy, 26, (Cr.cells ⟨f, d, o - 1, h, m⟩)), (gx, 26, Cr.cells ⟨f, d, o, h, m⟩), (w.heap.size, 24, cfgCells c s)]) (w0 := w) 0 rfl 3 rfl; have HC16 := St.cell (L := [(gy, 26, (Cr.cells ⟨f, d, o - 1, h, m⟩)), (gx, 26, Cr.cells ⟨f, d, o, h, m⟩), (w.heap.size, 24, cfgCells c s)]) (w0 := w) 0 rfl 4 rfl; have HC17 := St.cell (L := [(gy, 26, (Cr.cells ⟨f, d, o - 1, h, m⟩)), (gx, 26, Cr.cells ⟨f, d, o, h, m⟩), (w.heap.size, 24, cfgCells c s)]) (w0 := w) 1 rfl 0 rfl; have HC18 := St.cell (L := [(gy, 26, (Cr.cells ⟨f, d, o - 1, h, m⟩)), (gx, 26, Cr.cells ⟨f, d, o, h, m⟩), (w.heap.size, 24, cfgCells c s)]) (w0 := w) 1 rfl 1 rfl; have HC19 := St.cell (L := [(gy, 26, (Cr.cells ⟨f, d, o - 1, h, m⟩)), (gx, 26, Cr.cells ⟨f, d, o, h, m⟩), (w.heap.size, 24, cfgCells c s)]) (w0 := w) 1 rfl 2 rfl; have HC20 := St.cell (L := [(gy, 26, (Cr.cells ⟨f, d, o - 1, h, m⟩)), (gx, 26, Cr.cells ⟨f, d, o, h, m⟩), (w.heap.size, 24, cfgCells c s)]) (w0 := w) 1 rfl 3 rfl; have HC21 := St.cell (L := [(gy, 26, (Cr.cells ⟨f, d, o - 1, h, m⟩)), (gx, 26, Cr.cells ⟨f, d, o, h, m⟩), (w.heap.size, 24, cfgCells c s)]) (w0 := w) 1 rfl 4 rfl; have HL22 := St.loadC (L := [(gy, 26, (Cr.cells ⟨f, d, o - 1, h, m⟩)), (gx, 26, Cr.cells ⟨f, d, o, h, m⟩), (w.heap.size, 24, cfgCells c s)]) (w0 := w) 2 rfl; have HC23 := St.cell (L := [(gy, 26, (Cr.cells ⟨f, d, o - 1, h, m⟩)), (gx, 26, Cr.cells ⟨f, d, o, h, m⟩), (w.heap.size, 24, cfgCells c s)]) (w0 := w) 2 rfl 15 rfl; have HC24 := St.cell (L := [(gy, 26, (Cr.cells ⟨f, d, o - 1, h, m⟩)), (gx, 26, Cr.cells ⟨f, d, o, h, m⟩), (w.heap.size, 24, cfgCells c s)]) (w0 := w) 2 rfl 16 rfl) | (go_at_call 7; refine (ccheck_is s HY.out _).mono ?_; rintro e w30 ⟨rfl, hB⟩; replace hS11 := St.step hS11 hB; clear hB) | ((with_reducible show wpList _ _ _ (⟨none, .store 26 _ _, _, _, _, _⟩ :: _) _ _); refine store_at hS11 rfl rfl 26 _ _ rfl 1 gx 26 (Cr.cells ⟨f, d, o, h, m⟩) (Cr.cells ⟨f, d, o - 1, h, m⟩) rfl rfl rfl (by kernel_rfl) rfl (by simp [Value.oneCell']) ?_; intro w25 hS26; have hS26' : St w [(gy, 26, (Cr.cells ⟨f, d, o - 1, h, m⟩)), (gx, 26, Cr.cells ⟨f, d, o - 1, h, m⟩), (w.heap.size, 24, cfgCells c s)] w25 := hS26; clear hS11 HC12 HC13 HC14 HC15 HC16 HC17 HC18 HC19 HC20 HC21 HL22 HC23 HC24 hS26; have HC27 := St.cell (L := [(gy, 26, (Cr.cells ⟨f, d, o - 1, h, m⟩)), (gx, 26, Cr.cells ⟨f, d, o - 1, h, m⟩), (w.heap.size, 24, cfgCells c s)]) (w0 := w) 0 rfl 0 rfl; have HC28 := St.cell (L := [(gy, 26, (Cr.cells ⟨f, d, o - 1, h, m⟩)), (gx, 26, Cr.cells ⟨f, d, o - 1, h, m⟩), (w.heap.size, 24, cfgCells c s)]) (w0 := w) 0 rfl 1 rfl; have HC29 := St.cell (L := [(gy, 26, (Cr.cells ⟨f, d, o - 1, h, m⟩)), (gx, 26, Cr.cells ⟨f, d, o - 1, h, m⟩), (w.heap.size, 24, cfgCells c s)]) (w0 := w) 0 rfl 2 rfl; have HC30 := St.cell (L := [(gy, 26, (Cr.cells ⟨f, d, o - 1, h, m⟩)), (gx, 26, Cr.cells ⟨f, d, o - 1, h, m⟩), (w.heap.size, 24, cfgCells c s)]) (w0 := w) 0 rfl 3 rfl; have HC31 := St.cell (L := [(gy, 26, (Cr.cells ⟨f, d, o - 1, h, m⟩)), (gx, 26, Cr.cells ⟨f, d, o - 1, h, m⟩), (w.heap.size, 24, cfgCells c s)]) (w0 := w) 0 rfl 4 rfl; have HC32 := St.cell (L := [(gy, 26, (Cr.cells ⟨f, d, o - 1, h, m⟩)), (gx, 26, Cr.cells ⟨f, d, o - 1, h, m⟩), (w.heap.size, 24, cfgCells c s)]) (w0 := w) 1 rfl 0 rfl; have HC33 := St.cell (L := [(gy, 26, (Cr.cells ⟨f, d, o - 1, h, m⟩)), (gx, 26, Cr.cells ⟨f, d, o - 1, h, m⟩), (w.heap.size, 24, cfgCells c s)]) (w0 := w) 1 rfl 1 rfl; have HC34 := St.cell (L := [(gy, 26, (Cr.cells ⟨f, d, o - 1, h, m⟩)), (gx, 26, Cr.cells ⟨f, d, o - 1, h, m⟩), (w.heap.size, 24, cfgCells c s)]) (w0 := w) 1 rfl 2 rfl; have HC35 := St.cell (L := [(gy, 26, (Cr.cells ⟨f, d, o - 1, h, m⟩)), (gx, 26, Cr.cells ⟨f, d, o - 1, h, m⟩), (w.heap.size, 24, cfgCells c s)]) (w0 := w) 1 rfl 3 rfl; have HC36 := St.cell (L := [(gy, 26, (Cr.cells ⟨f, d, o - 1, h, m⟩)), (gx, 26, Cr.cells ⟨f, d, o - 1, h, m⟩), (w.heap.size, 24, cfgCells c s)]) (w0 := w) 1 rfl 4 rfl; have HL37 := St.loadC (L := [(gy, 26, (Cr.cells ⟨f, d, o - 1, h, m⟩)), (gx, 26, Cr.cells ⟨f, d, o - 1, h, m⟩), (w.heap.size, 24, cfgCells c s)]) (w0 := w) 2 rfl; have HC38 := St.cell (L := [(gy, 26, (Cr.cells ⟨f, d, o - 1, h, m⟩)), (gx, 26, Cr.cells ⟨f, d, o - 1, h, m⟩), (w.heap.size, 24, cfgCells c s)]) (w0 := w) 2 rfl 15 rfl; have HC39 := St.cell (L := [(gy, 26, (Cr.cells ⟨f, d, o - 1, h, m⟩)), (gx, 26, Cr.cells ⟨f, d, o - 1, h, m⟩), (w.heap.size, 24, cfgCells c s)]) (w0 := w) 2 rfl 16 rfl))
            go_roundg (gk - 1)
            case measure => have := HI.out; have := HIN.out; omega
            case rel => exact ⟨i + 1, op + 1, ⟨f, d, o - 1, h, m⟩, by have := HI.out; have := HIN.out; omega, by go_num, rfl, hS26'.sub (List.sublist_cons_self _ _), HY.out, ⟨(fun _ => by show op + 1 = c 15 - (o - 1) + h; have := HKK.out; omega), by omega, hopz⟩⟩
        · have HT := Lib.hid (do_door HC.out 3 1 (by show decide (0 < o) = _; rw [decide_eq_false hop]; rfl)).1
          have HE := Lib.hid (do_door HC.out 3 1 (by show decide (0 < o) = _; rw [decide_eq_false hop]; rfl)).2
          have hob : decide (0 < o) = false := decide_eq_false hop
          clear hop
          have HC1 := St.cell (L := [(gx, 26, Cr.cells ⟨f, d, o, h, m⟩), (w.heap.size, 24, cfgCells c s)]) (w0 := w) 0 rfl 0 rfl
          have HC2 := St.cell (L := [(gx, 26, Cr.cells ⟨f, d, o, h, m⟩), (w.heap.size, 24, cfgCells c s)]) (w0 := w) 0 rfl 1 rfl
          have HC3 := St.cell (L := [(gx, 26, Cr.cells ⟨f, d, o, h, m⟩), (w.heap.size, 24, cfgCells c s)]) (w0 := w) 0 rfl 2 rfl
          have HC4 := St.cell (L := [(gx, 26, Cr.cells ⟨f, d, o, h, m⟩), (w.heap.size, 24, cfgCells c s)]) (w0 := w) 0 rfl 3 rfl
          have HC5 := St.cell (L := [(gx, 26, Cr.cells ⟨f, d, o, h, m⟩), (w.heap.size, 24, cfgCells c s)]) (w0 := w) 0 rfl 4 rfl
          have HL6 := St.loadC (L := [(gx, 26, Cr.cells ⟨f, d, o, h, m⟩), (w.heap.size, 24, cfgCells c s)]) (w0 := w) 1 rfl
          have HC7 := St.cell (L := [(gx, 26, Cr.cells ⟨f, d, o, h, m⟩), (w.heap.size, 24, cfgCells c s)]) (w0 := w) 1 rfl 15 rfl
          have HC8 := St.cell (L := [(gx, 26, Cr.cells ⟨f, d, o, h, m⟩), (w.heap.size, 24, cfgCells c s)]) (w0 := w) 1 rfl 16 rfl
          go_wp2_with fail
          refine (does_is (k := 3) (dir := 1) s (by omega) (by omega) HT.out HE.out _).mono ?_
          rintro e w9 ⟨rfl, hB⟩
          clear hcell hm
          replace hR := St.step hR hB
          clear hB
          go_wp2_with ((with_reducible show wpList _ _ _ (⟨none, .store 26 _ _, _, _, _, _⟩ :: _) _ _); refine store_new hR rfl rfl 26 _ _ rfl 26 _ (Cr.cells Cr.zero) rfl rfl (by kernel_rfl) rfl (by simp [Value.oneCell']) ?_; intro w10 hS11 hlt; clear hR HC1 HC2 HC3 HC4 HC5 HL6 HC7 HC8; generalize w9.heap.size = gy at hS11 hlt ⊢; clear hlt; have HC12 := St.cell (L := [(gy, 26, (Cr.cells Cr.zero)), (gx, 26, Cr.cells ⟨f, d, o, h, m⟩), (w.heap.size, 24, cfgCells c s)]) (w0 := w) 0 rfl 0 rfl; have HC13 := St.cell (L := [(gy, 26, (Cr.cells Cr.zero)), (gx, 26, Cr.cells ⟨f, d, o, h, m⟩), (w.heap.size, 24, cfgCells c s)]) (w0 := w) 0 rfl 1 rfl; have HC14 := St.cell (L := [(gy, 26, (Cr.cells Cr.zero)), (gx, 26, Cr.cells ⟨f, d, o, h, m⟩), (w.heap.size, 24, cfgCells c s)]) (w0 := w) 0 rfl 2 rfl; have HC15 := St.cell (L := [(gy, 26, (Cr.cells Cr.zero)), (gx, 26, Cr.cells ⟨f, d, o, h, m⟩), (w.heap.size, 24, cfgCells c s)]) (w0 := w) 0 rfl 3 rfl; have HC16 := St.cell (L := [(gy, 26, (Cr.cells Cr.zero)), (gx, 26, Cr.cells ⟨f, d, o, h, m⟩), (w.heap.size, 24, cfgCells c s)]) (w0 := w) 0 rfl 4 rfl; have HC17 := St.cell (L := [(gy, 26, (Cr.cells Cr.zero)), (gx, 26, Cr.cells ⟨f, d, o, h, m⟩), (w.heap.size, 24, cfgCells c s)]) (w0 := w) 1 rfl 0 rfl; have HC18 := St.cell (L := [(gy, 26, (Cr.cells Cr.zero)), (gx, 26, Cr.cells ⟨f, d, o, h, m⟩), (w.heap.size, 24, cfgCells c s)]) (w0 := w) 1 rfl 1 rfl; have HC19 := St.cell (L := [(gy, 26, (Cr.cells Cr.zero)), (gx, 26, Cr.cells ⟨f, d, o, h, m⟩), (w.heap.size, 24, cfgCells c s)]) (w0 := w) 1 rfl 2 rfl; have HC20 := St.cell (L := [(gy, 26, (Cr.cells Cr.zero)), (gx, 26, Cr.cells ⟨f, d, o, h, m⟩), (w.heap.size, 24, cfgCells c s)]) (w0 := w) 1 rfl 3 rfl; have HC21 := St.cell (L := [(gy, 26, (Cr.cells Cr.zero)), (gx, 26, Cr.cells ⟨f, d, o, h, m⟩), (w.heap.size, 24, cfgCells c s)]) (w0 := w) 1 rfl 4 rfl; have HL22 := St.loadC (L := [(gy, 26, (Cr.cells Cr.zero)), (gx, 26, Cr.cells ⟨f, d, o, h, m⟩), (w.heap.size, 24, cfgCells c s)]) (w0 := w) 2 rfl; have HC23 := St.cell (L := [(gy, 26, (Cr.cells Cr.zero)), (gx, 26, Cr.cells ⟨f, d, o, h, m⟩), (w.heap.size, 24, cfgCells c s)]) (w0 := w) 2 rfl 15 rfl; have HC24 := St.cell (L := [(gy, 26, (Cr.cells Cr.zero)), (gx, 26, Cr.cells ⟨f, d, o, h, m⟩), (w.heap.size, 24, cfgCells c s)]) (w0 := w) 2 rfl 16 rfl)
          go_roundg (gk - 1)
          case measure => have := HI.out; have := HIN.out; omega
          case rel => exact ⟨i + 1, op, ⟨f, d, o, h, m⟩, by have := HI.out; have := HIN.out; omega, by go_num, rfl, hS11.sub (List.sublist_cons_self _ _), HC.out, HK.out⟩
      · by_cases hop : 0 < o
        · have HT := Lib.hid (do_door HC.out 4 1 (by show decide (0 < o) = _; rw [decide_eq_true hop]; rfl)).1
          have HE := Lib.hid (do_door HC.out 4 1 (by show decide (0 < o) = _; rw [decide_eq_true hop]; rfl)).2
          have hob : decide (0 < o) = true := decide_eq_true hop
          clear hop
          have HC1 := St.cell (L := [(gx, 26, Cr.cells ⟨f, d, o, h, m⟩), (w.heap.size, 24, cfgCells c s)]) (w0 := w) 0 rfl 0 rfl
          have HC2 := St.cell (L := [(gx, 26, Cr.cells ⟨f, d, o, h, m⟩), (w.heap.size, 24, cfgCells c s)]) (w0 := w) 0 rfl 1 rfl
          have HC3 := St.cell (L := [(gx, 26, Cr.cells ⟨f, d, o, h, m⟩), (w.heap.size, 24, cfgCells c s)]) (w0 := w) 0 rfl 2 rfl
          have HC4 := St.cell (L := [(gx, 26, Cr.cells ⟨f, d, o, h, m⟩), (w.heap.size, 24, cfgCells c s)]) (w0 := w) 0 rfl 3 rfl
          have HC5 := St.cell (L := [(gx, 26, Cr.cells ⟨f, d, o, h, m⟩), (w.heap.size, 24, cfgCells c s)]) (w0 := w) 0 rfl 4 rfl
          have HL6 := St.loadC (L := [(gx, 26, Cr.cells ⟨f, d, o, h, m⟩), (w.heap.size, 24, cfgCells c s)]) (w0 := w) 1 rfl
          have HC7 := St.cell (L := [(gx, 26, Cr.cells ⟨f, d, o, h, m⟩), (w.heap.size, 24, cfgCells c s)]) (w0 := w) 1 rfl 15 rfl
          have HC8 := St.cell (L := [(gx, 26, Cr.cells ⟨f, d, o, h, m⟩), (w.heap.size, 24, cfgCells c s)]) (w0 := w) 1 rfl 16 rfl
          go_wp2_with fail
          refine (does_is (k := 4) (dir := 1) s (by omega) (by omega) HT.out HE.out _).mono ?_
          rintro e w9 ⟨rfl, hB⟩
          clear hcell hm
          replace hR := St.step hR hB
          clear hB
          go_wp2_with ((with_reducible show wpList _ _ _ (⟨none, .store 26 _ _, _, _, _, _⟩ :: _) _ _); refine store_new hR rfl rfl 26 _ _ rfl 26 _ (Cr.cells Cr.zero) rfl rfl (by kernel_rfl) rfl (by simp [Value.oneCell']) ?_; intro w10 hS11 hlt; clear hR HC1 HC2 HC3 HC4 HC5 HL6 HC7 HC8; generalize w9.heap.size = gy at hS11 hlt ⊢; clear hlt; have HC12 := St.cell (L := [(gy, 26, (Cr.cells Cr.zero)), (gx, 26, Cr.cells ⟨f, d, o, h, m⟩), (w.heap.size, 24, cfgCells c s)]) (w0 := w) 0 rfl 0 rfl; have HC13 := St.cell (L := [(gy, 26, (Cr.cells Cr.zero)), (gx, 26, Cr.cells ⟨f, d, o, h, m⟩), (w.heap.size, 24, cfgCells c s)]) (w0 := w) 0 rfl 1 rfl; have HC14 := St.cell (L := [(gy, 26, (Cr.cells Cr.zero)), (gx, 26, Cr.cells ⟨f, d, o, h, m⟩), (w.heap.size, 24, cfgCells c s)]) (w0 := w) 0 rfl 2 rfl; have HC15 := St.cell (L := [(gy, 26, (Cr.cells Cr.zero)), (gx, 26, Cr.cells ⟨f, d, o, h, m⟩), (w.heap.size, 24, cfgCells c s)]) (w0 := w) 0 rfl 3 rfl; have HC16 := St.cell (L := [(gy, 26, (Cr.cells Cr.zero)), (gx, 26, Cr.cells ⟨f, d, o, h, m⟩), (w.heap.size, 24, cfgCells c s)]) (w0 := w) 0 rfl 4 rfl; have HC17 := St.cell (L := [(gy, 26, (Cr.cells Cr.zero)), (gx, 26, Cr.cells ⟨f, d, o, h, m⟩), (w.heap.size, 24, cfgCells c s)]) (w0 := w) 1 rfl 0 rfl; have HC18 := St.cell (L := [(gy, 26, (Cr.cells Cr.zero)), (gx, 26, Cr.cells ⟨f, d, o, h, m⟩), (w.heap.size, 24, cfgCells c s)]) (w0 := w) 1 rfl 1 rfl; have HC19 := St.cell (L := [(gy, 26, (Cr.cells Cr.zero)), (gx, 26, Cr.cells ⟨f, d, o, h, m⟩), (w.heap.size, 24, cfgCells c s)]) (w0 := w) 1 rfl 2 rfl; have HC20 := St.cell (L := [(gy, 26, (Cr.cells Cr.zero)), (gx, 26, Cr.cells ⟨f, d, o, h, m⟩), (w.heap.size, 24, cfgCells c s)]) (w0 := w) 1 rfl 3 rfl; have HC21 := St.cell (L := [(gy, 26, (Cr.cells Cr.zero)), (gx, 26, Cr.cells ⟨f, d, o, h, m⟩), (w.heap.size, 24, cfgCells c s)]) (w0 := w) 1 rfl 4 rfl; have HL22 := St.loadC (L := [(gy, 26, (Cr.cells Cr.zero)), (gx, 26, Cr.cells ⟨f, d, o, h, m⟩), (w.heap.size, 24, cfgCells c s)]) (w0 := w) 2 rfl; have HC23 := St.cell (L := [(gy, 26, (Cr.cells Cr.zero)), (gx, 26, Cr.cells ⟨f, d, o, h, m⟩), (w.heap.size, 24, cfgCells c s)]) (w0 := w) 2 rfl 15 rfl; have HC24 := St.cell (L := [(gy, 26, (Cr.cells Cr.zero)), (gx, 26, Cr.cells ⟨f, d, o, h, m⟩), (w.heap.size, 24, cfgCells c s)]) (w0 := w) 2 rfl 16 rfl)
          go_roundg (gk - 1)
          case measure => have := HI.out; have := HIN.out; omega
          case rel => exact ⟨i + 1, op, ⟨f, d, o, h, m⟩, by have := HI.out; have := HIN.out; omega, by go_num, rfl, hS11.sub (List.sublist_cons_self _ _), HC.out, HK.out⟩
        · obtain rfl : o = 0 := by omega
          obtain rfl : h = 0 := by rcases HOH.out with hq | hq
                                   · simp at hq
                                   · simpa using hq
          clear hop
          obtain ⟨hT, hE⟩ := r_go HC.out 1
          cases hst : stepB c ⟨f, d, 0, 0, m⟩ 1
          · rw [hst] at hT hE
            have HT := Lib.hid (show doV c ⟨f, d, 0, 0, m⟩ 4 1 = Cr.zero from hT)
            have HE := Lib.hid (show doE c ⟨f, d, 0, 0, m⟩ 4 1 = 3 from hE)
            clear hT hE hst
            have HC1 := St.cell (L := [(gx, 26, Cr.cells ⟨f, d, 0, 0, m⟩), (w.heap.size, 24, cfgCells c s)]) (w0 := w) 0 rfl 0 rfl
            have HC2 := St.cell (L := [(gx, 26, Cr.cells ⟨f, d, 0, 0, m⟩), (w.heap.size, 24, cfgCells c s)]) (w0 := w) 0 rfl 1 rfl
            have HC3 := St.cell (L := [(gx, 26, Cr.cells ⟨f, d, 0, 0, m⟩), (w.heap.size, 24, cfgCells c s)]) (w0 := w) 0 rfl 2 rfl
            have HC4 := St.cell (L := [(gx, 26, Cr.cells ⟨f, d, 0, 0, m⟩), (w.heap.size, 24, cfgCells c s)]) (w0 := w) 0 rfl 3 rfl
            have HC5 := St.cell (L := [(gx, 26, Cr.cells ⟨f, d, 0, 0, m⟩), (w.heap.size, 24, cfgCells c s)]) (w0 := w) 0 rfl 4 rfl
            have HL6 := St.loadC (L := [(gx, 26, Cr.cells ⟨f, d, 0, 0, m⟩), (w.heap.size, 24, cfgCells c s)]) (w0 := w) 1 rfl
            have HC7 := St.cell (L := [(gx, 26, Cr.cells ⟨f, d, 0, 0, m⟩), (w.heap.size, 24, cfgCells c s)]) (w0 := w) 1 rfl 15 rfl
            have HC8 := St.cell (L := [(gx, 26, Cr.cells ⟨f, d, 0, 0, m⟩), (w.heap.size, 24, cfgCells c s)]) (w0 := w) 1 rfl 16 rfl
            go_wp2_with fail
            refine (does_is (k := 4) (dir := 1) s (by omega) (by omega) HT.out HE.out _).mono ?_
            rintro e w9 ⟨rfl, hB⟩
            clear hcell hm
            replace hR := St.step hR hB
            clear hB
            go_wp2_with ((with_reducible show wpList _ _ _ (⟨none, .store 26 _ _, _, _, _, _⟩ :: _) _ _); refine store_new hR rfl rfl 26 _ _ rfl 26 _ (Cr.cells Cr.zero) rfl rfl (by kernel_rfl) rfl (by simp [Value.oneCell']) ?_; intro w10 hS11 hlt; clear hR HC1 HC2 HC3 HC4 HC5 HL6 HC7 HC8; generalize w9.heap.size = gy at hS11 hlt ⊢; clear hlt; have HC12 := St.cell (L := [(gy, 26, (Cr.cells Cr.zero)), (gx, 26, Cr.cells ⟨f, d, 0, 0, m⟩), (w.heap.size, 24, cfgCells c s)]) (w0 := w) 0 rfl 0 rfl; have HC13 := St.cell (L := [(gy, 26, (Cr.cells Cr.zero)), (gx, 26, Cr.cells ⟨f, d, 0, 0, m⟩), (w.heap.size, 24, cfgCells c s)]) (w0 := w) 0 rfl 1 rfl; have HC14 := St.cell (L := [(gy, 26, (Cr.cells Cr.zero)), (gx, 26, Cr.cells ⟨f, d, 0, 0, m⟩), (w.heap.size, 24, cfgCells c s)]) (w0 := w) 0 rfl 2 rfl; have HC15 := St.cell (L := [(gy, 26, (Cr.cells Cr.zero)), (gx, 26, Cr.cells ⟨f, d, 0, 0, m⟩), (w.heap.size, 24, cfgCells c s)]) (w0 := w) 0 rfl 3 rfl; have HC16 := St.cell (L := [(gy, 26, (Cr.cells Cr.zero)), (gx, 26, Cr.cells ⟨f, d, 0, 0, m⟩), (w.heap.size, 24, cfgCells c s)]) (w0 := w) 0 rfl 4 rfl; have HC17 := St.cell (L := [(gy, 26, (Cr.cells Cr.zero)), (gx, 26, Cr.cells ⟨f, d, 0, 0, m⟩), (w.heap.size, 24, cfgCells c s)]) (w0 := w) 1 rfl 0 rfl; have HC18 := St.cell (L := [(gy, 26, (Cr.cells Cr.zero)), (gx, 26, Cr.cells ⟨f, d, 0, 0, m⟩), (w.heap.size, 24, cfgCells c s)]) (w0 := w) 1 rfl 1 rfl; have HC19 := St.cell (L := [(gy, 26, (Cr.cells Cr.zero)), (gx, 26, Cr.cells ⟨f, d, 0, 0, m⟩), (w.heap.size, 24, cfgCells c s)]) (w0 := w) 1 rfl 2 rfl; have HC20 := St.cell (L := [(gy, 26, (Cr.cells Cr.zero)), (gx, 26, Cr.cells ⟨f, d, 0, 0, m⟩), (w.heap.size, 24, cfgCells c s)]) (w0 := w) 1 rfl 3 rfl; have HC21 := St.cell (L := [(gy, 26, (Cr.cells Cr.zero)), (gx, 26, Cr.cells ⟨f, d, 0, 0, m⟩), (w.heap.size, 24, cfgCells c s)]) (w0 := w) 1 rfl 4 rfl; have HL22 := St.loadC (L := [(gy, 26, (Cr.cells Cr.zero)), (gx, 26, Cr.cells ⟨f, d, 0, 0, m⟩), (w.heap.size, 24, cfgCells c s)]) (w0 := w) 2 rfl; have HC23 := St.cell (L := [(gy, 26, (Cr.cells Cr.zero)), (gx, 26, Cr.cells ⟨f, d, 0, 0, m⟩), (w.heap.size, 24, cfgCells c s)]) (w0 := w) 2 rfl 15 rfl; have HC24 := St.cell (L := [(gy, 26, (Cr.cells Cr.zero)), (gx, 26, Cr.cells ⟨f, d, 0, 0, m⟩), (w.heap.size, 24, cfgCells c s)]) (w0 := w) 2 rfl 16 rfl)
            go_roundg (gk - 1)
            case measure => have := HI.out; have := HIN.out; omega
            case rel => exact ⟨i + 1, op, ⟨f, d, 0, 0, m⟩, by have := HI.out; have := HIN.out; omega, by go_num, rfl, hS11.sub (List.sublist_cons_self _ _), HC.out, HK.out⟩
          · rw [hst] at hT hE
            have HT := Lib.hid (show doV c ⟨f, d, 0, 0, m⟩ 4 1 = ⟨f + 1, 1, 0, 0, true⟩ from hT)
            have HE := Lib.hid (show doE c ⟨f, d, 0, 0, m⟩ 4 1 = 0 from hE)
            have hfl : 1 ≤ f + 1 ∧ f + 1 ≤ c 0 := by
              unfold stepB floorV at hst
              simpa [HG.out] using hst
            have HY := Lib.hid (show cokV c ⟨f + 1, 1, 0, 0, true⟩ = true from cok_mk HG.out hfl ⟨by simp, by simp⟩ ⟨(by first | omega | (dsimp only; omega)), (by first | omega | (dsimp only; omega))⟩ ⟨(by first | omega | (dsimp only; omega)), (by first | omega | (dsimp only; omega))⟩ (.inr rfl))
            obtain ⟨hfl1, hfl2⟩ := hfl
            clear hT hE hst
            have HC1 := St.cell (L := [(gx, 26, Cr.cells ⟨f, d, 0, 0, m⟩), (w.heap.size, 24, cfgCells c s)]) (w0 := w) 0 rfl 0 rfl
            have HC2 := St.cell (L := [(gx, 26, Cr.cells ⟨f, d, 0, 0, m⟩), (w.heap.size, 24, cfgCells c s)]) (w0 := w) 0 rfl 1 rfl
            have HC3 := St.cell (L := [(gx, 26, Cr.cells ⟨f, d, 0, 0, m⟩), (w.heap.size, 24, cfgCells c s)]) (w0 := w) 0 rfl 2 rfl
            have HC4 := St.cell (L := [(gx, 26, Cr.cells ⟨f, d, 0, 0, m⟩), (w.heap.size, 24, cfgCells c s)]) (w0 := w) 0 rfl 3 rfl
            have HC5 := St.cell (L := [(gx, 26, Cr.cells ⟨f, d, 0, 0, m⟩), (w.heap.size, 24, cfgCells c s)]) (w0 := w) 0 rfl 4 rfl
            have HL6 := St.loadC (L := [(gx, 26, Cr.cells ⟨f, d, 0, 0, m⟩), (w.heap.size, 24, cfgCells c s)]) (w0 := w) 1 rfl
            have HC7 := St.cell (L := [(gx, 26, Cr.cells ⟨f, d, 0, 0, m⟩), (w.heap.size, 24, cfgCells c s)]) (w0 := w) 1 rfl 15 rfl
            have HC8 := St.cell (L := [(gx, 26, Cr.cells ⟨f, d, 0, 0, m⟩), (w.heap.size, 24, cfgCells c s)]) (w0 := w) 1 rfl 16 rfl
            go_wp2_with fail
            refine (does_is (k := 4) (dir := 1) s (by omega) (by omega) HT.out HE.out _).mono ?_
            rintro e w9 ⟨rfl, hB⟩
            clear hcell hm
            replace hR := St.step hR hB
            clear hB
            go_wp2_with (first | ((with_reducible show wpList _ _ _ (⟨none, .store 26 _ _, _, _, _, _⟩ :: _) _ _); refine store_new hR rfl rfl 26 _ _ rfl 26 _ (Cr.cells ⟨f + 1, 1, 0, 0, true⟩) rfl rfl (by kernel_rfl) rfl (by simp [Value.oneCell']) ?_; intro w10 hS11 hlt; clear hR HC1 HC2 HC3 HC4 HC5 HL6 HC7 HC8; generalize w9.heap.size = gy at hS11 hlt ⊢; clear hlt; have HC12 := St.cell (L := [(gy, 26, (Cr.cells ⟨f + 1, 1, 0, 0, true⟩)), (gx, 26, Cr.cells ⟨f, d, 0, 0, m⟩), (w.heap.size, 24, cfgCells c s)]) (w0 := w) 0 rfl 0 rfl; have HC13 := St.cell (L := [(gy, 26, (Cr.cells ⟨f + 1, 1, 0, 0, true⟩)), (gx, 26, Cr.cells ⟨f, d, 0, 0, m⟩), (w.heap.size, 24, cfgCells c s)]) (w0 := w) 0 rfl 1 rfl; have HC14 := St.cell (L := [(gy, 26, (Cr.cells ⟨f + 1, 1, 0, 0, true⟩)), (gx, 26, Cr.cells ⟨f, d, 0, 0, m⟩), (w.heap.size, 24, cfgCells c s)]) (w0 := w) 0 rfl 2 rfl; have HC15 := St.cell (L := [(gy, 26, (Cr.cells ⟨f + 1, 1, 0, 0, true⟩)), (gx, 26, Cr.cells ⟨f, d, 0, 0, m⟩), (w.heap.size, 24, cfgCells c s)]) (w0 := w) 0 rfl 3 rfl; have HC16 := St.cell (L := [(gy, 26, (Cr.cells ⟨f + 1, 1, 0, 0, true⟩)), (gx, 26, Cr.cells ⟨f, d, 0, 0, m⟩), (w.heap.size, 24, cfgCells c s)]) (w0 := w) 0 rfl 4 rfl; have HC17 := St.cell (L := [(gy, 26, (Cr.cells ⟨f + 1, 1, 0, 0, true⟩)), (gx, 26, Cr.cells ⟨f, d, 0, 0, m⟩), (w.heap.size, 24, cfgCells c s)]) (w0 := w) 1 rfl 0 rfl; have HC18 := St.cell (L := [(gy, 26, (Cr.cells ⟨f + 1, 1, 0, 0, true⟩)), (gx, 26, Cr.cells ⟨f, d, 0, 0, m⟩), (w.heap.size, 24, cfgCells c s)]) (w0 := w) 1 rfl 1 rfl; have HC19 := St.cell (L := [(gy, 26, (Cr.cells ⟨f + 1, 1, 0, 0, true⟩)), (gx, 26, Cr.cells ⟨f, d, 0, 0, m⟩), (w.heap.size, 24, cfgCells c s)]) (w0 := w) 1 rfl 2 rfl; have HC20 := St.cell (L := [(gy, 26, (Cr.cells ⟨f + 1, 1, 0, 0, true⟩)), (gx, 26, Cr.cells ⟨f, d, 0, 0, m⟩), (w.heap.size, 24, cfgCells c s)]) (w0 := w) 1 rfl 3 rfl; have HC21 := St.cell (L := [(gy, 26, (Cr.cells ⟨f + 1, 1, 0, 0, true⟩)), (gx, 26, Cr.cells ⟨f, d, 0, 0, m⟩), (w.heap.size, 24, cfgCells c s)]) (w0 := w) 1 rfl 4 rfl; have HL22 := St.loadC (L := [(gy, 26, (Cr.cells ⟨f + 1, 1, 0, 0, true⟩)), (gx, 26, Cr.cells ⟨f, d, 0, 0, m⟩), (w.heap.size, 24, cfgCells c s)]) (w0 := w) 2 rfl; have HC23 := St.cell (L := [(gy, 26, (Cr.cells ⟨f + 1, 1, 0, 0, true⟩)), (gx, 26, Cr.cells ⟨f, d, 0, 0, m⟩), (w.heap.size, 24, cfgCells c s)]) (w0 := w) 2 rfl 15 rfl; have HC24 := St.cell (L := [(gy, 26, (Cr.cells ⟨f + 1, 1, 0, 0, true⟩)), (gx, 26, Cr.cells ⟨f, d, 0, 0, m⟩), (w.heap.size, 24, cfgCells c s)]) (w0 := w) 2 rfl 16 rfl) | (go_at_call 7; refine (ccheck_is s HY.out _).mono ?_; rintro e w30 ⟨rfl, hB⟩; replace hS11 := St.step hS11 hB; clear hB) | ((with_reducible show wpList _ _ _ (⟨none, .store 26 _ _, _, _, _, _⟩ :: _) _ _); refine store_at hS11 rfl rfl 26 _ _ rfl 1 gx 26 (Cr.cells ⟨f, d, 0, 0, m⟩) (Cr.cells ⟨f + 1, 1, 0, 0, true⟩) rfl rfl rfl (by kernel_rfl) rfl (by simp [Value.oneCell']) ?_; intro w25 hS26; have hS26' : St w [(gy, 26, (Cr.cells ⟨f + 1, 1, 0, 0, true⟩)), (gx, 26, Cr.cells ⟨f + 1, 1, 0, 0, true⟩), (w.heap.size, 24, cfgCells c s)] w25 := hS26; clear hS11 HC12 HC13 HC14 HC15 HC16 HC17 HC18 HC19 HC20 HC21 HL22 HC23 HC24 hS26; have HC27 := St.cell (L := [(gy, 26, (Cr.cells ⟨f + 1, 1, 0, 0, true⟩)), (gx, 26, Cr.cells ⟨f + 1, 1, 0, 0, true⟩), (w.heap.size, 24, cfgCells c s)]) (w0 := w) 0 rfl 0 rfl; have HC28 := St.cell (L := [(gy, 26, (Cr.cells ⟨f + 1, 1, 0, 0, true⟩)), (gx, 26, Cr.cells ⟨f + 1, 1, 0, 0, true⟩), (w.heap.size, 24, cfgCells c s)]) (w0 := w) 0 rfl 1 rfl; have HC29 := St.cell (L := [(gy, 26, (Cr.cells ⟨f + 1, 1, 0, 0, true⟩)), (gx, 26, Cr.cells ⟨f + 1, 1, 0, 0, true⟩), (w.heap.size, 24, cfgCells c s)]) (w0 := w) 0 rfl 2 rfl; have HC30 := St.cell (L := [(gy, 26, (Cr.cells ⟨f + 1, 1, 0, 0, true⟩)), (gx, 26, Cr.cells ⟨f + 1, 1, 0, 0, true⟩), (w.heap.size, 24, cfgCells c s)]) (w0 := w) 0 rfl 3 rfl; have HC31 := St.cell (L := [(gy, 26, (Cr.cells ⟨f + 1, 1, 0, 0, true⟩)), (gx, 26, Cr.cells ⟨f + 1, 1, 0, 0, true⟩), (w.heap.size, 24, cfgCells c s)]) (w0 := w) 0 rfl 4 rfl; have HC32 := St.cell (L := [(gy, 26, (Cr.cells ⟨f + 1, 1, 0, 0, true⟩)), (gx, 26, Cr.cells ⟨f + 1, 1, 0, 0, true⟩), (w.heap.size, 24, cfgCells c s)]) (w0 := w) 1 rfl 0 rfl; have HC33 := St.cell (L := [(gy, 26, (Cr.cells ⟨f + 1, 1, 0, 0, true⟩)), (gx, 26, Cr.cells ⟨f + 1, 1, 0, 0, true⟩), (w.heap.size, 24, cfgCells c s)]) (w0 := w) 1 rfl 1 rfl; have HC34 := St.cell (L := [(gy, 26, (Cr.cells ⟨f + 1, 1, 0, 0, true⟩)), (gx, 26, Cr.cells ⟨f + 1, 1, 0, 0, true⟩), (w.heap.size, 24, cfgCells c s)]) (w0 := w) 1 rfl 2 rfl; have HC35 := St.cell (L := [(gy, 26, (Cr.cells ⟨f + 1, 1, 0, 0, true⟩)), (gx, 26, Cr.cells ⟨f + 1, 1, 0, 0, true⟩), (w.heap.size, 24, cfgCells c s)]) (w0 := w) 1 rfl 3 rfl; have HC36 := St.cell (L := [(gy, 26, (Cr.cells ⟨f + 1, 1, 0, 0, true⟩)), (gx, 26, Cr.cells ⟨f + 1, 1, 0, 0, true⟩), (w.heap.size, 24, cfgCells c s)]) (w0 := w) 1 rfl 4 rfl; have HL37 := St.loadC (L := [(gy, 26, (Cr.cells ⟨f + 1, 1, 0, 0, true⟩)), (gx, 26, Cr.cells ⟨f + 1, 1, 0, 0, true⟩), (w.heap.size, 24, cfgCells c s)]) (w0 := w) 2 rfl; have HC38 := St.cell (L := [(gy, 26, (Cr.cells ⟨f + 1, 1, 0, 0, true⟩)), (gx, 26, Cr.cells ⟨f + 1, 1, 0, 0, true⟩), (w.heap.size, 24, cfgCells c s)]) (w0 := w) 2 rfl 15 rfl; have HC39 := St.cell (L := [(gy, 26, (Cr.cells ⟨f + 1, 1, 0, 0, true⟩)), (gx, 26, Cr.cells ⟨f + 1, 1, 0, 0, true⟩), (w.heap.size, 24, cfgCells c s)]) (w0 := w) 2 rfl 16 rfl))
            go_roundg (gk - 1)
            case measure => have := HI.out; have := HIN.out; omega
            case rel => exact ⟨i + 1, op, ⟨f + 1, 1, 0, 0, true⟩, by have := HI.out; have := HIN.out; omega, by go_num, rfl, hS26'.sub (List.sublist_cons_self _ _), HY.out, ⟨(fun hh => by simp at hh), hop0, hop1⟩⟩
      · by_cases hop : 0 < o
        · have HT := Lib.hid (do_door HC.out 5 1 (by show decide (0 < o) = _; rw [decide_eq_true hop]; rfl)).1
          have HE := Lib.hid (do_door HC.out 5 1 (by show decide (0 < o) = _; rw [decide_eq_true hop]; rfl)).2
          have hob : decide (0 < o) = true := decide_eq_true hop
          clear hop
          have HC1 := St.cell (L := [(gx, 26, Cr.cells ⟨f, d, o, h, m⟩), (w.heap.size, 24, cfgCells c s)]) (w0 := w) 0 rfl 0 rfl
          have HC2 := St.cell (L := [(gx, 26, Cr.cells ⟨f, d, o, h, m⟩), (w.heap.size, 24, cfgCells c s)]) (w0 := w) 0 rfl 1 rfl
          have HC3 := St.cell (L := [(gx, 26, Cr.cells ⟨f, d, o, h, m⟩), (w.heap.size, 24, cfgCells c s)]) (w0 := w) 0 rfl 2 rfl
          have HC4 := St.cell (L := [(gx, 26, Cr.cells ⟨f, d, o, h, m⟩), (w.heap.size, 24, cfgCells c s)]) (w0 := w) 0 rfl 3 rfl
          have HC5 := St.cell (L := [(gx, 26, Cr.cells ⟨f, d, o, h, m⟩), (w.heap.size, 24, cfgCells c s)]) (w0 := w) 0 rfl 4 rfl
          have HL6 := St.loadC (L := [(gx, 26, Cr.cells ⟨f, d, o, h, m⟩), (w.heap.size, 24, cfgCells c s)]) (w0 := w) 1 rfl
          have HC7 := St.cell (L := [(gx, 26, Cr.cells ⟨f, d, o, h, m⟩), (w.heap.size, 24, cfgCells c s)]) (w0 := w) 1 rfl 15 rfl
          have HC8 := St.cell (L := [(gx, 26, Cr.cells ⟨f, d, o, h, m⟩), (w.heap.size, 24, cfgCells c s)]) (w0 := w) 1 rfl 16 rfl
          go_wp2_with fail
          refine (does_is (k := 5) (dir := 1) s (by omega) (by omega) HT.out HE.out _).mono ?_
          rintro e w9 ⟨rfl, hB⟩
          clear hcell hm
          replace hR := St.step hR hB
          clear hB
          go_wp2_with ((with_reducible show wpList _ _ _ (⟨none, .store 26 _ _, _, _, _, _⟩ :: _) _ _); refine store_new hR rfl rfl 26 _ _ rfl 26 _ (Cr.cells Cr.zero) rfl rfl (by kernel_rfl) rfl (by simp [Value.oneCell']) ?_; intro w10 hS11 hlt; clear hR HC1 HC2 HC3 HC4 HC5 HL6 HC7 HC8; generalize w9.heap.size = gy at hS11 hlt ⊢; clear hlt; have HC12 := St.cell (L := [(gy, 26, (Cr.cells Cr.zero)), (gx, 26, Cr.cells ⟨f, d, o, h, m⟩), (w.heap.size, 24, cfgCells c s)]) (w0 := w) 0 rfl 0 rfl; have HC13 := St.cell (L := [(gy, 26, (Cr.cells Cr.zero)), (gx, 26, Cr.cells ⟨f, d, o, h, m⟩), (w.heap.size, 24, cfgCells c s)]) (w0 := w) 0 rfl 1 rfl; have HC14 := St.cell (L := [(gy, 26, (Cr.cells Cr.zero)), (gx, 26, Cr.cells ⟨f, d, o, h, m⟩), (w.heap.size, 24, cfgCells c s)]) (w0 := w) 0 rfl 2 rfl; have HC15 := St.cell (L := [(gy, 26, (Cr.cells Cr.zero)), (gx, 26, Cr.cells ⟨f, d, o, h, m⟩), (w.heap.size, 24, cfgCells c s)]) (w0 := w) 0 rfl 3 rfl; have HC16 := St.cell (L := [(gy, 26, (Cr.cells Cr.zero)), (gx, 26, Cr.cells ⟨f, d, o, h, m⟩), (w.heap.size, 24, cfgCells c s)]) (w0 := w) 0 rfl 4 rfl; have HC17 := St.cell (L := [(gy, 26, (Cr.cells Cr.zero)), (gx, 26, Cr.cells ⟨f, d, o, h, m⟩), (w.heap.size, 24, cfgCells c s)]) (w0 := w) 1 rfl 0 rfl; have HC18 := St.cell (L := [(gy, 26, (Cr.cells Cr.zero)), (gx, 26, Cr.cells ⟨f, d, o, h, m⟩), (w.heap.size, 24, cfgCells c s)]) (w0 := w) 1 rfl 1 rfl; have HC19 := St.cell (L := [(gy, 26, (Cr.cells Cr.zero)), (gx, 26, Cr.cells ⟨f, d, o, h, m⟩), (w.heap.size, 24, cfgCells c s)]) (w0 := w) 1 rfl 2 rfl; have HC20 := St.cell (L := [(gy, 26, (Cr.cells Cr.zero)), (gx, 26, Cr.cells ⟨f, d, o, h, m⟩), (w.heap.size, 24, cfgCells c s)]) (w0 := w) 1 rfl 3 rfl; have HC21 := St.cell (L := [(gy, 26, (Cr.cells Cr.zero)), (gx, 26, Cr.cells ⟨f, d, o, h, m⟩), (w.heap.size, 24, cfgCells c s)]) (w0 := w) 1 rfl 4 rfl; have HL22 := St.loadC (L := [(gy, 26, (Cr.cells Cr.zero)), (gx, 26, Cr.cells ⟨f, d, o, h, m⟩), (w.heap.size, 24, cfgCells c s)]) (w0 := w) 2 rfl; have HC23 := St.cell (L := [(gy, 26, (Cr.cells Cr.zero)), (gx, 26, Cr.cells ⟨f, d, o, h, m⟩), (w.heap.size, 24, cfgCells c s)]) (w0 := w) 2 rfl 15 rfl; have HC24 := St.cell (L := [(gy, 26, (Cr.cells Cr.zero)), (gx, 26, Cr.cells ⟨f, d, o, h, m⟩), (w.heap.size, 24, cfgCells c s)]) (w0 := w) 2 rfl 16 rfl)
          go_roundg (gk - 1)
          case measure => have := HI.out; have := HIN.out; omega
          case rel => exact ⟨i + 1, op, ⟨f, d, o, h, m⟩, by have := HI.out; have := HIN.out; omega, by go_num, rfl, hS11.sub (List.sublist_cons_self _ _), HC.out, HK.out⟩
        · obtain rfl : o = 0 := by omega
          obtain rfl : h = 0 := by rcases HOH.out with hq | hq
                                   · simp at hq
                                   · simpa using hq
          clear hop
          obtain ⟨hT, hE⟩ := r_rest HC.out 1
          have HT := Lib.hid (show doV c ⟨f, d, 0, 0, m⟩ 5 1 = ⟨f, 0, 0, 0, m⟩ from hT)
          have HE := Lib.hid hE
          have HY := Lib.hid (show cokV c ⟨f, 0, 0, 0, m⟩ = true from cok_mk HG.out ⟨(by first | omega | (dsimp only; omega)), (by first | omega | (dsimp only; omega))⟩ ⟨by show (-1 : Int) ≤ 0; omega, by show (0 : Int) ≤ 1; omega⟩ ⟨(by first | omega | (dsimp only; omega)), (by first | omega | (dsimp only; omega))⟩ ⟨(by first | omega | (dsimp only; omega)), (by first | omega | (dsimp only; omega))⟩ (.inr rfl))
          clear hT hE
          have HC1 := St.cell (L := [(gx, 26, Cr.cells ⟨f, d, 0, 0, m⟩), (w.heap.size, 24, cfgCells c s)]) (w0 := w) 0 rfl 0 rfl
          have HC2 := St.cell (L := [(gx, 26, Cr.cells ⟨f, d, 0, 0, m⟩), (w.heap.size, 24, cfgCells c s)]) (w0 := w) 0 rfl 1 rfl
          have HC3 := St.cell (L := [(gx, 26, Cr.cells ⟨f, d, 0, 0, m⟩), (w.heap.size, 24, cfgCells c s)]) (w0 := w) 0 rfl 2 rfl
          have HC4 := St.cell (L := [(gx, 26, Cr.cells ⟨f, d, 0, 0, m⟩), (w.heap.size, 24, cfgCells c s)]) (w0 := w) 0 rfl 3 rfl
          have HC5 := St.cell (L := [(gx, 26, Cr.cells ⟨f, d, 0, 0, m⟩), (w.heap.size, 24, cfgCells c s)]) (w0 := w) 0 rfl 4 rfl
          have HL6 := St.loadC (L := [(gx, 26, Cr.cells ⟨f, d, 0, 0, m⟩), (w.heap.size, 24, cfgCells c s)]) (w0 := w) 1 rfl
          have HC7 := St.cell (L := [(gx, 26, Cr.cells ⟨f, d, 0, 0, m⟩), (w.heap.size, 24, cfgCells c s)]) (w0 := w) 1 rfl 15 rfl
          have HC8 := St.cell (L := [(gx, 26, Cr.cells ⟨f, d, 0, 0, m⟩), (w.heap.size, 24, cfgCells c s)]) (w0 := w) 1 rfl 16 rfl
          go_wp2_with fail
          refine (does_is (k := 5) (dir := 1) s (by omega) (by omega) HT.out HE.out _).mono ?_
          rintro e w9 ⟨rfl, hB⟩
          clear hcell hm
          replace hR := St.step hR hB
          clear hB
          go_wp2_with (first | ((with_reducible show wpList _ _ _ (⟨none, .store 26 _ _, _, _, _, _⟩ :: _) _ _); refine store_new hR rfl rfl 26 _ _ rfl 26 _ (Cr.cells ⟨f, 0, 0, 0, m⟩) rfl rfl (by kernel_rfl) rfl (by simp [Value.oneCell']) ?_; intro w10 hS11 hlt; clear hR HC1 HC2 HC3 HC4 HC5 HL6 HC7 HC8; generalize w9.heap.size = gy at hS11 hlt ⊢; clear hlt; have HC12 := St.cell (L := [(gy, 26, (Cr.cells ⟨f, 0, 0, 0, m⟩)), (gx, 26, Cr.cells ⟨f, d, 0, 0, m⟩), (w.heap.size, 24, cfgCells c s)]) (w0 := w) 0 rfl 0 rfl; have HC13 := St.cell (L := [(gy, 26, (Cr.cells ⟨f, 0, 0, 0, m⟩)), (gx, 26, Cr.cells ⟨f, d, 0, 0, m⟩), (w.heap.size, 24, cfgCells c s)]) (w0 := w) 0 rfl 1 rfl; have HC14 := St.cell (L := [(gy, 26, (Cr.cells ⟨f, 0, 0, 0, m⟩)), (gx, 26, Cr.cells ⟨f, d, 0, 0, m⟩), (w.heap.size, 24, cfgCells c s)]) (w0 := w) 0 rfl 2 rfl; have HC15 := St.cell (L := [(gy, 26, (Cr.cells ⟨f, 0, 0, 0, m⟩)), (gx, 26, Cr.cells ⟨f, d, 0, 0, m⟩), (w.heap.size, 24, cfgCells c s)]) (w0 := w) 0 rfl 3 rfl; have HC16 := St.cell (L := [(gy, 26, (Cr.cells ⟨f, 0, 0, 0, m⟩)), (gx, 26, Cr.cells ⟨f, d, 0, 0, m⟩), (w.heap.size, 24, cfgCells c s)]) (w0 := w) 0 rfl 4 rfl; have HC17 := St.cell (L := [(gy, 26, (Cr.cells ⟨f, 0, 0, 0, m⟩)), (gx, 26, Cr.cells ⟨f, d, 0, 0, m⟩), (w.heap.size, 24, cfgCells c s)]) (w0 := w) 1 rfl 0 rfl; have HC18 := St.cell (L := [(gy, 26, (Cr.cells ⟨f, 0, 0, 0, m⟩)), (gx, 26, Cr.cells ⟨f, d, 0, 0, m⟩), (w.heap.size, 24, cfgCells c s)]) (w0 := w) 1 rfl 1 rfl; have HC19 := St.cell (L := [(gy, 26, (Cr.cells ⟨f, 0, 0, 0, m⟩)), (gx, 26, Cr.cells ⟨f, d, 0, 0, m⟩), (w.heap.size, 24, cfgCells c s)]) (w0 := w) 1 rfl 2 rfl; have HC20 := St.cell (L := [(gy, 26, (Cr.cells ⟨f, 0, 0, 0, m⟩)), (gx, 26, Cr.cells ⟨f, d, 0, 0, m⟩), (w.heap.size, 24, cfgCells c s)]) (w0 := w) 1 rfl 3 rfl; have HC21 := St.cell (L := [(gy, 26, (Cr.cells ⟨f, 0, 0, 0, m⟩)), (gx, 26, Cr.cells ⟨f, d, 0, 0, m⟩), (w.heap.size, 24, cfgCells c s)]) (w0 := w) 1 rfl 4 rfl; have HL22 := St.loadC (L := [(gy, 26, (Cr.cells ⟨f, 0, 0, 0, m⟩)), (gx, 26, Cr.cells ⟨f, d, 0, 0, m⟩), (w.heap.size, 24, cfgCells c s)]) (w0 := w) 2 rfl; have HC23 := St.cell (L := [(gy, 26, (Cr.cells ⟨f, 0, 0, 0, m⟩)), (gx, 26, Cr.cells ⟨f, d, 0, 0, m⟩), (w.heap.size, 24, cfgCells c s)]) (w0 := w) 2 rfl 15 rfl; have HC24 := St.cell (L := [(gy, 26, (Cr.cells ⟨f, 0, 0, 0, m⟩)), (gx, 26, Cr.cells ⟨f, d, 0, 0, m⟩), (w.heap.size, 24, cfgCells c s)]) (w0 := w) 2 rfl 16 rfl) | (go_at_call 7; refine (ccheck_is s HY.out _).mono ?_; rintro e w30 ⟨rfl, hB⟩; replace hS11 := St.step hS11 hB; clear hB) | ((with_reducible show wpList _ _ _ (⟨none, .store 26 _ _, _, _, _, _⟩ :: _) _ _); refine store_at hS11 rfl rfl 26 _ _ rfl 1 gx 26 (Cr.cells ⟨f, d, 0, 0, m⟩) (Cr.cells ⟨f, 0, 0, 0, m⟩) rfl rfl rfl (by kernel_rfl) rfl (by simp [Value.oneCell']) ?_; intro w25 hS26; have hS26' : St w [(gy, 26, (Cr.cells ⟨f, 0, 0, 0, m⟩)), (gx, 26, Cr.cells ⟨f, 0, 0, 0, m⟩), (w.heap.size, 24, cfgCells c s)] w25 := hS26; clear hS11 HC12 HC13 HC14 HC15 HC16 HC17 HC18 HC19 HC20 HC21 HL22 HC23 HC24 hS26; have HC27 := St.cell (L := [(gy, 26, (Cr.cells ⟨f, 0, 0, 0, m⟩)), (gx, 26, Cr.cells ⟨f, 0, 0, 0, m⟩), (w.heap.size, 24, cfgCells c s)]) (w0 := w) 0 rfl 0 rfl; have HC28 := St.cell (L := [(gy, 26, (Cr.cells ⟨f, 0, 0, 0, m⟩)), (gx, 26, Cr.cells ⟨f, 0, 0, 0, m⟩), (w.heap.size, 24, cfgCells c s)]) (w0 := w) 0 rfl 1 rfl; have HC29 := St.cell (L := [(gy, 26, (Cr.cells ⟨f, 0, 0, 0, m⟩)), (gx, 26, Cr.cells ⟨f, 0, 0, 0, m⟩), (w.heap.size, 24, cfgCells c s)]) (w0 := w) 0 rfl 2 rfl; have HC30 := St.cell (L := [(gy, 26, (Cr.cells ⟨f, 0, 0, 0, m⟩)), (gx, 26, Cr.cells ⟨f, 0, 0, 0, m⟩), (w.heap.size, 24, cfgCells c s)]) (w0 := w) 0 rfl 3 rfl; have HC31 := St.cell (L := [(gy, 26, (Cr.cells ⟨f, 0, 0, 0, m⟩)), (gx, 26, Cr.cells ⟨f, 0, 0, 0, m⟩), (w.heap.size, 24, cfgCells c s)]) (w0 := w) 0 rfl 4 rfl; have HC32 := St.cell (L := [(gy, 26, (Cr.cells ⟨f, 0, 0, 0, m⟩)), (gx, 26, Cr.cells ⟨f, 0, 0, 0, m⟩), (w.heap.size, 24, cfgCells c s)]) (w0 := w) 1 rfl 0 rfl; have HC33 := St.cell (L := [(gy, 26, (Cr.cells ⟨f, 0, 0, 0, m⟩)), (gx, 26, Cr.cells ⟨f, 0, 0, 0, m⟩), (w.heap.size, 24, cfgCells c s)]) (w0 := w) 1 rfl 1 rfl; have HC34 := St.cell (L := [(gy, 26, (Cr.cells ⟨f, 0, 0, 0, m⟩)), (gx, 26, Cr.cells ⟨f, 0, 0, 0, m⟩), (w.heap.size, 24, cfgCells c s)]) (w0 := w) 1 rfl 2 rfl; have HC35 := St.cell (L := [(gy, 26, (Cr.cells ⟨f, 0, 0, 0, m⟩)), (gx, 26, Cr.cells ⟨f, 0, 0, 0, m⟩), (w.heap.size, 24, cfgCells c s)]) (w0 := w) 1 rfl 3 rfl; have HC36 := St.cell (L := [(gy, 26, (Cr.cells ⟨f, 0, 0, 0, m⟩)), (gx, 26, Cr.cells ⟨f, 0, 0, 0, m⟩), (w.heap.size, 24, cfgCells c s)]) (w0 := w) 1 rfl 4 rfl; have HL37 := St.loadC (L := [(gy, 26, (Cr.cells ⟨f, 0, 0, 0, m⟩)), (gx, 26, Cr.cells ⟨f, 0, 0, 0, m⟩), (w.heap.size, 24, cfgCells c s)]) (w0 := w) 2 rfl; have HC38 := St.cell (L := [(gy, 26, (Cr.cells ⟨f, 0, 0, 0, m⟩)), (gx, 26, Cr.cells ⟨f, 0, 0, 0, m⟩), (w.heap.size, 24, cfgCells c s)]) (w0 := w) 2 rfl 15 rfl; have HC39 := St.cell (L := [(gy, 26, (Cr.cells ⟨f, 0, 0, 0, m⟩)), (gx, 26, Cr.cells ⟨f, 0, 0, 0, m⟩), (w.heap.size, 24, cfgCells c s)]) (w0 := w) 2 rfl 16 rfl))
          go_roundg (gk - 1)
          case measure => have := HI.out; have := HIN.out; omega
          case rel => exact ⟨i + 1, op, ⟨f, 0, 0, 0, m⟩, by have := HI.out; have := HIN.out; omega, by go_num, rfl, hS26'.sub (List.sublist_cons_self _ _), HY.out, ⟨(fun hh => by simp at hh), hop0, hop1⟩⟩
      · by_cases hop : 0 < o
        · have HT := Lib.hid (do_door HC.out 4 (-1) (by show decide (0 < o) = _; rw [decide_eq_true hop]; rfl)).1
          have HE := Lib.hid (do_door HC.out 4 (-1) (by show decide (0 < o) = _; rw [decide_eq_true hop]; rfl)).2
          have hob : decide (0 < o) = true := decide_eq_true hop
          clear hop
          have HC1 := St.cell (L := [(gx, 26, Cr.cells ⟨f, d, o, h, m⟩), (w.heap.size, 24, cfgCells c s)]) (w0 := w) 0 rfl 0 rfl
          have HC2 := St.cell (L := [(gx, 26, Cr.cells ⟨f, d, o, h, m⟩), (w.heap.size, 24, cfgCells c s)]) (w0 := w) 0 rfl 1 rfl
          have HC3 := St.cell (L := [(gx, 26, Cr.cells ⟨f, d, o, h, m⟩), (w.heap.size, 24, cfgCells c s)]) (w0 := w) 0 rfl 2 rfl
          have HC4 := St.cell (L := [(gx, 26, Cr.cells ⟨f, d, o, h, m⟩), (w.heap.size, 24, cfgCells c s)]) (w0 := w) 0 rfl 3 rfl
          have HC5 := St.cell (L := [(gx, 26, Cr.cells ⟨f, d, o, h, m⟩), (w.heap.size, 24, cfgCells c s)]) (w0 := w) 0 rfl 4 rfl
          have HL6 := St.loadC (L := [(gx, 26, Cr.cells ⟨f, d, o, h, m⟩), (w.heap.size, 24, cfgCells c s)]) (w0 := w) 1 rfl
          have HC7 := St.cell (L := [(gx, 26, Cr.cells ⟨f, d, o, h, m⟩), (w.heap.size, 24, cfgCells c s)]) (w0 := w) 1 rfl 15 rfl
          have HC8 := St.cell (L := [(gx, 26, Cr.cells ⟨f, d, o, h, m⟩), (w.heap.size, 24, cfgCells c s)]) (w0 := w) 1 rfl 16 rfl
          go_wp2_with fail
          refine (does_is (k := 4) (dir := (-1)) s (by omega) (by omega) HT.out HE.out _).mono ?_
          rintro e w9 ⟨rfl, hB⟩
          clear hcell hm
          replace hR := St.step hR hB
          clear hB
          go_wp2_with ((with_reducible show wpList _ _ _ (⟨none, .store 26 _ _, _, _, _, _⟩ :: _) _ _); refine store_new hR rfl rfl 26 _ _ rfl 26 _ (Cr.cells Cr.zero) rfl rfl (by kernel_rfl) rfl (by simp [Value.oneCell']) ?_; intro w10 hS11 hlt; clear hR HC1 HC2 HC3 HC4 HC5 HL6 HC7 HC8; generalize w9.heap.size = gy at hS11 hlt ⊢; clear hlt; have HC12 := St.cell (L := [(gy, 26, (Cr.cells Cr.zero)), (gx, 26, Cr.cells ⟨f, d, o, h, m⟩), (w.heap.size, 24, cfgCells c s)]) (w0 := w) 0 rfl 0 rfl; have HC13 := St.cell (L := [(gy, 26, (Cr.cells Cr.zero)), (gx, 26, Cr.cells ⟨f, d, o, h, m⟩), (w.heap.size, 24, cfgCells c s)]) (w0 := w) 0 rfl 1 rfl; have HC14 := St.cell (L := [(gy, 26, (Cr.cells Cr.zero)), (gx, 26, Cr.cells ⟨f, d, o, h, m⟩), (w.heap.size, 24, cfgCells c s)]) (w0 := w) 0 rfl 2 rfl; have HC15 := St.cell (L := [(gy, 26, (Cr.cells Cr.zero)), (gx, 26, Cr.cells ⟨f, d, o, h, m⟩), (w.heap.size, 24, cfgCells c s)]) (w0 := w) 0 rfl 3 rfl; have HC16 := St.cell (L := [(gy, 26, (Cr.cells Cr.zero)), (gx, 26, Cr.cells ⟨f, d, o, h, m⟩), (w.heap.size, 24, cfgCells c s)]) (w0 := w) 0 rfl 4 rfl; have HC17 := St.cell (L := [(gy, 26, (Cr.cells Cr.zero)), (gx, 26, Cr.cells ⟨f, d, o, h, m⟩), (w.heap.size, 24, cfgCells c s)]) (w0 := w) 1 rfl 0 rfl; have HC18 := St.cell (L := [(gy, 26, (Cr.cells Cr.zero)), (gx, 26, Cr.cells ⟨f, d, o, h, m⟩), (w.heap.size, 24, cfgCells c s)]) (w0 := w) 1 rfl 1 rfl; have HC19 := St.cell (L := [(gy, 26, (Cr.cells Cr.zero)), (gx, 26, Cr.cells ⟨f, d, o, h, m⟩), (w.heap.size, 24, cfgCells c s)]) (w0 := w) 1 rfl 2 rfl; have HC20 := St.cell (L := [(gy, 26, (Cr.cells Cr.zero)), (gx, 26, Cr.cells ⟨f, d, o, h, m⟩), (w.heap.size, 24, cfgCells c s)]) (w0 := w) 1 rfl 3 rfl; have HC21 := St.cell (L := [(gy, 26, (Cr.cells Cr.zero)), (gx, 26, Cr.cells ⟨f, d, o, h, m⟩), (w.heap.size, 24, cfgCells c s)]) (w0 := w) 1 rfl 4 rfl; have HL22 := St.loadC (L := [(gy, 26, (Cr.cells Cr.zero)), (gx, 26, Cr.cells ⟨f, d, o, h, m⟩), (w.heap.size, 24, cfgCells c s)]) (w0 := w) 2 rfl; have HC23 := St.cell (L := [(gy, 26, (Cr.cells Cr.zero)), (gx, 26, Cr.cells ⟨f, d, o, h, m⟩), (w.heap.size, 24, cfgCells c s)]) (w0 := w) 2 rfl 15 rfl; have HC24 := St.cell (L := [(gy, 26, (Cr.cells Cr.zero)), (gx, 26, Cr.cells ⟨f, d, o, h, m⟩), (w.heap.size, 24, cfgCells c s)]) (w0 := w) 2 rfl 16 rfl)
          go_roundg (gk - 1)
          case measure => have := HI.out; have := HIN.out; omega
          case rel => exact ⟨i + 1, op, ⟨f, d, o, h, m⟩, by have := HI.out; have := HIN.out; omega, by go_num, rfl, hS11.sub (List.sublist_cons_self _ _), HC.out, HK.out⟩
        · obtain rfl : o = 0 := by omega
          obtain rfl : h = 0 := by rcases HOH.out with hq | hq
                                   · simp at hq
                                   · simpa using hq
          clear hop
          obtain ⟨hT, hE⟩ := r_go HC.out (-1)
          cases hst : stepB c ⟨f, d, 0, 0, m⟩ (-1)
          · rw [hst] at hT hE
            have HT := Lib.hid (show doV c ⟨f, d, 0, 0, m⟩ 4 (-1) = Cr.zero from hT)
            have HE := Lib.hid (show doE c ⟨f, d, 0, 0, m⟩ 4 (-1) = 3 from hE)
            clear hT hE hst
            have HC1 := St.cell (L := [(gx, 26, Cr.cells ⟨f, d, 0, 0, m⟩), (w.heap.size, 24, cfgCells c s)]) (w0 := w) 0 rfl 0 rfl
            have HC2 := St.cell (L := [(gx, 26, Cr.cells ⟨f, d, 0, 0, m⟩), (w.heap.size, 24, cfgCells c s)]) (w0 := w) 0 rfl 1 rfl
            have HC3 := St.cell (L := [(gx, 26, Cr.cells ⟨f, d, 0, 0, m⟩), (w.heap.size, 24, cfgCells c s)]) (w0 := w) 0 rfl 2 rfl
            have HC4 := St.cell (L := [(gx, 26, Cr.cells ⟨f, d, 0, 0, m⟩), (w.heap.size, 24, cfgCells c s)]) (w0 := w) 0 rfl 3 rfl
            have HC5 := St.cell (L := [(gx, 26, Cr.cells ⟨f, d, 0, 0, m⟩), (w.heap.size, 24, cfgCells c s)]) (w0 := w) 0 rfl 4 rfl
            have HL6 := St.loadC (L := [(gx, 26, Cr.cells ⟨f, d, 0, 0, m⟩), (w.heap.size, 24, cfgCells c s)]) (w0 := w) 1 rfl
            have HC7 := St.cell (L := [(gx, 26, Cr.cells ⟨f, d, 0, 0, m⟩), (w.heap.size, 24, cfgCells c s)]) (w0 := w) 1 rfl 15 rfl
            have HC8 := St.cell (L := [(gx, 26, Cr.cells ⟨f, d, 0, 0, m⟩), (w.heap.size, 24, cfgCells c s)]) (w0 := w) 1 rfl 16 rfl
            go_wp2_with fail
            refine (does_is (k := 4) (dir := (-1)) s (by omega) (by omega) HT.out HE.out _).mono ?_
            rintro e w9 ⟨rfl, hB⟩
            clear hcell hm
            replace hR := St.step hR hB
            clear hB
            go_wp2_with ((with_reducible show wpList _ _ _ (⟨none, .store 26 _ _, _, _, _, _⟩ :: _) _ _); refine store_new hR rfl rfl 26 _ _ rfl 26 _ (Cr.cells Cr.zero) rfl rfl (by kernel_rfl) rfl (by simp [Value.oneCell']) ?_; intro w10 hS11 hlt; clear hR HC1 HC2 HC3 HC4 HC5 HL6 HC7 HC8; generalize w9.heap.size = gy at hS11 hlt ⊢; clear hlt; have HC12 := St.cell (L := [(gy, 26, (Cr.cells Cr.zero)), (gx, 26, Cr.cells ⟨f, d, 0, 0, m⟩), (w.heap.size, 24, cfgCells c s)]) (w0 := w) 0 rfl 0 rfl; have HC13 := St.cell (L := [(gy, 26, (Cr.cells Cr.zero)), (gx, 26, Cr.cells ⟨f, d, 0, 0, m⟩), (w.heap.size, 24, cfgCells c s)]) (w0 := w) 0 rfl 1 rfl; have HC14 := St.cell (L := [(gy, 26, (Cr.cells Cr.zero)), (gx, 26, Cr.cells ⟨f, d, 0, 0, m⟩), (w.heap.size, 24, cfgCells c s)]) (w0 := w) 0 rfl 2 rfl; have HC15 := St.cell (L := [(gy, 26, (Cr.cells Cr.zero)), (gx, 26, Cr.cells ⟨f, d, 0, 0, m⟩), (w.heap.size, 24, cfgCells c s)]) (w0 := w) 0 rfl 3 rfl; have HC16 := St.cell (L := [(gy, 26, (Cr.cells Cr.zero)), (gx, 26, Cr.cells ⟨f, d, 0, 0, m⟩), (w.heap.size, 24, cfgCells c s)]) (w0 := w) 0 rfl 4 rfl; have HC17 := St.cell (L := [(gy, 26, (Cr.cells Cr.zero)), (gx, 26, Cr.cells ⟨f, d, 0, 0, m⟩), (w.heap.size, 24, cfgCells c s)]) (w0 := w) 1 rfl 0 rfl; have HC18 := St.cell (L := [(gy, 26, (Cr.cells Cr.zero)), (gx, 26, Cr.cells ⟨f, d, 0, 0, m⟩), (w.heap.size, 24, cfgCells c s)]) (w0 := w) 1 rfl 1 rfl; have HC19 := St.cell (L := [(gy, 26, (Cr.cells Cr.zero)), (gx, 26, Cr.cells ⟨f, d, 0, 0, m⟩), (w.heap.size, 24, cfgCells c s)]) (w0 := w) 1 rfl 2 rfl; have HC20 := St.cell (L := [(gy, 26, (Cr.cells Cr.zero)), (gx, 26, Cr.cells ⟨f, d, 0, 0, m⟩), (w.heap.size, 24, cfgCells c s)]) (w0 := w) 1 rfl 3 rfl; have HC21 := St.cell (L := [(gy, 26, (Cr.cells Cr.zero)), (gx, 26, Cr.cells ⟨f, d, 0, 0, m⟩), (w.heap.size, 24, cfgCells c s)]) (w0 := w) 1 rfl 4 rfl; have HL22 := St.loadC (L := [(gy, 26, (Cr.cells Cr.zero)), (gx, 26, Cr.cells ⟨f, d, 0, 0, m⟩), (w.heap.size, 24, cfgCells c s)]) (w0 := w) 2 rfl; have HC23 := St.cell (L := [(gy, 26, (Cr.cells Cr.zero)), (gx, 26, Cr.cells ⟨f, d, 0, 0, m⟩), (w.heap.size, 24, cfgCells c s)]) (w0 := w) 2 rfl 15 rfl; have HC24 := St.cell (L := [(gy, 26, (Cr.cells Cr.zero)), (gx, 26, Cr.cells ⟨f, d, 0, 0, m⟩), (w.heap.size, 24, cfgCells c s)]) (w0 := w) 2 rfl 16 rfl)
            go_roundg (gk - 1)
            case measure => have := HI.out; have := HIN.out; omega
            case rel => exact ⟨i + 1, op, ⟨f, d, 0, 0, m⟩, by have := HI.out; have := HIN.out; omega, by go_num, rfl, hS11.sub (List.sublist_cons_self _ _), HC.out, HK.out⟩
          · rw [hst] at hT hE
            have HT := Lib.hid (show doV c ⟨f, d, 0, 0, m⟩ 4 (-1) = ⟨f + (-1), (-1), 0, 0, true⟩ from hT)
            have HE := Lib.hid (show doE c ⟨f, d, 0, 0, m⟩ 4 (-1) = 0 from hE)
            have hfl : 1 ≤ f + (-1) ∧ f + (-1) ≤ c 0 := by
              unfold stepB floorV at hst
              simpa [HG.out] using hst
            have HY := Lib.hid (show cokV c ⟨f + (-1), (-1), 0, 0, true⟩ = true from cok_mk HG.out hfl ⟨by simp, by simp⟩ ⟨(by first | omega | (dsimp only; omega)), (by first | omega | (dsimp only; omega))⟩ ⟨(by first | omega | (dsimp only; omega)), (by first | omega | (dsimp only; omega))⟩ (.inr rfl))
            obtain ⟨hfl1, hfl2⟩ := hfl
            clear hT hE hst
            have HC1 := St.cell (L := [(gx, 26, Cr.cells ⟨f, d, 0, 0, m⟩), (w.heap.size, 24, cfgCells c s)]) (w0 := w) 0 rfl 0 rfl
            have HC2 := St.cell (L := [(gx, 26, Cr.cells ⟨f, d, 0, 0, m⟩), (w.heap.size, 24, cfgCells c s)]) (w0 := w) 0 rfl 1 rfl
            have HC3 := St.cell (L := [(gx, 26, Cr.cells ⟨f, d, 0, 0, m⟩), (w.heap.size, 24, cfgCells c s)]) (w0 := w) 0 rfl 2 rfl
            have HC4 := St.cell (L := [(gx, 26, Cr.cells ⟨f, d, 0, 0, m⟩), (w.heap.size, 24, cfgCells c s)]) (w0 := w) 0 rfl 3 rfl
            have HC5 := St.cell (L := [(gx, 26, Cr.cells ⟨f, d, 0, 0, m⟩), (w.heap.size, 24, cfgCells c s)]) (w0 := w) 0 rfl 4 rfl
            have HL6 := St.loadC (L := [(gx, 26, Cr.cells ⟨f, d, 0, 0, m⟩), (w.heap.size, 24, cfgCells c s)]) (w0 := w) 1 rfl
            have HC7 := St.cell (L := [(gx, 26, Cr.cells ⟨f, d, 0, 0, m⟩), (w.heap.size, 24, cfgCells c s)]) (w0 := w) 1 rfl 15 rfl
            have HC8 := St.cell (L := [(gx, 26, Cr.cells ⟨f, d, 0, 0, m⟩), (w.heap.size, 24, cfgCells c s)]) (w0 := w) 1 rfl 16 rfl
            go_wp2_with fail
            refine (does_is (k := 4) (dir := (-1)) s (by omega) (by omega) HT.out HE.out _).mono ?_
            rintro e w9 ⟨rfl, hB⟩
            clear hcell hm
            replace hR := St.step hR hB
            clear hB
            go_wp2_with (first | ((with_reducible show wpList _ _ _ (⟨none, .store 26 _ _, _, _, _, _⟩ :: _) _ _); refine store_new hR rfl rfl 26 _ _ rfl 26 _ (Cr.cells ⟨f + (-1), (-1), 0, 0, true⟩) rfl rfl (by kernel_rfl) rfl (by simp [Value.oneCell']) ?_; intro w10 hS11 hlt; clear hR HC1 HC2 HC3 HC4 HC5 HL6 HC7 HC8; generalize w9.heap.size = gy at hS11 hlt ⊢; clear hlt; have HC12 := St.cell (L := [(gy, 26, (Cr.cells ⟨f + (-1), (-1), 0, 0, true⟩)), (gx, 26, Cr.cells ⟨f, d, 0, 0, m⟩), (w.heap.size, 24, cfgCells c s)]) (w0 := w) 0 rfl 0 rfl; have HC13 := St.cell (L := [(gy, 26, (Cr.cells ⟨f + (-1), (-1), 0, 0, true⟩)), (gx, 26, Cr.cells ⟨f, d, 0, 0, m⟩), (w.heap.size, 24, cfgCells c s)]) (w0 := w) 0 rfl 1 rfl; have HC14 := St.cell (L := [(gy, 26, (Cr.cells ⟨f + (-1), (-1), 0, 0, true⟩)), (gx, 26, Cr.cells ⟨f, d, 0, 0, m⟩), (w.heap.size, 24, cfgCells c s)]) (w0 := w) 0 rfl 2 rfl; have HC15 := St.cell (L := [(gy, 26, (Cr.cells ⟨f + (-1), (-1), 0, 0, true⟩)), (gx, 26, Cr.cells ⟨f, d, 0, 0, m⟩), (w.heap.size, 24, cfgCells c s)]) (w0 := w) 0 rfl 3 rfl; have HC16 := St.cell (L := [(gy, 26, (Cr.cells ⟨f + (-1), (-1), 0, 0, true⟩)), (gx, 26, Cr.cells ⟨f, d, 0, 0, m⟩), (w.heap.size, 24, cfgCells c s)]) (w0 := w) 0 rfl 4 rfl; have HC17 := St.cell (L := [(gy, 26, (Cr.cells ⟨f + (-1), (-1), 0, 0, true⟩)), (gx, 26, Cr.cells ⟨f, d, 0, 0, m⟩), (w.heap.size, 24, cfgCells c s)]) (w0 := w) 1 rfl 0 rfl; have HC18 := St.cell (L := [(gy, 26, (Cr.cells ⟨f + (-1), (-1), 0, 0, true⟩)), (gx, 26, Cr.cells ⟨f, d, 0, 0, m⟩), (w.heap.size, 24, cfgCells c s)]) (w0 := w) 1 rfl 1 rfl; have HC19 := St.cell (L := [(gy, 26, (Cr.cells ⟨f + (-1), (-1), 0, 0, true⟩)), (gx, 26, Cr.cells ⟨f, d, 0, 0, m⟩), (w.heap.size, 24, cfgCells c s)]) (w0 := w) 1 rfl 2 rfl; have HC20 := St.cell (L := [(gy, 26, (Cr.cells ⟨f + (-1), (-1), 0, 0, true⟩)), (gx, 26, Cr.cells ⟨f, d, 0, 0, m⟩), (w.heap.size, 24, cfgCells c s)]) (w0 := w) 1 rfl 3 rfl; have HC21 := St.cell (L := [(gy, 26, (Cr.cells ⟨f + (-1), (-1), 0, 0, true⟩)), (gx, 26, Cr.cells ⟨f, d, 0, 0, m⟩), (w.heap.size, 24, cfgCells c s)]) (w0 := w) 1 rfl 4 rfl; have HL22 := St.loadC (L := [(gy, 26, (Cr.cells ⟨f + (-1), (-1), 0, 0, true⟩)), (gx, 26, Cr.cells ⟨f, d, 0, 0, m⟩), (w.heap.size, 24, cfgCells c s)]) (w0 := w) 2 rfl; have HC23 := St.cell (L := [(gy, 26, (Cr.cells ⟨f + (-1), (-1), 0, 0, true⟩)), (gx, 26, Cr.cells ⟨f, d, 0, 0, m⟩), (w.heap.size, 24, cfgCells c s)]) (w0 := w) 2 rfl 15 rfl; have HC24 := St.cell (L := [(gy, 26, (Cr.cells ⟨f + (-1), (-1), 0, 0, true⟩)), (gx, 26, Cr.cells ⟨f, d, 0, 0, m⟩), (w.heap.size, 24, cfgCells c s)]) (w0 := w) 2 rfl 16 rfl) | (go_at_call 7; refine (ccheck_is s HY.out _).mono ?_; rintro e w30 ⟨rfl, hB⟩; replace hS11 := St.step hS11 hB; clear hB) | ((with_reducible show wpList _ _ _ (⟨none, .store 26 _ _, _, _, _, _⟩ :: _) _ _); refine store_at hS11 rfl rfl 26 _ _ rfl 1 gx 26 (Cr.cells ⟨f, d, 0, 0, m⟩) (Cr.cells ⟨f + (-1), (-1), 0, 0, true⟩) rfl rfl rfl (by kernel_rfl) rfl (by simp [Value.oneCell']) ?_; intro w25 hS26; have hS26' : St w [(gy, 26, (Cr.cells ⟨f + (-1), (-1), 0, 0, true⟩)), (gx, 26, Cr.cells ⟨f + (-1), (-1), 0, 0, true⟩), (w.heap.size, 24, cfgCells c s)] w25 := hS26; clear hS11 HC12 HC13 HC14 HC15 HC16 HC17 HC18 HC19 HC20 HC21 HL22 HC23 HC24 hS26; have HC27 := St.cell (L := [(gy, 26, (Cr.cells ⟨f + (-1), (-1), 0, 0, true⟩)), (gx, 26, Cr.cells ⟨f + (-1), (-1), 0, 0, true⟩), (w.heap.size, 24, cfgCells c s)]) (w0 := w) 0 rfl 0 rfl; have HC28 := St.cell (L := [(gy, 26, (Cr.cells ⟨f + (-1), (-1), 0, 0, true⟩)), (gx, 26, Cr.cells ⟨f + (-1), (-1), 0, 0, true⟩), (w.heap.size, 24, cfgCells c s)]) (w0 := w) 0 rfl 1 rfl; have HC29 := St.cell (L := [(gy, 26, (Cr.cells ⟨f + (-1), (-1), 0, 0, true⟩)), (gx, 26, Cr.cells ⟨f + (-1), (-1), 0, 0, true⟩), (w.heap.size, 24, cfgCells c s)]) (w0 := w) 0 rfl 2 rfl; have HC30 := St.cell (L := [(gy, 26, (Cr.cells ⟨f + (-1), (-1), 0, 0, true⟩)), (gx, 26, Cr.cells ⟨f + (-1), (-1), 0, 0, true⟩), (w.heap.size, 24, cfgCells c s)]) (w0 := w) 0 rfl 3 rfl; have HC31 := St.cell (L := [(gy, 26, (Cr.cells ⟨f + (-1), (-1), 0, 0, true⟩)), (gx, 26, Cr.cells ⟨f + (-1), (-1), 0, 0, true⟩), (w.heap.size, 24, cfgCells c s)]) (w0 := w) 0 rfl 4 rfl; have HC32 := St.cell (L := [(gy, 26, (Cr.cells ⟨f + (-1), (-1), 0, 0, true⟩)), (gx, 26, Cr.cells ⟨f + (-1), (-1), 0, 0, true⟩), (w.heap.size, 24, cfgCells c s)]) (w0 := w) 1 rfl 0 rfl; have HC33 := St.cell (L := [(gy, 26, (Cr.cells ⟨f + (-1), (-1), 0, 0, true⟩)), (gx, 26, Cr.cells ⟨f + (-1), (-1), 0, 0, true⟩), (w.heap.size, 24, cfgCells c s)]) (w0 := w) 1 rfl 1 rfl; have HC34 := St.cell (L := [(gy, 26, (Cr.cells ⟨f + (-1), (-1), 0, 0, true⟩)), (gx, 26, Cr.cells ⟨f + (-1), (-1), 0, 0, true⟩), (w.heap.size, 24, cfgCells c s)]) (w0 := w) 1 rfl 2 rfl; have HC35 := St.cell (L := [(gy, 26, (Cr.cells ⟨f + (-1), (-1), 0, 0, true⟩)), (gx, 26, Cr.cells ⟨f + (-1), (-1), 0, 0, true⟩), (w.heap.size, 24, cfgCells c s)]) (w0 := w) 1 rfl 3 rfl; have HC36 := St.cell (L := [(gy, 26, (Cr.cells ⟨f + (-1), (-1), 0, 0, true⟩)), (gx, 26, Cr.cells ⟨f + (-1), (-1), 0, 0, true⟩), (w.heap.size, 24, cfgCells c s)]) (w0 := w) 1 rfl 4 rfl; have HL37 := St.loadC (L := [(gy, 26, (Cr.cells ⟨f + (-1), (-1), 0, 0, true⟩)), (gx, 26, Cr.cells ⟨f + (-1), (-1), 0, 0, true⟩), (w.heap.size, 24, cfgCells c s)]) (w0 := w) 2 rfl; have HC38 := St.cell (L := [(gy, 26, (Cr.cells ⟨f + (-1), (-1), 0, 0, true⟩)), (gx, 26, Cr.cells ⟨f + (-1), (-1), 0, 0, true⟩), (w.heap.size, 24, cfgCells c s)]) (w0 := w) 2 rfl 15 rfl; have HC39 := St.cell (L := [(gy, 26, (Cr.cells ⟨f + (-1), (-1), 0, 0, true⟩)), (gx, 26, Cr.cells ⟨f + (-1), (-1), 0, 0, true⟩), (w.heap.size, 24, cfgCells c s)]) (w0 := w) 2 rfl 16 rfl))
            go_roundg (gk - 1)
            case measure => have := HI.out; have := HIN.out; omega
            case rel => exact ⟨i + 1, op, ⟨f + (-1), (-1), 0, 0, true⟩, by have := HI.out; have := HIN.out; omega, by go_num, rfl, hS26'.sub (List.sublist_cons_self _ _), HY.out, ⟨(fun hh => by simp at hh), hop0, hop1⟩⟩
end Go.Proofs.Ytejepddoindnlaa
