/- Layer 7: the document's answers Good and Trip; nothing that was in memory is changed. For every configuration. -/
import Derived.Test.YtejepddoindnlaaSite5
import Derived.Deep.QuietTactic
import Derived.BigQuiet
namespace Go.Proofs.Ytejepddoindnlaa
open Go.RowKit

theorem bdN {B : Nat} {a w : World} (h : Below B a w) (n : Nat) : Below B a (w.drewN n) := ⟨h.os, h.tape, h.output, h.size, h.block⟩

def Rel6 (c : Nat → Int) (w : World) (gl : Nat) (k : Nat) (wr : World) : Prop :=
  (∀ j, j < k → okAt c j) ∧ Blk wr (w.heap.size + 1) 51 (arrCells least) ∧ Blk wr (w.heap.size + 1 + 1) 51 (arrCells most) ∧ Blk wr gl 51 (arrCells c) ∧ Below w.heap.size w wr

theorem good_no {c : Nat → Int} (k : Nat) (hk : k < 17) (h : c k < least k ∨ most k < c k) : good c = false := by
  unfold good
  rw [decide_eq_false_iff_not]
  intro hG
  have := hG k hk
  unfold okAt at this
  omega

theorem good_yes {c : Nat → Int} (h : ∀ j, j < 17 → okAt c j) : good c = true := by
  unfold good
  rw [decide_eq_true_eq]
  exact h

theorem rel6_step {c : Nat → Int} {w wr : World} {gl k : Nat} (hO : ∀ j, j < k → okAt c j) (hk : least k ≤ c k ∧ c k ≤ most k) (hl : Blk wr (w.heap.size + 1) 51 (arrCells least)) (hm : Blk wr (w.heap.size + 1 + 1) 51 (arrCells most))
    (hc : Blk wr gl 51 (arrCells c)) (hB : Below w.heap.size w wr) (n : Nat) : Rel6 c w gl (k + 1) (wr.drewN n) := by
  refine ⟨fun j hj => ?_, hl.drewN n, hm.drewN n, hc.drewN n, bdN hB n⟩
  by_cases e : j = k
  · subst e; exact hk
  · exact hO j (by omega)

set_option maxRecDepth 100000 in
set_option maxHeartbeats 1000000 in
theorem rgood_any (c : Nat → Int) (s : Int) (w : World) :
    Calls Try.prog 19 #[.agg (cfgCells c s)] w fun e w' => e = .returned (.bool (good c)) ∧ Below w.heap.size w w' := by
  have hz : Blk ((w.alloc (.cells (cfgCells c s) 24)).alloc (.cells (arrCells (fun _ => 0)) 51)) (w.heap.size + 1) 51 (arrCells (fun _ => 0)) := by
    have h := Blk.new (w.alloc (.cells (cfgCells c s) 24)) 51 (arrCells (fun _ => 0))
    simpa using h
  have HS := run_storeBig (cs := #[.int .i64 2, .int .i64 1, .int .i64 1, .int .i64 1, .int .i64 1, .int .i64 1, .int .i64 1, .int .i64 1, .int .i64 1, .int .i64 1, .int .i64 1, .int .i64 1, .int .i64 1, .int .i64 0, .int .i64 0, .int .i64 1, .int .i64 0]) hz (by kernel_rfl) rfl (by simp [Value.oneCell'])
  have hy := Blk.setRow (#[.int .i64 2, .int .i64 1, .int .i64 1, .int .i64 1, .int .i64 1, .int .i64 1, .int .i64 1, .int .i64 1, .int .i64 1, .int .i64 1, .int .i64 1, .int .i64 1, .int .i64 1, .int .i64 0, .int .i64 0, .int .i64 1, .int .i64 0]) hz
  have hy0 : Blk _ w.heap.size 24 (cfgCells c s) := ((Blk.new w 24 (cfgCells c s)).alloc _).only (Only.setRow (#[.int .i64 2, .int .i64 1, .int .i64 1, .int .i64 1, .int .i64 1, .int .i64 1, .int .i64 1, .int .i64 1, .int .i64 1, .int .i64 1, .int .i64 1, .int .i64 1, .int .i64 1, .int .i64 0, .int .i64 0, .int .i64 1, .int .i64 0]) hz) (by omega)
  have hx : Blk ((((w.alloc (.cells (cfgCells c s) 24)).alloc (.cells (arrCells (fun _ => 0)) 51)).setRow (w.heap.size + 1) (#[.int .i64 2, .int .i64 1, .int .i64 1, .int .i64 1, .int .i64 1, .int .i64 1, .int .i64 1, .int .i64 1, .int .i64 1, .int .i64 1, .int .i64 1, .int .i64 1, .int .i64 1, .int .i64 0, .int .i64 0, .int .i64 1, .int .i64 0])).alloc (.cells (arrCells (fun _ => 0)) 51)) (w.heap.size + 1 + 1) 51 (arrCells (fun _ => 0)) := by
    have h := Blk.new (((w.alloc (.cells (cfgCells c s) 24)).alloc (.cells (arrCells (fun _ => 0)) 51)).setRow (w.heap.size + 1) (#[.int .i64 2, .int .i64 1, .int .i64 1, .int .i64 1, .int .i64 1, .int .i64 1, .int .i64 1, .int .i64 1, .int .i64 1, .int .i64 1, .int .i64 1, .int .i64 1, .int .i64 1, .int .i64 0, .int .i64 0, .int .i64 1, .int .i64 0])) 51 (arrCells (fun _ => 0))
    simpa using h
  have HS2 := run_storeBig (cs := #[.int .i64 32, .int .i64 4, .int .i64 8, .int .i64 64, .int .i64 8, .int .i64 64, .int .i64 65536, .int .i64 1024, .int .i64 1024, .int .i64 65536, .int .i64 16, .int .i64 16, .int .i64 64, .int .i64 8, .int .i64 1048576, .int .i64 4, .int .i64 4]) hx (by kernel_rfl) rfl (by simp [Value.oneCell'])
  have hw := Blk.setRow (#[.int .i64 32, .int .i64 4, .int .i64 8, .int .i64 64, .int .i64 8, .int .i64 64, .int .i64 65536, .int .i64 1024, .int .i64 1024, .int .i64 65536, .int .i64 16, .int .i64 16, .int .i64 64, .int .i64 8, .int .i64 1048576, .int .i64 4, .int .i64 4]) hx
  have hw1 := (hy.alloc (.cells (arrCells (fun _ => 0)) 51)).only (Only.setRow (#[.int .i64 32, .int .i64 4, .int .i64 8, .int .i64 64, .int .i64 8, .int .i64 64, .int .i64 65536, .int .i64 1024, .int .i64 1024, .int .i64 65536, .int .i64 16, .int .i64 16, .int .i64 64, .int .i64 8, .int .i64 1048576, .int .i64 4, .int .i64 4]) hx) (by omega)
  have hw0 := (hy0.alloc (.cells (arrCells (fun _ => 0)) 51)).only (Only.setRow (#[.int .i64 32, .int .i64 4, .int .i64 8, .int .i64 64, .int .i64 8, .int .i64 64, .int .i64 65536, .int .i64 1024, .int .i64 1024, .int .i64 65536, .int .i64 16, .int .i64 16, .int .i64 64, .int .i64 8, .int .i64 1048576, .int .i64 4, .int .i64 4]) hx) (by omega)
  have hB : Below w.heap.size w (((((w.alloc (.cells (cfgCells c s) 24)).alloc (.cells (arrCells (fun _ => 0)) 51)).setRow (w.heap.size + 1) (#[.int .i64 2, .int .i64 1, .int .i64 1, .int .i64 1, .int .i64 1, .int .i64 1, .int .i64 1, .int .i64 1, .int .i64 1, .int .i64 1, .int .i64 1, .int .i64 1, .int .i64 1, .int .i64 0, .int .i64 0, .int .i64 1, .int .i64 0])).alloc (.cells (arrCells (fun _ => 0)) 51)).setRow (w.heap.size + 1 + 1) (#[.int .i64 32, .int .i64 4, .int .i64 8, .int .i64 64, .int .i64 8, .int .i64 64, .int .i64 65536, .int .i64 1024, .int .i64 1024, .int .i64 65536, .int .i64 16, .int .i64 16, .int .i64 64, .int .i64 8, .int .i64 1048576, .int .i64 4, .int .i64 4])) :=
    ((((((Below.refl _ _).alloc (Nat.le_refl _) _).alloc (by simp) _).trans ((Only.setRow _ hz).below (by omega))).alloc (by simp; omega) _).trans ((Only.setRow _ hx).below (by omega)))
  have HL := lcfg hw0
  have HW := Lib.hid hw
  have HW1 := Lib.hid hw1
  have HB := Lib.hid hB
  clear hz hy hy0 hx hw hw1 hw0 hB
  go_enter Try.func19, Try.ntmps19
  go_wp2_with fail
  refine (list_any c s _).mono ?_
  rintro e w1 ⟨rfl, hb1⟩
  have hm : Blk w1 (w.heap.size + 1 + 1) 51 (arrCells most) := HW.out.below hb1 HW.out.lt
  have hl : Blk w1 (w.heap.size + 1) 51 (arrCells least) := HW1.out.below hb1 HW1.out.lt
  have hbb : Below w.heap.size w w1 := bel HB.out hb1 (Nat.le_refl _)
  have hz : Blk (w1.alloc (.cells (arrCells (fun _ => 0)) 51)) w1.heap.size 51 (arrCells (fun _ => 0)) := Blk.new _ _ _
  have HS3 := run_storeBig (cs := arrCells c) hz (by kernel_rfl) rfl (by simp [Value.oneCell'])
  have hstart : Rel6 c w w1.heap.size 0 ((w1.alloc (.cells (arrCells (fun _ => 0)) 51)).setRow w1.heap.size (arrCells c)) :=
    ⟨fun j hj => absurd hj (by omega), (hl.alloc _).only (Only.setRow _ hz) (by have := hl.lt; omega), (hm.alloc _).only (Only.setRow _ hz) (by have := hm.lt; omega), Blk.setRow _ hz, (hbb.alloc hbb.size _).trans ((Only.setRow _ hz).below hbb.size)⟩
  have HSt := Lib.hid hstart
  clear hz hm hl hbb hb1 HW HW1 HB HL HS HS2 hstart
  go_wp2_with fail
  go_loopw [6] (fun i wr => ∃ k : Nat, k ≤ 17 ∧ i = .int .i64 k ∧ Rel6 c w w1.heap.size k wr) (fun i _ => 17 - (intOf i).toNat)
  case atStart => exact ⟨0, by omega, rfl, HSt.out⟩
  case round =>
    clear HSt HS3
    obtain ⟨k, hk, rfl, hok, hl, hm, hc, hB⟩ := hrel
    have HO := Lib.hid hok
    clear hok
    by_cases hlt : k < 17
    · have ql := arr_cell hl k hlt
      have qm := arr_cell hm k hlt
      have qc := arr_cell hc k hlt
      have k0 : (0 : Int) ≤ (k : Int) := by omega
      have k1 : (k : Int) < 17 := by omega
      have Hl := Lib.hid hl
      have Hm := Lib.hid hm
      have Hc := Lib.hid hc
      clear hl hm hc
      by_cases h1 : c k < least k
      · have HG := Lib.hid (good_no k hlt (.inl h1))
        go_wp2_with fail
        go_quiet (fail)
        go_wp2
        go_ret
        exact ⟨ret_bool HG.out.symm, bdN hB _⟩
      · by_cases h2 : most k < c k
        · have HG := Lib.hid (good_no k hlt (.inr h2))
          have d1 : decide (c k < least k) = false := by simpa using h1
          go_wp2_with fail
          go_quiet (fail)
          go_wp2
          go_ret
          exact ⟨ret_bool HG.out.symm, bdN hB _⟩
        · have d1 : decide (c k < least k) = false := by simpa using h1
          have d2 : decide (most k < c k) = false := by simpa using h2
          go_wp2_with fail
          go_quiet (fail)
          go_wp2
          exact ⟨⟨k + 1, by omega, by go_num, rel6_step HO.out ⟨by omega, by omega⟩ Hl.out Hm.out Hc.out hB _⟩, by simp [intOf]; omega⟩
    · obtain rfl : k = 17 := by omega
      go_wp2
      go_ret
      exact ⟨ret_bool (good_yes HO.out).symm, hB⟩

end Go.Proofs.Ytejepddoindnlaa
