/- The statement RingOrder, walked: for every room, row of numbers and row of pops the Go law returns true, and nothing that was in memory is changed. -/
import Derived.Test.YtiiejlphomjehaaRingC
import Derived.Deep.LoopGhost
import Derived.Test.YtiiejlphomjehaaOpenInts
import Derived.Test.YtiiejlphomjehaaOpenBools
namespace Go.Proofs.Ytiiejlphomjehaa
open Go.RowKit
set_option linter.unusedVariables false

set_option maxRecDepth 100000 in
set_option maxHeartbeats 8000000 in
theorem order_law (a0 : Int) (zs : List Int) (A : Option Addr) (cap : Nat) (bs : List Bool) (B : Option Addr) (cb : Nat) (w : World) (hn : zs.length ≤ 9223372036854775807)
    (hA : ∀ k, k < zs.length → ∃ b o, A = some ⟨b, o, none⟩ ∧ b < w.heap.size ∧ w.cell? ⟨b, o + k, none⟩ = some (.int .i64 (zs.getD k 0)))
    (hm : bs.length ≤ 9223372036854775807) (hB : ∀ k, k < bs.length → ∃ b o, B = some ⟨b, o, none⟩ ∧ b < w.heap.size ∧ w.cell? ⟨b, o + k, none⟩ = some (.bool (bs.getD k false))) :
    Calls Try.prog 3 #[.int .i64 a0, .slice A zs.length cap, .slice B bs.length cb] w fun e w' => e = .returned (.bool true) ∧ Below w.heap.size w w' := by
  have hS := SR.ofSt (St.nil w)
  have HA := Lib.hid hA
  have HB := Lib.hid hB
  have hm0 : (bs.length : Int) ≤ 9223372036854775807 := by omega
  clear hA hB
  by_cases h200 : zs.length ≤ 200
  rotate_left
  · have hz : (200 : Int) < (zs.length : Int) := by omega
    clear hn h200
    go_enter Try.func3, Try.ntmps3
    go_wp2_with (go_at_call 7; refine (awake05 _).mono ?_; rintro e w1 ⟨rfl, hB1⟩)
    go_ret
    exact ⟨rfl, hB1⟩
  obtain ⟨kk, hk50, hkk⟩ := mod50 a0
  obtain ⟨k, hk⟩ : ∃ k : Nat, 1 + (kk : Int) = (k : Int) := ⟨1 + kk, by omega⟩
  have hk1 : 1 ≤ k := by omega
  have hk2 : k ≤ 65536 := by omega
  have e1 : IntKind.i64.wrap (k : Int) = (k : Int) := IntWalk.i64_in _ (by omega)
  have e2 : IntKind.i64.wrap (kk : Int) = (kk : Int) := IntWalk.i64_in _ (by omega)
  have HZ := Lib.hid h200
  have hz : (zs.length : Int) ≤ 200 := by omega
  have HK1 := Lib.hid hk1
  have HK2 := Lib.hid hk2
  clear hk50 hn h200 hk1 hk2
  go_enter Try.func3, Try.ntmps3
  go_wp2_with (go_at_call 7; refine (awake05 _).mono ?_; rintro e w1 ⟨rfl, hB1⟩; have hS1 := hS.step hB1; clear hS hB1)
  go_wp2_with (go_at_call 8; refine (KI.new_rg (room := k) hS1 HK1.out HK2.out).mono ?_; rintro e w2 ⟨gr, rfl, hR2⟩; clear hS1)
  have hRi := (hR2.newRow KI.T 1 0 #[] (by decide) rfl).newRow KI.T 1 0 #[] (by decide) rfl
  rw [show (w2.alloc (Obj.cells #[] KI.T)).heap.size = w2.heap.size + 1 by (show (w2.heap.push _).size = _; exact Array.size_push _)] at hRi
  clear hR2
  go_loopg [9, 10, 11] zs.length (fun m vi vo iv wr => ∃ (j : Nat) (ins outs q : List Int), m + j = zs.length ∧ iv = .int .i64 j ∧ RG KI w [] [⟨vo, 3, 1, outs.length, KI.flat outs⟩, ⟨vi, 3, 1, ins.length, KI.flat ins⟩] gr k q wr ∧ ins = outs ++ q ∧ q.length ≤ k ∧ ins.length ≤ j ∧ outs.length ≤ j)
  case atStart => exact ⟨0, [], [], [], by omega, rfl, hRi, rfl, Nat.zero_le _, Nat.le_refl _, Nat.le_refl _⟩
  case round =>
    clear hRi
    obtain ⟨j, ins, outs, q, hj, rfl, hR, hio, hq, hi1, ho1⟩ := hrel
    have j0 : (0 : Int) ≤ (j : Int) := by omega
    have j1 : (j : Int) ≤ 200 := by omega
    have hi2 : ins.length ≤ 200 := by omega
    have ho2 : outs.length ≤ 200 := by omega
    have HIO0 := Lib.hid hio
    have HJ := Lib.hid hj
    by_cases hlt : j < zs.length
    rotate_left
    · have hnz : ¬ (j : Int) < (zs.length : Int) := by omega
      have hi3 : ins.length ≤ 65536 := by omega
      have hi4 : ins.length ≤ 200 := by omega
      clear hlt hj hq hi1 ho1 ho2 hi2 hio
      have HI4 := Lib.hid hi4
      clear hi4
      go_wp2_with fail
      clear hnz
      go_loopg [10] q.length (fun m vo wr => ∃ (outs q2 : List Int), m = q2.length ∧ RG KI w [] [⟨vo, 3, 1, outs.length, KI.flat outs⟩, ⟨u9, 3, 1, ins.length, KI.flat ins⟩] gr k q2 wr ∧ ins = outs ++ q2)
      case atStart => exact ⟨outs, q, rfl, hR, HIO0.out⟩
      case round =>
        clear hR
        obtain ⟨outs2, q2, hm2, hR, hio2⟩ := hrel
        cases q2 with
        | nil =>
          have hio3 : ins = outs2 := by rw [hio2]; simp
          have HIO3 := Lib.hid hio3
          have HI3 := Lib.hid hi3
          clear hio2 hio3 hm2
          go_wp2_with (first
            | (go_at_call 9; refine (KI.len_rg (n := 0) hR rfl).mono ?_; rintro e w8 ⟨rfl, rfl⟩)
            | (go_at_call 12; refine (ints_true (l := ins) (Rd.own (hR.sr.own ⟨u9, 3, 1, ins.length, KI.flat ins⟩ (by simp))) (by rw [HIO3.out]; exact Rd.own (hR.sr.own ⟨_, 3, 1, outs2.length, KI.flat outs2⟩ List.mem_cons_self)) HI3.out).mono ?_; rintro e w9 ⟨rfl, n9, rfl⟩))
          go_ret
          exact ⟨rfl, (hR.drewN n9).sr.below⟩
        | cons y q2 =>
          obtain ⟨n1, hn1⟩ : ∃ n1, (y :: q2).length = n1 := ⟨_, rfl⟩
          have hn2 : (0 : Int) < (n1 : Int) := by rw [← hn1]; simp only [List.length_cons]; omega
          have hn3 : outs2.length ≤ 200 := by have h1 := HI4.out; have h2 := congrArg List.length hio2; simp at h2; omega
          have HN1 := Lib.hid hn1
          have HIO2 := Lib.hid hio2
          have HM2 := Lib.hid hm2
          clear hn1 hio2 hm2
          go_wp2_with (first
            | (go_at_call 9; refine (KI.len_rg (n := n1) hR HN1.out).mono ?_; rintro e w8 ⟨rfl, rfl⟩)
            | (go_at_call 11; refine (KI.pop_rg hR).mono ?_; rintro e w6 ⟨rfl, hR6⟩; clear hR)
            | (at_builtin; refine app_rowG (RG.old hR6 _) rfl _ _ 22 rfl (.int .i64 0) 8 Try.underlying22 KI.info rfl (by show 0 < 1; omega) rfl _ #[.int .i64 y] 3 rfl (Blk.new _ _ _) rfl (by simp [Value.oneCell']) (by (try simp only); omega) (by omega) ?_; intro hR7v w7 hR7; clear hR6))
          go_roundg (gk - 1)
          case measure => have := HM2.out; simp at this; omega
          case rel =>
            have hX := hR7
            (try simp only [flat_snoc] at hX)
            have h1 := HIO2.out
            have h2 := HM2.out
            exact ⟨outs2 ++ [y], q2, by simp at h2; omega, by simpa using hX, by rw [h1]; simp⟩
    have hltz : (j : Int) < (zs.length : Int) := by omega
    have HI1 := Lib.hid hi1
    have HO1 := Lib.hid ho1
    have HLT := Lib.hid hlt
    obtain ⟨b, o0, rfl, hbw, hcell0⟩ := HA.out j hlt
    obtain ⟨z, hz1⟩ : ∃ z, zs.getD j 0 = z := ⟨_, rfl⟩
    rw [hz1] at hcell0
    have hcell := (hR.sr.st.oldCell hbw).trans hcell0
    have HC0 := Lib.hid hcell0
    have HBW := Lib.hid hbw
    clear hz1 hcell0 hbw hlt hj hi1 ho1 hio
    by_cases hbl : j < bs.length
    rotate_left
    · by_cases hf : q.length = k
      · skip
        have hbz : ¬ (j : Int) < (bs.length : Int) := by omega
        clear hbl
        have HF := Lib.hid hf
        clear hf hq
        go_wp2_with (first
          | (go_at_call 9; refine (KI.len_rg (n := k) hR HF.out).mono ?_; rintro e w8 ⟨rfl, rfl⟩)
          | (go_at_call 10; refine (KI.push_no z hR HF.out).mono ?_; rintro e w3 ⟨rfl, hR3⟩)
          | (go_at_call 9; refine (KI.len_rg (n := k) hR3 HF.out).mono ?_; rintro e w8 ⟨rfl, rfl⟩))
        go_roundg (gk - 1)
        case measure => have := HJ.out; have := HLT.out; omega
        case rel =>
          have hX := hR3
          (try simp only [flat_snoc] at hX)
          have h1 := HIO0.out
          have h2 := HI1.out
          have h3 := HO1.out
          have h4 := HJ.out
          have h5 := HLT.out
          have h6 := HF.out
          skip
          refine ⟨j + 1, ins, outs, q, by omega, by go_num, ?_, ?_, ?_, ?_, ?_⟩
          · simpa using hX
          · exact h1
          · omega
          · (try simp only [List.length_append, List.length_singleton]); omega
          · (try simp only [List.length_append, List.length_singleton]); omega
      · skip
        have hbz : ¬ (j : Int) < (bs.length : Int) := by omega
        clear hbl
        have hnn : (q.length : Int) < (k : Int) := by omega
        obtain ⟨n0, hn0⟩ : ∃ n0, q.length = n0 := ⟨_, rfl⟩
        obtain ⟨n1, hn1⟩ : ∃ n1, (q ++ [z]).length = n1 := ⟨_, rfl⟩
        have hn2 : n1 = n0 + 1 := by rw [← hn1, ← hn0]; simp
        have hn3 : (n0 : Int) < (k : Int) := by omega
        have hn4 : (n1 : Int) ≤ (k : Int) := by omega
        have HQL : RowKit.Hid (q.length < k) := by show q.length < k; omega
        have HN0 := Lib.hid hn0
        have HN1 := Lib.hid hn1
        clear hf hq hn0 hn1 hn2 hnn
        go_wp2_with (first
          | (go_at_call 9; refine (KI.len_rg (n := n0) hR HN0.out).mono ?_; rintro e w8 ⟨rfl, rfl⟩)
          | (go_at_call 10; refine (KI.push_rg z hR HQL.out).mono ?_; rintro e w3 ⟨rfl, hR3⟩; have hc2 := (hR3.sr.st.oldCell HBW.out).trans HC0.out)
          | (go_at_call 9; refine (KI.len_rg (n := n1) hR3 HN1.out).mono ?_; rintro e w8 ⟨rfl, rfl⟩)
          | (at_builtin; refine app_rowG (RG.old (hR3.permR (List.Perm.swap _ _ _)) _) rfl _ _ 22 rfl (.int .i64 0) 8 Try.underlying22 KI.info rfl (by show 0 < 1; omega) rfl _ #[.int .i64 z] 3 rfl (Blk.new _ _ _) rfl (by simp [Value.oneCell']) (by (try simp only); omega) (by omega) ?_; intro hR5v w5 hR5; clear hR3; clear hc2))
        go_roundg (gk - 1)
        case measure => have := HJ.out; have := HLT.out; omega
        case rel =>
          have hX := (hR5.permR (List.Perm.swap _ _ _))
          (try simp only [flat_snoc] at hX)
          have h1 := HIO0.out
          have h2 := HI1.out
          have h3 := HO1.out
          have h4 := HJ.out
          have h5 := HLT.out
          have h6 := HN1.out
          skip
          refine ⟨j + 1, (ins ++ [z]), outs, (q ++ [z]), by omega, by go_num, ?_, ?_, ?_, ?_, ?_⟩
          · simpa using hX
          · rw [h1, List.append_assoc]
          · omega
          · (try simp only [List.length_append, List.length_singleton]); omega
          · (try simp only [List.length_append, List.length_singleton]); omega
    obtain ⟨pb, hpb⟩ : ∃ pb, bs.getD j false = pb := ⟨_, rfl⟩
    cases pb
    · by_cases hf : q.length = k
      · skip
        have hbz : (j : Int) < (bs.length : Int) := by omega
        obtain ⟨b2, o2, rfl, hbw2, hcb⟩ := HB.out j hbl
        rw [hpb] at hcb
        have HCB := Lib.hid hcb
        have HBW2 := Lib.hid hbw2
        clear hcb hbw2 hbl hpb
        have HF := Lib.hid hf
        clear hf hq
        go_wp2_with (first
          | (go_at_call 9; refine (KI.len_rg (n := k) hR HF.out).mono ?_; rintro e w8 ⟨rfl, rfl⟩)
          | (go_at_call 10; refine (KI.push_no z hR HF.out).mono ?_; rintro e w3 ⟨rfl, hR3⟩; have hd := (hR3.sr.st.oldCell HBW2.out).trans HCB.out)
          | (go_at_call 9; refine (KI.len_rg (n := k) hR3 HF.out).mono ?_; rintro e w8 ⟨rfl, rfl⟩))
        go_roundg (gk - 1)
        case measure => have := HJ.out; have := HLT.out; omega
        case rel =>
          have hX := hR3
          (try simp only [flat_snoc] at hX)
          have h1 := HIO0.out
          have h2 := HI1.out
          have h3 := HO1.out
          have h4 := HJ.out
          have h5 := HLT.out
          have h6 := HF.out
          skip
          refine ⟨j + 1, ins, outs, q, by omega, by go_num, ?_, ?_, ?_, ?_, ?_⟩
          · simpa using hX
          · exact h1
          · omega
          · (try simp only [List.length_append, List.length_singleton]); omega
          · (try simp only [List.length_append, List.length_singleton]); omega
      · skip
        have hbz : (j : Int) < (bs.length : Int) := by omega
        obtain ⟨b2, o2, rfl, hbw2, hcb⟩ := HB.out j hbl
        rw [hpb] at hcb
        have HCB := Lib.hid hcb
        have HBW2 := Lib.hid hbw2
        clear hcb hbw2 hbl hpb
        have hnn : (q.length : Int) < (k : Int) := by omega
        obtain ⟨n0, hn0⟩ : ∃ n0, q.length = n0 := ⟨_, rfl⟩
        obtain ⟨n1, hn1⟩ : ∃ n1, (q ++ [z]).length = n1 := ⟨_, rfl⟩
        have hn2 : n1 = n0 + 1 := by rw [← hn1, ← hn0]; simp
        have hn3 : (n0 : Int) < (k : Int) := by omega
        have hn4 : (n1 : Int) ≤ (k : Int) := by omega
        have HQL : RowKit.Hid (q.length < k) := by show q.length < k; omega
        have HN0 := Lib.hid hn0
        have HN1 := Lib.hid hn1
        clear hf hq hn0 hn1 hn2 hnn
        go_wp2_with (first
          | (go_at_call 9; refine (KI.len_rg (n := n0) hR HN0.out).mono ?_; rintro e w8 ⟨rfl, rfl⟩)
          | (go_at_call 10; refine (KI.push_rg z hR HQL.out).mono ?_; rintro e w3 ⟨rfl, hR3⟩; have hc2 := (hR3.sr.st.oldCell HBW.out).trans HC0.out)
          | (go_at_call 9; refine (KI.len_rg (n := n1) hR3 HN1.out).mono ?_; rintro e w8 ⟨rfl, rfl⟩)
          | (at_builtin; refine app_rowG (RG.old (hR3.permR (List.Perm.swap _ _ _)) _) rfl _ _ 22 rfl (.int .i64 0) 8 Try.underlying22 KI.info rfl (by show 0 < 1; omega) rfl _ #[.int .i64 z] 3 rfl (Blk.new _ _ _) rfl (by simp [Value.oneCell']) (by (try simp only); omega) (by omega) ?_; intro hR5v w5 hR5; clear hR3; clear hc2; have hd := (hR5.sr.st.oldCell HBW2.out).trans HCB.out))
        go_roundg (gk - 1)
        case measure => have := HJ.out; have := HLT.out; omega
        case rel =>
          have hX := (hR5.permR (List.Perm.swap _ _ _))
          (try simp only [flat_snoc] at hX)
          have h1 := HIO0.out
          have h2 := HI1.out
          have h3 := HO1.out
          have h4 := HJ.out
          have h5 := HLT.out
          have h6 := HN1.out
          skip
          refine ⟨j + 1, (ins ++ [z]), outs, (q ++ [z]), by omega, by go_num, ?_, ?_, ?_, ?_, ?_⟩
          · simpa using hX
          · rw [h1, List.append_assoc]
          · omega
          · (try simp only [List.length_append, List.length_singleton]); omega
          · (try simp only [List.length_append, List.length_singleton]); omega
    · by_cases hf : q.length = k
      · skip
        have hbz : (j : Int) < (bs.length : Int) := by omega
        obtain ⟨b2, o2, rfl, hbw2, hcb⟩ := HB.out j hbl
        rw [hpb] at hcb
        have HCB := Lib.hid hcb
        have HBW2 := Lib.hid hbw2
        clear hcb hbw2 hbl hpb
        obtain ⟨y, q2, rfl⟩ : ∃ y q2, q = y :: q2 := by
          cases q with
          | nil => have := HK1.out; simp at hf; omega
          | cons y q2 => exact ⟨y, q2, rfl⟩
        have HF := Lib.hid hf
        clear hf hq
        go_wp2_with (first
          | (go_at_call 9; refine (KI.len_rg (n := k) hR HF.out).mono ?_; rintro e w8 ⟨rfl, rfl⟩)
          | (go_at_call 10; refine (KI.push_no z hR HF.out).mono ?_; rintro e w3 ⟨rfl, hR3⟩; have hd := (hR3.sr.st.oldCell HBW2.out).trans HCB.out)
          | (go_at_call 9; refine (KI.len_rg (n := k) hR3 HF.out).mono ?_; rintro e w8 ⟨rfl, rfl⟩)
          | (go_at_call 11; refine (KI.pop_rg hR3).mono ?_; rintro e w6 ⟨rfl, hR6⟩; clear hR3 hd)
          | (at_builtin; refine app_rowG (RG.old hR6 _) rfl _ _ 22 rfl (.int .i64 0) 8 Try.underlying22 KI.info rfl (by show 0 < 1; omega) rfl _ #[.int .i64 y] 3 rfl (Blk.new _ _ _) rfl (by simp [Value.oneCell']) (by (try simp only); omega) (by omega) ?_; intro hR7v w7 hR7; clear hR6))
        go_roundg (gk - 1)
        case measure => have := HJ.out; have := HLT.out; omega
        case rel =>
          have hX := hR7
          (try simp only [flat_snoc] at hX)
          have h1 := HIO0.out
          have h2 := HI1.out
          have h3 := HO1.out
          have h4 := HJ.out
          have h5 := HLT.out
          have h6 := HF.out
          skip
          refine ⟨j + 1, ins, (outs ++ [y]), q2, by omega, by go_num, ?_, ?_, ?_, ?_, ?_⟩
          · simpa using hX
          · rw [h1]; simp
          · (simp at h6; omega)
          · (try simp only [List.length_append, List.length_singleton]); omega
          · (try simp only [List.length_append, List.length_singleton]); omega
      · skip
        have hbz : (j : Int) < (bs.length : Int) := by omega
        obtain ⟨b2, o2, rfl, hbw2, hcb⟩ := HB.out j hbl
        rw [hpb] at hcb
        have HCB := Lib.hid hcb
        have HBW2 := Lib.hid hbw2
        clear hcb hbw2 hbl hpb
        have hnn : (q.length : Int) < (k : Int) := by omega
        obtain ⟨n0, hn0⟩ : ∃ n0, q.length = n0 := ⟨_, rfl⟩
        obtain ⟨n1, hn1⟩ : ∃ n1, (q ++ [z]).length = n1 := ⟨_, rfl⟩
        have hn2 : n1 = n0 + 1 := by rw [← hn1, ← hn0]; simp
        have hn3 : (n0 : Int) < (k : Int) := by omega
        have hn4 : (n1 : Int) ≤ (k : Int) := by omega
        have HQL : RowKit.Hid (q.length < k) := by show q.length < k; omega
        have HN0 := Lib.hid hn0
        have HN1 := Lib.hid hn1
        obtain ⟨y, q2, hyq⟩ : ∃ y q2, q ++ [z] = y :: q2 := by
          cases q with
          | nil => exact ⟨_, _, rfl⟩
          | cons y q2 => exact ⟨_, _, rfl⟩
        have HYQ := Lib.hid hyq
        clear hyq
        clear hf hq hn0 hn1 hn2 hnn
        go_wp2_with (first
          | (go_at_call 9; refine (KI.len_rg (n := n0) hR HN0.out).mono ?_; rintro e w8 ⟨rfl, rfl⟩)
          | (go_at_call 10; refine (KI.push_rg z hR HQL.out).mono ?_; rintro e w3 ⟨rfl, hR3⟩; have hc2 := (hR3.sr.st.oldCell HBW.out).trans HC0.out)
          | (go_at_call 9; refine (KI.len_rg (n := n1) hR3 HN1.out).mono ?_; rintro e w8 ⟨rfl, rfl⟩)
          | (at_builtin; refine app_rowG (RG.old (hR3.permR (List.Perm.swap _ _ _)) _) rfl _ _ 22 rfl (.int .i64 0) 8 Try.underlying22 KI.info rfl (by show 0 < 1; omega) rfl _ #[.int .i64 z] 3 rfl (Blk.new _ _ _) rfl (by simp [Value.oneCell']) (by (try simp only); omega) (by omega) ?_; intro hR5v w5 hR5; clear hR3; clear hc2; have hd := (hR5.sr.st.oldCell HBW2.out).trans HCB.out)
          | (go_at_call 11; refine (KI.pop_rg (HYQ.out ▸ hR5)).mono ?_; rintro e w6 ⟨rfl, hR6⟩; clear hR5 hd)
          | (at_builtin; refine app_rowG (RG.old (hR6.permR (List.Perm.swap _ _ _)) _) rfl _ _ 22 rfl (.int .i64 0) 8 Try.underlying22 KI.info rfl (by show 0 < 1; omega) rfl _ #[.int .i64 y] 3 rfl (Blk.new _ _ _) rfl (by simp [Value.oneCell']) (by (try simp only); omega) (by omega) ?_; intro hR7v w7 hR7; clear hR6))
        go_roundg (gk - 1)
        case measure => have := HJ.out; have := HLT.out; omega
        case rel =>
          have hX := (hR7.permR (List.Perm.refl _))
          (try simp only [flat_snoc] at hX)
          have h1 := HIO0.out
          have h2 := HI1.out
          have h3 := HO1.out
          have h4 := HJ.out
          have h5 := HLT.out
          have h6 := HN1.out
          have h7 := HYQ.out
          refine ⟨j + 1, (ins ++ [z]), (outs ++ [y]), q2, by omega, by go_num, ?_, ?_, ?_, ?_, ?_⟩
          · simpa using hX
          · rw [h1, List.append_assoc, h7]; simp
          · have h8 := congrArg List.length h7; simp only [List.length_cons] at h8; omega
          · (try simp only [List.length_append, List.length_singleton]); omega
          · (try simp only [List.length_append, List.length_singleton]); omega
end Go.Proofs.Ytiiejlphomjehaa
