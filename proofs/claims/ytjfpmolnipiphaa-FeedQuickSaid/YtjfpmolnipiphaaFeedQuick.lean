/- The statement FeedQuick, walked: for every configuration, filter and two numbers the Go law returns true, and nothing that was in memory is changed. -/
import Derived.Test.YtjfpmolnipiphaaFeed9
import Derived.Test.YtjfpmolnipiphaaFeedA
import Derived.Test.YtjfpmolnipiphaaOpenFilter
import Derived.Deep.LoopGhost
import Derived.Deep.QuietTactic
namespace Go.Proofs.Ytjfpmolnipiphaa
open Go.RowKit
set_option linter.unusedVariables false
set_option linter.unusedSimpArgs false

theorem quick_bad (c : Nat → Int) (s kd n a b : Int) (w : World) (hg : good c = false) : Calls Try.prog 4 #[.agg (cfgCells c s), .agg #[.int .i64 kd, .int .i64 n], .int .i64 a, .int .i64 b] w fun e w' => e = .returned (.bool true) ∧ Below w.heap.size w w' := by
  have hS : SR w [(w.heap.size + 1, 26, (#[.int .i64 kd, .int .i64 n] : Array Value)), (w.heap.size, 24, cfgCells c s)] [] _ := ((SR.ofSt (St.nil w)).alloc 24 (cfgCells c s)).alloc' (w.heap.size + 1) (by simp) 26 #[.int .i64 kd, .int .i64 n]
  have Q0 := St.loadC (L := [(w.heap.size + 1, 26, (#[.int .i64 kd, .int .i64 n] : Array Value)), (w.heap.size, 24, cfgCells c s)]) (w0 := w) 1 rfl
  have QF0 := St.cell (L := [(w.heap.size + 1, 26, (#[.int .i64 kd, .int .i64 n] : Array Value)), (w.heap.size, 24, cfgCells c s)]) (w0 := w) 0 rfl 0 (v := .int .i64 kd) rfl
  have QF1 := St.cell (L := [(w.heap.size + 1, 26, (#[.int .i64 kd, .int .i64 n] : Array Value)), (w.heap.size, 24, cfgCells c s)]) (w0 := w) 0 rfl 1 (v := .int .i64 n) rfl
  have HG := Lib.hid hg
  clear hg
  go_enter Try.func4, Try.ntmps4
  go_wp2_with (first
    | (go_at_call 5; refine (awake22 _).mono ?_; rintro e w1 ⟨rfl, hB⟩; have hS1 := hS.step hB; clear hS hB; have hSt := hS1.st)
    | (go_at_call 6; refine (fnew_no _ _ _ HG.out).mono ?_; rintro e w2 ⟨rfl, hB⟩; have hS2 := hS1.step hB; clear hS1 hB))
  go_ret
  exact ⟨rfl, hS2.below⟩
set_option maxRecDepth 100000 in
theorem quick_off (c : Nat → Int) (s kd n a b : Int) (w : World) (hg : good c = true) (hi : isV kd n = false) : Calls Try.prog 4 #[.agg (cfgCells c s), .agg #[.int .i64 kd, .int .i64 n], .int .i64 a, .int .i64 b] w fun e w' => e = .returned (.bool true) ∧ Below w.heap.size w w' := by
  have hS : SR w [(w.heap.size + 1, 26, (#[.int .i64 kd, .int .i64 n] : Array Value)), (w.heap.size, 24, cfgCells c s)] [] _ := ((SR.ofSt (St.nil w)).alloc 24 (cfgCells c s)).alloc' (w.heap.size + 1) (by simp) 26 #[.int .i64 kd, .int .i64 n]
  have Q0 := St.loadC (L := [(w.heap.size + 1, 26, (#[.int .i64 kd, .int .i64 n] : Array Value)), (w.heap.size, 24, cfgCells c s)]) (w0 := w) 1 rfl
  have QF0 := St.cell (L := [(w.heap.size + 1, 26, (#[.int .i64 kd, .int .i64 n] : Array Value)), (w.heap.size, 24, cfgCells c s)]) (w0 := w) 0 rfl 0 (v := .int .i64 kd) rfl
  have QF1 := St.cell (L := [(w.heap.size + 1, 26, (#[.int .i64 kd, .int .i64 n] : Array Value)), (w.heap.size, 24, cfgCells c s)]) (w0 := w) 0 rfl 1 (v := .int .i64 n) rfl
  have HG := Lib.hid hg
  clear hg
  obtain ⟨F0, hF50, hF⟩ := modN b 50 (by omega)
  have hF : (IntKind.u64.wrap b).tmod 50 = (F0 : Int) := hF
  obtain ⟨N0, hN100, hN⟩ := modN a 100 (by omega)
  have hN : (IntKind.u64.wrap a).tmod 100 = (N0 : Int) := hN
  have e1 : IntKind.i64.wrap (F0 : Int) = (F0 : Int) := IntWalk.i64_in _ (by omega)
  have e2 : IntKind.i64.wrap (N0 : Int) = (N0 : Int) := IntWalk.i64_in _ (by omega)
  have HI := Lib.hid hi
  clear hi hF50 hN100
  go_enter Try.func4, Try.ntmps4
  go_wp2_with (first
    | (go_at_call 5; refine (awake22 _).mono ?_; rintro e w1 ⟨rfl, hB⟩; have hS1 := hS.step hB; clear hS hB; have hSt := hS1.st)
    | (go_at_call 6; refine (fnew_ok hS1 HG.out).mono ?_; rintro e w2 ⟨gf, gr, room, rfl, hR2, hrm, hr1, hr2⟩; have HR1 := Lib.hid hr1; clear hr1 hr2 hrm hSt hS1; have hSt := hR2.sr.st.sub (List.sublist_cons_self _ _))
    | (go_at_call 7; refine (start_no HI.out _).mono ?_; rintro e w3 ⟨rfl, hB⟩; have hR3 := hR2.step hB; clear hR2 hB))
  go_ret
  exact ⟨rfl, hR3.sr.below⟩
set_option maxRecDepth 100000 in
set_option maxHeartbeats 8000000 in
theorem quick_on (c : Nat → Int) (s kd n a b : Int) (w : World) (hg : good c = true) (hi : isV kd n = true) : Calls Try.prog 4 #[.agg (cfgCells c s), .agg #[.int .i64 kd, .int .i64 n], .int .i64 a, .int .i64 b] w fun e w' => e = .returned (.bool true) ∧ Below w.heap.size w w' := by
  have hS : SR w [(w.heap.size + 1, 26, (#[.int .i64 kd, .int .i64 n] : Array Value)), (w.heap.size, 24, cfgCells c s)] [] _ := ((SR.ofSt (St.nil w)).alloc 24 (cfgCells c s)).alloc' (w.heap.size + 1) (by simp) 26 #[.int .i64 kd, .int .i64 n]
  have Q0 := St.loadC (L := [(w.heap.size + 1, 26, (#[.int .i64 kd, .int .i64 n] : Array Value)), (w.heap.size, 24, cfgCells c s)]) (w0 := w) 1 rfl
  have QF0 := St.cell (L := [(w.heap.size + 1, 26, (#[.int .i64 kd, .int .i64 n] : Array Value)), (w.heap.size, 24, cfgCells c s)]) (w0 := w) 0 rfl 0 (v := .int .i64 kd) rfl
  have QF1 := St.cell (L := [(w.heap.size + 1, 26, (#[.int .i64 kd, .int .i64 n] : Array Value)), (w.heap.size, 24, cfgCells c s)]) (w0 := w) 0 rfl 1 (v := .int .i64 n) rfl
  have HG := Lib.hid hg
  clear hg
  obtain ⟨F0, hF50, hF⟩ := modN b 50 (by omega)
  have hF : (IntKind.u64.wrap b).tmod 50 = (F0 : Int) := hF
  obtain ⟨N0, hN100, hN⟩ := modN a 100 (by omega)
  have hN : (IntKind.u64.wrap a).tmod 100 = (N0 : Int) := hN
  have e1 : IntKind.i64.wrap (F0 : Int) = (F0 : Int) := IntWalk.i64_in _ (by omega)
  have e2 : IntKind.i64.wrap (N0 : Int) = (N0 : Int) := IntWalk.i64_in _ (by omega)
  have HI := Lib.hid hi
  have HN100 := Lib.hid hN100
  have nz : (N0 : Int) < 100 := by omega
  have fz : (F0 : Int) < 50 := by omega
  clear hi hF50 hN100
  go_enter Try.func4, Try.ntmps4
  go_wp2_with (first
    | (go_at_call 5; refine (awake22 _).mono ?_; rintro e w1 ⟨rfl, hB⟩; have hS1 := hS.step hB; clear hS hB; have hSt := hS1.st)
    | (go_at_call 6; refine (fnew_ok hS1 HG.out).mono ?_; rintro e w2 ⟨gf, gr, room, rfl, hR2, hrm, hr1, hr2⟩; have HR1 := Lib.hid hr1; clear hr1 hr2 hrm hSt hS1; have hSt := hR2.sr.st.sub (List.sublist_cons_self _ _))
    | (go_at_call 7; refine (start_any (x := (F0 : Int)) hR2 HI.out (by omega)).mono ?_; rintro e w3 ⟨rfl, hR3⟩; clear hR2 hSt))
  have hRi := (hR3.newRow KC.T 11 0 #[] (by decide) rfl).newRow KN.T 12 0 #[] (by decide) rfl
  rw [show (w3.alloc (Obj.cells #[] KC.T)).heap.size = w3.heap.size + 1 by (show (w3.heap.push _).size = _; exact Array.size_push _)] at hRi
  clear hR3
  go_loopg [10, 11, 12] N0 (fun m va vt iv wr => ∃ j i : Nat, m + j = N0 ∧ i = j + 1 ∧ iv = .int .i64 (i : Int) ∧ FG w [(w.heap.size + 1, 26, (#[.int .i64 kd, .int .i64 n] : Array Value)), (w.heap.size, 24, cfgCells c s)] [⟨vt, 42, 12, (tQ kd n F0 j).length, KN.flat (tQ kd n F0 j)⟩, ⟨va, 38, 11, (aQ F0 j).length, KC.flat (aQ F0 j)⟩] gf gr room true kd n (hQ F0 j) 0 [] wr)
  case atStart => exact ⟨0, 1, by omega, rfl, rfl, by
    have h0 : hQ F0 0 = (F0 : Int) := by unfold hQ; rw [if_pos (by omega)]
    rw [h0]
    exact hRi⟩
  case round =>
    clear hRi
    obtain ⟨j, i, hj, hij, rfl, hR⟩ := hrel
    have i1 : (1 : Int) ≤ (i : Int) := by omega
    have i2 : (i : Int) ≤ 101 := by have := HN100.out; omega
    by_cases hle : (i : Int) ≤ (N0 : Int)
    · have htl : (tQ kd n F0 j).length ≤ 200 := by have := tQ_len kd n F0 j; have := HN100.out; omega
      have hal : (aQ F0 j).length ≤ 200 := by have := aQ_len F0 j; have := HN100.out; omega
      have HJ := Lib.hid hj
      have HIJ := Lib.hid hij
      have HTL := Lib.hid htl
      have HAL := Lib.hid hal
      have HLE := Lib.hid hle
      obtain ⟨x, hx⟩ : ∃ x, chf (i : Int) = x := ⟨_, rfl⟩
      have HX := Lib.hid hx
      clear hj htl hal
      have hx0 : x 0 = (i : Int) := by rw [← hx, chf_zero]
      have HX0 := Lib.hid hx0
      have hxx : chf ((j + 1 : Nat) : Int) = x := by rw [← hij]; exact hx
      by_cases hFi : F0 < j + 1
      · have hFz : (F0 : Int) < (i : Int) := by omega
        have haa := aQ_new (F := F0) (j := j) hFi
        rw [hxx] at haa
        have HAA := Lib.hid haa
        cases hp : passV kd n x
        · have hfo := fold_no (kd := kd) (n := n) (room := room) hFi (by rw [hxx]; exact hp)
          have htt := tQ_no (kd := kd) (n := n) hFi (by rw [hxx]; exact hp)
          rw [hxx] at hfo
          have HFO := Lib.hid hfo
          have HTT : RowKit.Hid (tQ kd n F0 j ++ [] = tQ kd n F0 (j + 1)) := by show tQ kd n F0 j ++ [] = _; rw [List.append_nil]; exact htt.symm
          clear hp hfo htt haa hFi hx hxx hx0 hij
          go_wp2_with (first
            | (go_at_call 8; refine (change_any _ _).mono ?_; rintro e w2 ⟨rfl, hB⟩; rw [HX.out]; have hR2 := hR.step hB; clear hR hB)
            | (refine store_newF hR2 rfl rfl 38 _ _ rfl 38 _ (CC x) rfl rfl (by kernel_rfl) rfl (by simp [Value.oneCell']) ?_; intro w3 hR3 hlt3; generalize w2.heap.size = gx at hR3 hlt3 ⊢; clear hlt3 hR2; have LX := St.big (w0 := w) (L := [(gx, 38, CC x)]) 0 38 _ rfl Try.underlying38 rfl (by kernel_rfl); have hSx := hR3.sr.st.sub (List.Sublist.cons_cons _ (List.nil_sublist _)); have hR4 := hR3.permL (List.Perm.swap _ _ _); clear hR3)
            | (at_builtin; refine app_rowF (RG.old (hR4.permR (List.Perm.swap _ _ _)) _) rfl _ _ 32 rfl (.agg (CC (fun _ => 0))) 88 Try.underlying32 KC.info rfl (by show 0 < 11; omega) rfl _ (CC x) 38 rfl (Blk.new _ _ _) rfl (by simp [Value.oneCell']) (by have := HAL.out; show (aQ F0 j).length ≤ 1000000; omega) (by omega) ?_; intro va5 w5 hR5; clear hSx hR4; have hSx := hR5.sr.st.sub ((List.Sublist.cons_cons _ (List.nil_sublist _)).cons _); replace hR5 := app_all HAA.out hR5)
            | (go_at_call 9; refine (Hear_any [x] (s := ⟨hQ F0 j, 0, []⟩) ((hR5.alloc 38 _).permL (List.Perm.swap _ _ _)) (Int.le_refl _) (by intro y hy; simp at hy; rw [hy, HX0.out]; omega) (by simp) (by simp) (one_cells x)).mono ?_; rintro e w6 ⟨rfl, hR6⟩; rw [HFO.out] at hR6 ⊢; clear hR5 hSx)
            | (go_at_call 11; refine (flen_any (m := 0) hR6 rfl).mono ?_; rintro e w7 ⟨rfl, hR7⟩; clear hR6)
            | (go_at_call 11; refine (flen_any (m := 0) hR7 rfl).mono ?_; rintro e w7 ⟨rfl, hR8⟩; clear hR7))
          have hRin : FG w [(w.heap.size + 1, 26, (#[.int .i64 kd, .int .i64 n] : Array Value)), (w.heap.size, 24, cfgCells c s)] [⟨_, 42, 12, (tQ kd n F0 j).length, KN.flat (tQ kd n F0 j)⟩, ⟨_, 38, 11, (aQ F0 (j + 1)).length, KC.flat (aQ F0 (j + 1))⟩] gf gr room true kd n (hQ F0 (j + 1)) 0 ([] : List (Int × (Nat → Int))) _ := ((hR8.permR (List.Perm.swap _ _ _)).sub (List.Sublist.cons_cons _ ((List.sublist_cons_self _ _).trans (List.sublist_cons_self _ _))))
          go_loopg [11] (([] : List (Int × (Nat → Int)))).length (fun m vt wr => ∃ (tl q1 : List (Int × (Nat → Int))), m = q1.length ∧ FG w [(w.heap.size + 1, 26, (#[.int .i64 kd, .int .i64 n] : Array Value)), (w.heap.size, 24, cfgCells c s)] [⟨vt, 42, 12, (tl).length, KN.flat (tl)⟩, ⟨va5, 38, 11, (aQ F0 (j + 1)).length, KC.flat (aQ F0 (j + 1))⟩] gf gr room true kd n (hQ F0 (j + 1)) 0 q1 wr ∧ tl ++ q1 = tQ kd n F0 (j + 1))
          case atStart => exact ⟨_, _, rfl, hRin, HTT.out⟩
          case round =>
            clear hRin
            obtain ⟨tl, q1, hm, hR, htq⟩ := hrel
            have hln := congrArg List.length htq
            rw [List.length_append] at hln
            have htl3 := tQ_len kd n F0 (j + 1)
            have htl2 : tl.length ≤ 300 := by have := HJ.out; have := HN100.out; omega
            have HTL2 := Lib.hid htl2
            have HTQ := Lib.hid htq
            have HM := Lib.hid hm
            clear hln htl3 htl2 htq hm
            cases q1 with
            | nil =>
              go_wp2_with (first
                | (go_at_call 11; refine (flen_any (m := 0) hR rfl).mono ?_; rintro e w7 ⟨rfl, hR8⟩; clear hR))
              go_roundg (N0 - (j + 1))
              case measure => have := HJ.out; have := HIJ.out; have := HLE.out; omega
              case rel =>
                have h9 := HTQ.out
                rw [List.append_nil] at h9
                rw [h9] at hR8
                exact ⟨j + 1, i + 1, by have := HJ.out; have := HIJ.out; have := HLE.out; omega, by have := HIJ.out; omega, by go_num, hR8⟩
            | cons y q2 =>
              obtain ⟨ln, hln⟩ : ∃ ln, (y :: q2).length = ln := ⟨_, rfl⟩
              have hl0 : (0 : Int) < (ln : Int) := by rw [← hln]; simp only [List.length_cons]; omega
              have HLN := Lib.hid hln
              clear hln
              go_wp2_with (first
                | (go_at_call 11; refine (flen_any (m := ln) hR HLN.out).mono ?_; rintro e w7 ⟨rfl, hR8⟩; clear hR)
                | (go_at_call 10; refine (tell_one hR8).mono ?_; rintro e w8 ⟨rfl, hR9⟩; clear hR8)
                | (refine store_newF hR9 rfl rfl 42 _ _ rfl 42 _ (#[.int .i64 y.1, .int .i64 (y.2 0), .int .i64 (y.2 1), .int .i64 (y.2 2), .int .i64 (y.2 3), .int .i64 (y.2 4), .int .i64 (y.2 5), .int .i64 (y.2 6), .int .i64 (y.2 7), .int .i64 (y.2 8), .int .i64 (y.2 9), .int .i64 (y.2 10)] : Array Value) rfl rfl (by kernel_rfl) rfl (by simp [Value.oneCell']) ?_; intro w9 hR10 hlt9; generalize w8.heap.size = gn at hR10 hlt9 ⊢; clear hlt9 hR9; have LN := St.big (w0 := w) 0 42 _ rfl Try.underlying42 rfl (by kernel_rfl) w9 hR10.sr.st)
                | (at_builtin; refine app_rowF (RG.old hR10 _) rfl _ _ 33 rfl (.agg #[.int .i64 0, .int .i64 0, .int .i64 0, .int .i64 0, .int .i64 0, .int .i64 0, .int .i64 0, .int .i64 0, .int .i64 0, .int .i64 0, .int .i64 0, .int .i64 0]) 96 Try.underlying33 KN.info rfl (by show 0 < 12; omega) rfl _ (#[.int .i64 y.1, .int .i64 (y.2 0), .int .i64 (y.2 1), .int .i64 (y.2 2), .int .i64 (y.2 3), .int .i64 (y.2 4), .int .i64 (y.2 5), .int .i64 (y.2 6), .int .i64 (y.2 7), .int .i64 (y.2 8), .int .i64 (y.2 9), .int .i64 (y.2 10)] : Array Value) 42 rfl (Blk.new _ _ _) rfl (by simp [Value.oneCell']) (by have := HTL2.out; show tl.length ≤ 1000000; omega) (by omega) ?_; intro vt11 w11 hR11; clear hR10 LN))
              go_roundg (gk - 1)
              case measure => have := HM.out; simp at this; omega
              case rel =>
                have h9 := HM.out
                simp at h9
                have hX := hR11.sub (List.sublist_cons_self _ _)
                refine ⟨tl ++ [y], q2, by omega, ?_, by rw [List.append_assoc]; exact HTQ.out⟩
                rw [List.length_append, List.length_singleton, ← KN.snoc]
                exact hX
        · have hfo := fold_new (kd := kd) (n := n) (room := room) hFi (by rw [hxx]; exact hp) HR1.out
          have htt := tQ_new (kd := kd) (n := n) hFi (by rw [hxx]; exact hp)
          rw [hxx] at hfo htt
          have HFO := Lib.hid hfo
          have HTT := Lib.hid htt.symm
          clear hp hfo htt haa hFi hx hxx hx0 hij
          go_wp2_with (first
            | (go_at_call 8; refine (change_any _ _).mono ?_; rintro e w2 ⟨rfl, hB⟩; rw [HX.out]; have hR2 := hR.step hB; clear hR hB)
            | (refine store_newF hR2 rfl rfl 38 _ _ rfl 38 _ (CC x) rfl rfl (by kernel_rfl) rfl (by simp [Value.oneCell']) ?_; intro w3 hR3 hlt3; generalize w2.heap.size = gx at hR3 hlt3 ⊢; clear hlt3 hR2; have LX := St.big (w0 := w) (L := [(gx, 38, CC x)]) 0 38 _ rfl Try.underlying38 rfl (by kernel_rfl); have hSx := hR3.sr.st.sub (List.Sublist.cons_cons _ (List.nil_sublist _)); have hR4 := hR3.permL (List.Perm.swap _ _ _); clear hR3)
            | (at_builtin; refine app_rowF (RG.old (hR4.permR (List.Perm.swap _ _ _)) _) rfl _ _ 32 rfl (.agg (CC (fun _ => 0))) 88 Try.underlying32 KC.info rfl (by show 0 < 11; omega) rfl _ (CC x) 38 rfl (Blk.new _ _ _) rfl (by simp [Value.oneCell']) (by have := HAL.out; show (aQ F0 j).length ≤ 1000000; omega) (by omega) ?_; intro va5 w5 hR5; clear hSx hR4; have hSx := hR5.sr.st.sub ((List.Sublist.cons_cons _ (List.nil_sublist _)).cons _); replace hR5 := app_all HAA.out hR5)
            | (go_at_call 9; refine (Hear_any [x] (s := ⟨hQ F0 j, 0, []⟩) ((hR5.alloc 38 _).permL (List.Perm.swap _ _ _)) (Int.le_refl _) (by intro y hy; simp at hy; rw [hy, HX0.out]; omega) (by simp) (by simp) (one_cells x)).mono ?_; rintro e w6 ⟨rfl, hR6⟩; rw [HFO.out] at hR6 ⊢; clear hR5 hSx)
            | (go_at_call 11; refine (flen_any (m := 1) hR6 rfl).mono ?_; rintro e w7 ⟨rfl, hR7⟩; clear hR6)
            | (go_at_call 11; refine (flen_any (m := 1) hR7 rfl).mono ?_; rintro e w7 ⟨rfl, hR8⟩; clear hR7))
          have hRin : FG w [(w.heap.size + 1, 26, (#[.int .i64 kd, .int .i64 n] : Array Value)), (w.heap.size, 24, cfgCells c s)] [⟨_, 42, 12, (tQ kd n F0 j).length, KN.flat (tQ kd n F0 j)⟩, ⟨_, 38, 11, (aQ F0 (j + 1)).length, KC.flat (aQ F0 (j + 1))⟩] gf gr room true kd n (hQ F0 (j + 1)) 0 ([(x 0, x)] : List (Int × (Nat → Int))) _ := ((hR8.permR (List.Perm.swap _ _ _)).sub (List.Sublist.cons_cons _ ((List.sublist_cons_self _ _).trans (List.sublist_cons_self _ _))))
          go_loopg [11] (([(x 0, x)] : List (Int × (Nat → Int)))).length (fun m vt wr => ∃ (tl q1 : List (Int × (Nat → Int))), m = q1.length ∧ FG w [(w.heap.size + 1, 26, (#[.int .i64 kd, .int .i64 n] : Array Value)), (w.heap.size, 24, cfgCells c s)] [⟨vt, 42, 12, (tl).length, KN.flat (tl)⟩, ⟨va5, 38, 11, (aQ F0 (j + 1)).length, KC.flat (aQ F0 (j + 1))⟩] gf gr room true kd n (hQ F0 (j + 1)) 0 q1 wr ∧ tl ++ q1 = tQ kd n F0 (j + 1))
          case atStart => exact ⟨_, _, rfl, hRin, HTT.out⟩
          case round =>
            clear hRin
            obtain ⟨tl, q1, hm, hR, htq⟩ := hrel
            have hln := congrArg List.length htq
            rw [List.length_append] at hln
            have htl3 := tQ_len kd n F0 (j + 1)
            have htl2 : tl.length ≤ 300 := by have := HJ.out; have := HN100.out; omega
            have HTL2 := Lib.hid htl2
            have HTQ := Lib.hid htq
            have HM := Lib.hid hm
            clear hln htl3 htl2 htq hm
            cases q1 with
            | nil =>
              go_wp2_with (first
                | (go_at_call 11; refine (flen_any (m := 0) hR rfl).mono ?_; rintro e w7 ⟨rfl, hR8⟩; clear hR))
              go_roundg (N0 - (j + 1))
              case measure => have := HJ.out; have := HIJ.out; have := HLE.out; omega
              case rel =>
                have h9 := HTQ.out
                rw [List.append_nil] at h9
                rw [h9] at hR8
                exact ⟨j + 1, i + 1, by have := HJ.out; have := HIJ.out; have := HLE.out; omega, by have := HIJ.out; omega, by go_num, hR8⟩
            | cons y q2 =>
              obtain ⟨ln, hln⟩ : ∃ ln, (y :: q2).length = ln := ⟨_, rfl⟩
              have hl0 : (0 : Int) < (ln : Int) := by rw [← hln]; simp only [List.length_cons]; omega
              have HLN := Lib.hid hln
              clear hln
              go_wp2_with (first
                | (go_at_call 11; refine (flen_any (m := ln) hR HLN.out).mono ?_; rintro e w7 ⟨rfl, hR8⟩; clear hR)
                | (go_at_call 10; refine (tell_one hR8).mono ?_; rintro e w8 ⟨rfl, hR9⟩; clear hR8)
                | (refine store_newF hR9 rfl rfl 42 _ _ rfl 42 _ (#[.int .i64 y.1, .int .i64 (y.2 0), .int .i64 (y.2 1), .int .i64 (y.2 2), .int .i64 (y.2 3), .int .i64 (y.2 4), .int .i64 (y.2 5), .int .i64 (y.2 6), .int .i64 (y.2 7), .int .i64 (y.2 8), .int .i64 (y.2 9), .int .i64 (y.2 10)] : Array Value) rfl rfl (by kernel_rfl) rfl (by simp [Value.oneCell']) ?_; intro w9 hR10 hlt9; generalize w8.heap.size = gn at hR10 hlt9 ⊢; clear hlt9 hR9; have LN := St.big (w0 := w) 0 42 _ rfl Try.underlying42 rfl (by kernel_rfl) w9 hR10.sr.st)
                | (at_builtin; refine app_rowF (RG.old hR10 _) rfl _ _ 33 rfl (.agg #[.int .i64 0, .int .i64 0, .int .i64 0, .int .i64 0, .int .i64 0, .int .i64 0, .int .i64 0, .int .i64 0, .int .i64 0, .int .i64 0, .int .i64 0, .int .i64 0]) 96 Try.underlying33 KN.info rfl (by show 0 < 12; omega) rfl _ (#[.int .i64 y.1, .int .i64 (y.2 0), .int .i64 (y.2 1), .int .i64 (y.2 2), .int .i64 (y.2 3), .int .i64 (y.2 4), .int .i64 (y.2 5), .int .i64 (y.2 6), .int .i64 (y.2 7), .int .i64 (y.2 8), .int .i64 (y.2 9), .int .i64 (y.2 10)] : Array Value) 42 rfl (Blk.new _ _ _) rfl (by simp [Value.oneCell']) (by have := HTL2.out; show tl.length ≤ 1000000; omega) (by omega) ?_; intro vt11 w11 hR11; clear hR10 LN))
              go_roundg (gk - 1)
              case measure => have := HM.out; simp at this; omega
              case rel =>
                have h9 := HM.out
                simp at h9
                have hX := hR11.sub (List.sublist_cons_self _ _)
                refine ⟨tl ++ [y], q2, by omega, ?_, by rw [List.append_assoc]; exact HTQ.out⟩
                rw [List.length_append, List.length_singleton, ← KN.snoc]
                exact hX
      · have hFz : ¬ (F0 : Int) < (i : Int) := by omega
        have haa := aQ_old (F := F0) (j := j) hFi
        have HAA := Lib.hid haa
        have hfo := fold_old (kd := kd) (n := n) (room := room) hFi
        have htt := tQ_old (kd := kd) (n := n) hFi
        rw [hxx] at hfo
        have HFO := Lib.hid hfo
        have HTT : RowKit.Hid (tQ kd n F0 j ++ [] = tQ kd n F0 (j + 1)) := by show tQ kd n F0 j ++ [] = _; rw [List.append_nil]; exact htt.symm
        clear hfo htt haa hFi hx hxx hx0 hij
        rw [← HAA.out] at hR
        go_wp2_with (first
          | (go_at_call 8; refine (change_any _ _).mono ?_; rintro e w2 ⟨rfl, hB⟩; rw [HX.out]; have hR2 := hR.step hB; clear hR hB)
          | (refine store_newF hR2 rfl rfl 38 _ _ rfl 38 _ (CC x) rfl rfl (by kernel_rfl) rfl (by simp [Value.oneCell']) ?_; intro w3 hR3 hlt3; generalize w2.heap.size = gx at hR3 hlt3 ⊢; clear hlt3 hR2; have LX := St.big (w0 := w) (L := [(gx, 38, CC x)]) 0 38 _ rfl Try.underlying38 rfl (by kernel_rfl); have hSx := hR3.sr.st.sub (List.Sublist.cons_cons _ (List.nil_sublist _)); have hR4 := hR3.permL (List.Perm.swap _ _ _); clear hR3)
          | (go_at_call 9; refine (Hear_any [x] (s := ⟨hQ F0 j, 0, []⟩) ((hR4.alloc 38 _).permL (List.Perm.swap _ _ _)) (Int.le_refl _) (by intro y hy; simp at hy; rw [hy, HX0.out]; omega) (by simp) (by simp) (one_cells x)).mono ?_; rintro e w6 ⟨rfl, hR6⟩; rw [HFO.out] at hR6 ⊢; clear hR4 hSx)
          | (go_at_call 11; refine (flen_any (m := 0) hR6 rfl).mono ?_; rintro e w7 ⟨rfl, hR7⟩; clear hR6)
          | (go_at_call 11; refine (flen_any (m := 0) hR7 rfl).mono ?_; rintro e w7 ⟨rfl, hR8⟩; clear hR7))
        have hRin : FG w [(w.heap.size + 1, 26, (#[.int .i64 kd, .int .i64 n] : Array Value)), (w.heap.size, 24, cfgCells c s)] [⟨_, 42, 12, (tQ kd n F0 j).length, KN.flat (tQ kd n F0 j)⟩, ⟨_, 38, 11, (aQ F0 (j + 1)).length, KC.flat (aQ F0 (j + 1))⟩] gf gr room true kd n (hQ F0 (j + 1)) 0 ([] : List (Int × (Nat → Int))) _ := ((hR8).sub (List.Sublist.cons_cons _ ((List.sublist_cons_self _ _).trans (List.sublist_cons_self _ _))))
        go_loopg [11] (([] : List (Int × (Nat → Int)))).length (fun m vt wr => ∃ (tl q1 : List (Int × (Nat → Int))), m = q1.length ∧ FG w [(w.heap.size + 1, 26, (#[.int .i64 kd, .int .i64 n] : Array Value)), (w.heap.size, 24, cfgCells c s)] [⟨vt, 42, 12, (tl).length, KN.flat (tl)⟩, ⟨u10, 38, 11, (aQ F0 (j + 1)).length, KC.flat (aQ F0 (j + 1))⟩] gf gr room true kd n (hQ F0 (j + 1)) 0 q1 wr ∧ tl ++ q1 = tQ kd n F0 (j + 1))
        case atStart => exact ⟨_, _, rfl, hRin, HTT.out⟩
        case round =>
          clear hRin
          obtain ⟨tl, q1, hm, hR, htq⟩ := hrel
          have hln := congrArg List.length htq
          rw [List.length_append] at hln
          have htl3 := tQ_len kd n F0 (j + 1)
          have htl2 : tl.length ≤ 300 := by have := HJ.out; have := HN100.out; omega
          have HTL2 := Lib.hid htl2
          have HTQ := Lib.hid htq
          have HM := Lib.hid hm
          clear hln htl3 htl2 htq hm
          cases q1 with
          | nil =>
            go_wp2_with (first
              | (go_at_call 11; refine (flen_any (m := 0) hR rfl).mono ?_; rintro e w7 ⟨rfl, hR8⟩; clear hR))
            go_roundg (N0 - (j + 1))
            case measure => have := HJ.out; have := HIJ.out; have := HLE.out; omega
            case rel =>
              have h9 := HTQ.out
              rw [List.append_nil] at h9
              rw [h9] at hR8
              exact ⟨j + 1, i + 1, by have := HJ.out; have := HIJ.out; have := HLE.out; omega, by have := HIJ.out; omega, by go_num, hR8⟩
          | cons y q2 =>
            obtain ⟨ln, hln⟩ : ∃ ln, (y :: q2).length = ln := ⟨_, rfl⟩
            have hl0 : (0 : Int) < (ln : Int) := by rw [← hln]; simp only [List.length_cons]; omega
            have HLN := Lib.hid hln
            clear hln
            go_wp2_with (first
              | (go_at_call 11; refine (flen_any (m := ln) hR HLN.out).mono ?_; rintro e w7 ⟨rfl, hR8⟩; clear hR)
              | (go_at_call 10; refine (tell_one hR8).mono ?_; rintro e w8 ⟨rfl, hR9⟩; clear hR8)
              | (refine store_newF hR9 rfl rfl 42 _ _ rfl 42 _ (#[.int .i64 y.1, .int .i64 (y.2 0), .int .i64 (y.2 1), .int .i64 (y.2 2), .int .i64 (y.2 3), .int .i64 (y.2 4), .int .i64 (y.2 5), .int .i64 (y.2 6), .int .i64 (y.2 7), .int .i64 (y.2 8), .int .i64 (y.2 9), .int .i64 (y.2 10)] : Array Value) rfl rfl (by kernel_rfl) rfl (by simp [Value.oneCell']) ?_; intro w9 hR10 hlt9; generalize w8.heap.size = gn at hR10 hlt9 ⊢; clear hlt9 hR9; have LN := St.big (w0 := w) 0 42 _ rfl Try.underlying42 rfl (by kernel_rfl) w9 hR10.sr.st)
              | (at_builtin; refine app_rowF (RG.old hR10 _) rfl _ _ 33 rfl (.agg #[.int .i64 0, .int .i64 0, .int .i64 0, .int .i64 0, .int .i64 0, .int .i64 0, .int .i64 0, .int .i64 0, .int .i64 0, .int .i64 0, .int .i64 0, .int .i64 0]) 96 Try.underlying33 KN.info rfl (by show 0 < 12; omega) rfl _ (#[.int .i64 y.1, .int .i64 (y.2 0), .int .i64 (y.2 1), .int .i64 (y.2 2), .int .i64 (y.2 3), .int .i64 (y.2 4), .int .i64 (y.2 5), .int .i64 (y.2 6), .int .i64 (y.2 7), .int .i64 (y.2 8), .int .i64 (y.2 9), .int .i64 (y.2 10)] : Array Value) 42 rfl (Blk.new _ _ _) rfl (by simp [Value.oneCell']) (by have := HTL2.out; show tl.length ≤ 1000000; omega) (by omega) ?_; intro vt11 w11 hR11; clear hR10 LN))
            go_roundg (gk - 1)
            case measure => have := HM.out; simp at this; omega
            case rel =>
              have h9 := HM.out
              simp at h9
              have hX := hR11.sub (List.sublist_cons_self _ _)
              refine ⟨tl ++ [y], q2, by omega, ?_, by rw [List.append_assoc]; exact HTQ.out⟩
              rw [List.length_append, List.length_singleton, ← KN.snoc]
              exact hX
    · obtain rfl : j = N0 := by omega
      have hal : (aQ F0 j).length ≤ 1000 := by have := aQ_len F0 j; have := HN100.out; omega
      obtain ⟨ys, hys⟩ : ∃ ys, (aQ F0 j).filter (passV kd n) = ys := ⟨_, rfl⟩
      obtain ⟨tl, htl⟩ : ∃ tl, tQ kd n F0 j = tl := ⟨_, rfl⟩
      have hty : tl = ys.map fun x => (x 0, x) := by rw [← htl, ← hys]; rfl
      have hlen : tl.length = ys.length := by rw [hty, List.length_map]
      have hyl : ys.length ≤ 100 := by rw [← hys]; have := List.length_filter_le (passV kd n) (aQ F0 j); have := aQ_len F0 j; have := HN100.out; omega
      have htg : ∀ (k : Nat) (y : Nat → Int), ys[k]? = some y → tl[k]? = some (y 0, y) := fun k y hy => by rw [hty, List.getElem?_map, hy]; rfl
      rw [htl] at hR
      have hlz : (tl.length : Int) = (ys.length : Int) := by omega
      have hyz : (ys.length : Int) ≤ 100 := by omega
      have HAL := Lib.hid hal
      have HYS := Lib.hid hys
      have HTG := Lib.hid htg
      have HLEN := Lib.hid hlen
      have hSt := hR.sr.st.sub (List.sublist_cons_self _ _)
      obtain ⟨pt, ct, rfl⟩ := row_form KN hR.sr 0 rfl
      clear hj hij hal hys htl hty hlen hyl htg
      go_wp2_with (first
        | (go_at_call 13; refine (Pick_any kd n (hR.sr.permR (List.Perm.swap _ _ _)) HAL.out).mono ?_; rintro e w2 ⟨v2, rfl, hO, hB⟩; rw [HYS.out] at hO; have hR2 := hR.call_row hB ⟨v2, 38, 11, ys.length, KC.flat ys⟩ hO; clear hR hSt hO hB; obtain ⟨pw, cw, rfl⟩ := row_form KC hR2.sr 0 rfl))
      go_loopg [17] ys.length (fun m iv wr => ∃ k : Nat, m + k = ys.length ∧ iv = .int .i64 (k : Int) ∧ FG w [(w.heap.size + 1, 26, (#[.int .i64 kd, .int .i64 n] : Array Value)), (w.heap.size, 24, cfgCells c s)] [⟨.slice pw ys.length cw, 38, 11, (ys).length, KC.flat (ys)⟩, ⟨.slice pt tl.length ct, 42, 12, (tl).length, KN.flat (tl)⟩, ⟨u10, 38, 11, (aQ F0 j).length, KC.flat (aQ F0 j)⟩] gf gr room true kd n (hQ F0 j) 0 [] wr)
      case atStart => exact ⟨0, by omega, rfl, hR2⟩
      case round =>
        clear hR2
        obtain ⟨k, hk, rfl, hR⟩ := hrel
        have k0 : (0 : Int) ≤ (k : Int) := by omega
        by_cases hlt : k < ys.length
        · have hkz : (k : Int) < (ys.length : Int) := by omega
          obtain ⟨y, hy⟩ : ∃ y, ys[k]? = some y := ⟨_, List.getElem?_eq_getElem hlt⟩
          obtain ⟨g1, c1, hv1, hc1⟩ := row_at KN hR.sr 1 rfl (HTG.out k y hy)
          injection hv1 with hp1 h11 h12
          subst hp1
          obtain ⟨g2, c2, hv2, hc2⟩ := row_at KC hR.sr 0 rfl hy
          injection hv2 with hp2 h21 h22
          subst hp2
          have x1 : wr.cell? ⟨g1, k * 12, none⟩ = some (.int .i64 (y 0)) := hc1 0 _ rfl
          have x2 : wr.cell? ⟨g2, k * 11, none⟩ = some (.int .i64 (y 0)) := hc2 0 _ rfl
          have l1 : (loadBig 38 ⟨g1, k * 12 + 1, none⟩).run Try.prog wr = .ok (.agg (CC y)) wr := big_mid 38 (CC y) _ (fun jj v hj => by have := hc1 (jj + 1) v hj; rw [show k * KN.S + (jj + 1) = k * 12 + 1 + jj by show k * 12 + (jj + 1) = _; omega] at this; exact this) Try.underlying38 rfl (by kernel_rfl)
          have l1m : ∀ m, (loadBig 38 ⟨g1, k * 12 + 1, none⟩).run Try.prog (wr.drewN m) = .ok (.agg (CC y)) (wr.drewN m) := fun m => big_mid 38 (CC y) _ (fun jj v hj => by have := hc1 (jj + 1) v hj; rw [show k * KN.S + (jj + 1) = k * 12 + 1 + jj by show k * 12 + (jj + 1) = _; omega] at this; exact this) Try.underlying38 rfl (by kernel_rfl)
          have l1d : (loadBig 38 ⟨g1, k * 12 + 1, none⟩).run Try.prog wr.drew = .ok (.agg (CC y)) wr.drew := big_mid 38 (CC y) _ (fun jj v hj => by have := hc1 (jj + 1) v hj; rw [show k * KN.S + (jj + 1) = k * 12 + 1 + jj by show k * 12 + (jj + 1) = _; omega] at this; exact this) Try.underlying38 rfl (by kernel_rfl)
          have l2 : (loadBig 38 ⟨g2, k * 11, none⟩).run Try.prog wr = .ok (.agg (CC y)) wr := big_mid 38 (CC y) _ (fun jj v hj => hc2 jj v hj) Try.underlying38 rfl (by kernel_rfl)
          have l2m : ∀ m, (loadBig 38 ⟨g2, k * 11, none⟩).run Try.prog (wr.drewN m) = .ok (.agg (CC y)) (wr.drewN m) := fun m => big_mid 38 (CC y) _ (fun jj v hj => hc2 jj v hj) Try.underlying38 rfl (by kernel_rfl)
          have l2d : (loadBig 38 ⟨g2, k * 11, none⟩).run Try.prog wr.drew = .ok (.agg (CC y)) wr.drew := big_mid 38 (CC y) _ (fun jj v hj => hc2 jj v hj) Try.underlying38 rfl (by kernel_rfl)
          have HK := Lib.hid hk
          have HLT := Lib.hid hlt
          clear hk hlt hy hc1 hc2 h11 h12 h21 h22
          go_wp2_with fail
          go_quiet (fail)
          go_wp2_with fail
          go_roundg (gk - 1)
          case measure => have := HK.out; have := HLT.out; omega
          case rel => exact ⟨k + 1, by have := HK.out; have := HLT.out; omega, by go_num, hR.drewN _⟩
        · have hkn : ¬ (k : Int) < (ys.length : Int) := by omega
          clear hlt hk
          go_wp2_with (first
            | (go_at_call 12; refine (lost_any hR).mono ?_; rintro e w3 ⟨rfl, rfl⟩))
          go_ret
          exact ⟨rfl, hR.sr.below⟩
theorem quick_law (c : Nat → Int) (s kd n a b : Int) (w : World) : Calls Try.prog 4 #[.agg (cfgCells c s), .agg #[.int .i64 kd, .int .i64 n], .int .i64 a, .int .i64 b] w fun e w' => e = .returned (.bool true) ∧ Below w.heap.size w w' := by
  cases hg : good c
  · exact quick_bad c s kd n a b w hg
  · cases hi : isV kd n
    · exact quick_off c s kd n a b w hg hi
    · exact quick_on c s kd n a b w hg hi
end Go.Proofs.Ytjfpmolnipiphaa
