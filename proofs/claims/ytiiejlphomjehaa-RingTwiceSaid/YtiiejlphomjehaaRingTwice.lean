/- The statement RingTwice, walked: for every room, row of numbers and number the Go law returns true, and nothing that was in memory is changed. -/
import Derived.Test.YtiiejlphomjehaaRingT
import Derived.Deep.LoopGhost
import Derived.Test.YtiiejlphomjehaaOpenInts
namespace Go.Proofs.Ytiiejlphomjehaa
open Go.RowKit
set_option linter.unusedVariables false
set_option linter.unusedSimpArgs false

set_option maxRecDepth 100000 in
set_option maxHeartbeats 8000000 in
theorem ringTwice_law (a0 : Int) (zs : List Int) (A : Option Addr) (cap : Nat) (a2 : Int) (w : World) (hn : zs.length ≤ 9223372036854775807)
    (hA : ∀ k, k < zs.length → ∃ b o, A = some ⟨b, o, none⟩ ∧ b < w.heap.size ∧ w.cell? ⟨b, o + k, none⟩ = some (.int .i64 (zs.getD k 0))) :
    Calls Try.prog 5 #[.int .i64 a0, .slice A zs.length cap, .int .i64 a2] w fun e w' => e = .returned (.bool true) ∧ Below w.heap.size w w' := by
  have hS := SR.ofSt (St.nil w)
  have HA := Lib.hid hA
  have hm0 : (zs.length : Int) ≤ 9223372036854775807 := by omega
  clear hA
  by_cases h100 : zs.length ≤ 100
  rotate_left
  · have hz : (100 : Int) < (zs.length : Int) := by omega
    clear hn h100
    go_enter Try.func5, Try.ntmps5
    go_wp2_with (go_at_call 7; refine (awake05 _).mono ?_; rintro e w1 ⟨rfl, hB1⟩)
    go_ret
    exact ⟨rfl, hB1⟩
  obtain ⟨kk, hk200, hkk⟩ := mod200 a0
  obtain ⟨k, hk⟩ : ∃ k : Nat, 1 + (kk : Int) = (k : Int) := ⟨1 + kk, by omega⟩
  have hk1 : 1 ≤ k := by omega
  have hk2 : k ≤ 65536 := by omega
  have e1 : IntKind.i64.wrap (k : Int) = (k : Int) := IntWalk.i64_in _ (by omega)
  have e2 : IntKind.i64.wrap (kk : Int) = (kk : Int) := IntWalk.i64_in _ (by omega)
  have HZ := Lib.hid h100
  have hz : (zs.length : Int) ≤ 100 := by omega
  have HK1 := Lib.hid hk1
  have HK2 := Lib.hid hk2
  clear hk200 hn h100 hk1 hk2
  go_enter Try.func5, Try.ntmps5
  go_wp2_with (go_at_call 7; refine (awake05 _).mono ?_; rintro e w1 ⟨rfl, hB1⟩; have hS1 := hS.step hB1; clear hS hB1)
  go_wp2_with (go_at_call 8; refine (KI.new_rg (room := k) hS1 HK1.out HK2.out).mono ?_; rintro e w2 ⟨gr, rfl, hRi⟩; clear hS1)
  go_loopg [8] zs.length (fun m iv wr => ∃ j : Nat, m + j = zs.length ∧ iv = .int .i64 j ∧ RG KI w [] [] gr k (stood k zs j) wr)
  case atStart => exact ⟨0, by omega, rfl, by rw [stood_zero]; exact hRi⟩
  case round =>
    clear hRi
    obtain ⟨j, hj, rfl, hR⟩ := hrel
    have j0 : (0 : Int) ≤ (j : Int) := by omega
    by_cases hlt : j < zs.length
    · have hltz : (j : Int) < (zs.length : Int) := by omega
      obtain ⟨b, o0, rfl, hbw, hcell0⟩ := HA.out j hlt
      have hlen := stood_len k zs j (by omega)
      have hcell := (hR.sr.st.oldCell hbw).trans hcell0
      have HJ := Lib.hid hj
      have HLT := Lib.hid hlt
      by_cases hjk : j < k
      · have hsm := stood_more hlt hjk
        have HSM := Lib.hid hsm
        have HLN : RowKit.Hid ((stood k zs j).length < k) := by show (stood k zs j).length < k; omega
        clear hlt hj hcell0 hbw hlen hsm hjk
        go_wp2_with (go_at_call 10; refine (KI.push_rg _ hR HLN.out).mono ?_; rintro e w5 ⟨rfl, hR5⟩; clear hR)
        go_roundg (gk - 1)
        case measure => have := HJ.out; have := HLT.out; omega
        case rel => exact ⟨j + 1, by have := HJ.out; have := HLT.out; omega, by go_num, by rw [HSM.out]; exact hR5⟩
      · have hsm := stood_same (k := k) (j := j) (zs := zs) (by omega)
        have HSM := Lib.hid hsm
        have HLN : RowKit.Hid ((stood k zs j).length = k) := by show (stood k zs j).length = k; omega
        clear hlt hj hcell0 hbw hlen hsm hjk
        go_wp2_with (go_at_call 10; refine (KI.push_no _ hR HLN.out).mono ?_; rintro e w5 ⟨rfl, hR5⟩; clear hR)
        go_roundg (gk - 1)
        case measure => have := HJ.out; have := HLT.out; omega
        case rel => exact ⟨j + 1, by have := HJ.out; have := HLT.out; omega, by go_num, by rw [HSM.out]; exact hR5⟩
    obtain rfl : j = zs.length := by omega
    rw [stood_all] at hR
    clear hlt hj
    obtain ⟨q, hq⟩ : ∃ q, zs.take k = q := ⟨_, rfl⟩
    have hql : q.length = min k zs.length := by rw [← hq, List.length_take]
    have hql1 : q.length ≤ 100 := by have := HZ.out; omega
    have hqg : ∀ i, i < q.length → q[i]? = some (zs.getD i 0) := by rw [← hq]; exact fun i hi => stood_get hi
    rw [hq] at hR
    have HQL := Lib.hid hql
    have HQ1 := Lib.hid hql1
    have HQG := Lib.hid hqg
    clear hq hql hql1 hqg
    obtain ⟨qa, hqa⟩ : ∃ qa, (q.map made5).map back5 = qa := ⟨_, rfl⟩
    have hqal : qa.length = q.length := by rw [← hqa]; simp
    have hqag : ∀ i y, q[i]? = some y → qa[i]? = some (back5 (made5 y)) := fun i y hy => by rw [← hqa, List.getElem?_map, List.getElem?_map, hy]; rfl
    have HQA := Lib.hid hqa
    have HQAL := Lib.hid hqal
    have HQAG := Lib.hid hqag
    have hq6 : (q.length : Int) ≤ 100 := by have := HQ1.out; omega
    clear hqa hqal hqag
    obtain ⟨v0, fr0, len0, hr0, hap0⟩ := hR.ring
    have HR0 := Lib.hid hr0
    clear hr0 hap0
    go_wp2_with (first
      | (go_at_call 23; refine (map_made HR0.out).mono ?_; rintro e w1 ⟨gp, rfl, hP⟩; have hR1 := hR.step hP.sr.below; obtain ⟨v1, fr1, len1, hr1, hap1⟩ := hP.ring; clear hR hP hap1)
      | (go_at_call 22; refine (map_back hr1).mono ?_; rintro e w2 ⟨gq, rfl, hP⟩; rw [HQA.out] at hP; have hR2 := hR1.step hP.sr.below; obtain ⟨v2, fr2, len2, hr2, hap2⟩ := hP.ring; clear hR1 hP hr1 hap2)
      | (go_at_call 16; refine (KI.list_any hr2).mono ?_; rintro e w3 ⟨va, rfl, hown, hB⟩; have hR3 := hR2.call_row hB ⟨va, 3, 1, qa.length, KI.flat qa⟩ hown; clear hR2 hr2 hown hB; obtain ⟨pa, ca, rfl⟩ := row_form KI hR3.sr 0 rfl; rw [HQAL.out] at hR3 ⊢)
      | (go_at_call 16; refine (KI.list_rg hR3).mono ?_; rintro e w4 ⟨vl, rfl, hR4⟩; clear hR3; obtain ⟨pl, cl, rfl⟩ := row_form KI hR4.sr 0 rfl))
    go_loopg [11] q.length (fun m iv wr => ∃ j : Nat, m + j = q.length ∧ iv = .int .i64 j ∧ RG KI w [] [⟨.slice pl q.length cl, 3, 1, q.length, KI.flat q⟩, ⟨.slice pa q.length ca, 3, 1, q.length, KI.flat qa⟩] gr k q wr)
    case atStart => exact ⟨0, by omega, rfl, hR4⟩
    case round =>
      clear hR4
      obtain ⟨j, hj, rfl, hR⟩ := hrel
      have j0 : (0 : Int) ≤ (j : Int) := by omega
      by_cases hlt : j < q.length
      · have hltz : (j : Int) < (q.length : Int) := by omega
        obtain ⟨y, hy⟩ : ∃ y, q[j]? = some y := ⟨_, List.getElem?_eq_getElem hlt⟩
        have hya := HQAG.out j y hy
        obtain ⟨g1, c1, hv1, hcc1⟩ := row_at KI hR.sr 0 rfl hy
        injection hv1 with hp1 hp2 hp3
        subst hp1
        clear hcc1 hp2 hp3
        obtain ⟨g2, hg2⟩ : ∃ g2, pa = some ⟨g2, 0, none⟩ := by
          rcases hR.sr.form 1 rfl with ⟨h1, h2⟩ | ⟨g2, c2, h1, _⟩
          · have : q.length = 0 := h2
            omega
          · injection h1 with h1
            exact ⟨g2, h1⟩
        subst hg2
        obtain ⟨P, hPd⟩ : ∃ P : World → Prop, P = fun W => RG KI w [] [⟨.slice (some ⟨g1, 0, none⟩) q.length cl, 3, 1, q.length, KI.flat q⟩, ⟨.slice (some ⟨g2, 0, none⟩) q.length ca, 3, 1, q.length, KI.flat qa⟩] gr k q W := ⟨_, rfl⟩
        have cL : ∀ W, PX P W → W.cell? ⟨g1, j, none⟩ = some (.int .i64 y) := by rw [hPd]; exact fun W hW => hW.sr.item 0 rfl rfl j (by rw [flat_int, List.getElem?_map, hy]; rfl)
        have cA : ∀ W, PX P W → W.cell? ⟨g2, j, none⟩ = some (.int .i64 (back5 (made5 y))) := by rw [hPd]; exact fun W hW => hW.sr.item 1 rfl rfl j (by rw [flat_int, List.getElem?_map, hya]; rfl)
        have HPS : RowKit.Hid (∀ W W', Below W.heap.size W W' → PX P W → PX P W') := by show ∀ W W', Below W.heap.size W W' → P W → P W'; rw [hPd]; exact fun _ _ hB h => h.step hB
        have HPB : RowKit.Hid (∀ W, PX P W → RG KI w [] [⟨.slice (some ⟨g1, 0, none⟩) q.length cl, 3, 1, q.length, KI.flat q⟩, ⟨.slice (some ⟨g2, 0, none⟩) q.length ca, 3, 1, q.length, KI.flat qa⟩] gr k q W) := by show ∀ W, P W → _; rw [hPd]; exact fun _ h => h
        have hRd : PX P wr.drew := by rw [hPd]; exact hR.drewN 1
        clear hPd hR
        have HJ := Lib.hid hj
        have HLT := Lib.hid hlt
        clear hj hlt hy hya
        go_wp2_with fail
        refine wp_region_held_drew (S := PX P) (by kernel_rfl) hRd (fun hHeld => ?_)
        refine wpAnyH_take (i := 0) (oi := { dst := some 56, op := Op.move (Operand.tmp 9), type := 22, pos := "own.go:60", after := #[], guard := none }) (v := ?_) rfl (by kernel_rfl) (by kernel_rfl) (by kernel_rfl) (fun _ _ _ h => h) (Or.inl ⟨by rfl, ?_⟩) (by assumption) ?_
        rotate_left
        · (intro W hSw; go_simp; first | done | with_reducible rfl)
        try simp only [Act.put, List.setIfInBounds_toArray, List.set_cons_zero, List.set_cons_succ]
        refine wpAnyH_take (i := 1) (oi := { dst := some 57, op := Op.move (Operand.tmp 11), type := 3, pos := "own.go:60", after := #[], guard := none }) (v := ?_) rfl (by kernel_rfl) (by kernel_rfl) (by kernel_rfl) (fun _ _ _ h => h) (Or.inl ⟨by rfl, ?_⟩) (by assumption) ?_
        rotate_left
        · (intro W hSw; go_simp; first | done | with_reducible rfl)
        try simp only [Act.put, List.setIfInBounds_toArray, List.set_cons_zero, List.set_cons_succ]
        refine wpAnyH_take (i := 2) (oi := { dst := some 58, op := Op.indexAddr 22 (Operand.tmp 56) (Operand.tmp 57), type := 0, pos := "own.go:60", after := #[{ on := 0, ground := Ground.data }, { on := 1, ground := Ground.data }], guard := none }) (v := ?_) rfl (by kernel_rfl) (by kernel_rfl) (by kernel_rfl) (fun _ _ _ h => h) (Or.inl ⟨by rfl, ?_⟩) (by assumption) ?_
        rotate_left
        · (intro W hSw; go_simp; first | done | with_reducible rfl)
        try simp only [Act.put, List.setIfInBounds_toArray, List.set_cons_zero, List.set_cons_succ]
        refine wpAnyH_take (i := 3) (oi := { dst := some 59, op := Op.load 3 (Operand.tmp 58), type := 3, pos := "own.go:60", after := #[{ on := 2, ground := Ground.data }], guard := none }) (v := ?_) rfl (by kernel_rfl) (by kernel_rfl) (by kernel_rfl) (fun _ _ _ h => h) (Or.inl ⟨by rfl, ?_⟩) (by assumption) ?_
        rotate_left
        · (intro W hSw; go_simp; first | done | with_reducible rfl)
        try simp only [Act.put, List.setIfInBounds_toArray, List.set_cons_zero, List.set_cons_succ]
        refine wpAnyH_take (i := 4) (oi := { dst := some 60, op := Op.move (Operand.tmp 10), type := 22, pos := "own.go:60", after := #[], guard := none }) (v := ?_) rfl (by kernel_rfl) (by kernel_rfl) (by kernel_rfl) (fun _ _ _ h => h) (Or.inl ⟨by rfl, ?_⟩) (by assumption) ?_
        rotate_left
        · (intro W hSw; go_simp; first | done | with_reducible rfl)
        try simp only [Act.put, List.setIfInBounds_toArray, List.set_cons_zero, List.set_cons_succ]
        refine wpAnyH_take (i := 5) (oi := { dst := some 61, op := Op.move (Operand.tmp 11), type := 3, pos := "own.go:60", after := #[], guard := none }) (v := ?_) rfl (by kernel_rfl) (by kernel_rfl) (by kernel_rfl) (fun _ _ _ h => h) (Or.inl ⟨by rfl, ?_⟩) (by assumption) ?_
        rotate_left
        · (intro W hSw; go_simp; first | done | with_reducible rfl)
        try simp only [Act.put, List.setIfInBounds_toArray, List.set_cons_zero, List.set_cons_succ]
        refine wpAnyH_take (i := 6) (oi := { dst := some 62, op := Op.indexAddr 22 (Operand.tmp 60) (Operand.tmp 61), type := 0, pos := "own.go:60", after := #[{ on := 4, ground := Ground.data }, { on := 5, ground := Ground.data }], guard := none }) (v := ?_) rfl (by kernel_rfl) (by kernel_rfl) (by kernel_rfl) (fun _ _ _ h => h) (Or.inl ⟨by rfl, ?_⟩) (by assumption) ?_
        rotate_left
        · (intro W hSw; go_simp; first | done | with_reducible rfl)
        try simp only [Act.put, List.setIfInBounds_toArray, List.set_cons_zero, List.set_cons_succ]
        refine wpAnyH_take (i := 7) (oi := { dst := some 63, op := Op.load 3 (Operand.tmp 62), type := 3, pos := "own.go:60", after := #[{ on := 6, ground := Ground.data }], guard := none }) (v := ?_) rfl (by kernel_rfl) (by kernel_rfl) (by kernel_rfl) (fun _ _ _ h => h) (Or.inl ⟨by rfl, ?_⟩) (by assumption) ?_
        rotate_left
        · (intro W hSw; go_simp; first | done | with_reducible rfl)
        try simp only [Act.put, List.setIfInBounds_toArray, List.set_cons_zero, List.set_cons_succ]
        refine wpAnyH_ready (rs := [8]) (by kernel_rfl) (by simp) ?_
        refine AllReadyH.cons (o := { dst := some 64, op := Op.call { callee := Callee.value (Operand.func 24), args := #[Operand.tmp 63], argTypes := #[3] }, type := 49, pos := "own.go:60", after := #[{ on := 7, ground := Ground.data }], guard := none }) rfl (fun K hK => ?_) AllReadyH.nil
        go_simp
        refine (made_is y _).mono ?_; rintro e w5 ⟨rfl, hB⟩; have hR5 := HPS.out _ _ hB hHeld; clear hB
        refine hK.out _ _ (by assumption) (fun hHeld => ?_)
        clear hK K
        try simp only [Act.put, List.setIfInBounds_toArray, List.set_cons_zero, List.set_cons_succ]
        refine wpAnyH_ready (rs := [9]) (by kernel_rfl) (by simp) ?_
        refine AllReadyH.cons (o := { dst := some 65, op := Op.call { callee := Callee.value (Operand.func 25), args := #[Operand.tmp 64], argTypes := #[49] }, type := 3, pos := "own.go:60", after := #[{ on := 8, ground := Ground.data }, { on := 8, ground := Ground.chain }], guard := none }) rfl (fun K hK => ?_) AllReadyH.nil
        go_simp
        refine (back_is (made5 y) _).mono ?_; rintro e w6 ⟨rfl, hB⟩; have hR6 := HPS.out _ _ hB hHeld; clear hB
        refine hK.out _ _ (by assumption) (fun hHeld => ?_)
        clear hK K
        try simp only [Act.put, List.setIfInBounds_toArray, List.set_cons_zero, List.set_cons_succ]
        refine wpAnyH_take (i := 10) (oi := { dst := some 66, op := Op.binOp BinOp.neq 3 (Operand.tmp 59) (Operand.tmp 65) 3, type := 4, pos := "own.go:60", after := #[{ on := 3, ground := Ground.data }, { on := 9, ground := Ground.data }], guard := none }) (v := ?_) rfl (by kernel_rfl) (by kernel_rfl) (by kernel_rfl) (fun _ _ _ h => h) (Or.inl ⟨by rfl, ?_⟩) (by assumption) ?_
        rotate_left
        · (intro W hSw; go_simp; first | done | with_reducible rfl)
        try simp only [Act.put, List.setIfInBounds_toArray, List.set_cons_zero, List.set_cons_succ]
        refine wpAnyH_done (by kernel_rfl) ?_ _
        go_wp2_with fail
        go_roundg (gk - 1)
        case measure => have := HJ.out; have := HLT.out; omega
        case rel => exact ⟨j + 1, by have := HJ.out; have := HLT.out; omega, by go_num, HPB.out _ hR6⟩
      have hnz : ¬ (j : Int) < (q.length : Int) := by omega
      clear hlt hj
      obtain ⟨m3, hm3, hmm⟩ := mod3 a2
      obtain ⟨by0, hb⟩ : ∃ by0 : Int, 2 + (m3 : Int) = by0 := ⟨_, rfl⟩
      have hb0 : 0 < by0 := by omega
      have hb4 : by0 ≤ 4 := by omega
      have e3 : IntKind.i64.wrap by0 = by0 := IntWalk.i64_in _ (by omega)
      have e4 : IntKind.i64.wrap (m3 : Int) = (m3 : Int) := IntWalk.i64_in _ (by omega)
      have HB0 := Lib.hid hb0
      have HB4 := Lib.hid hb4
      clear hb0 hb4 hm3
      have hR0 := hR.subR (R' := [⟨.slice pl q.length cl, 3, 1, q.length, KI.flat q⟩]) (List.Sublist.cons_cons _ (List.nil_sublist _))
      clear hR
      go_wp2_with (first
        | (go_at_call 9; refine (KI.len_rg (n := q.length) hR0 rfl).mono ?_; rintro e w5 ⟨rfl, rfl⟩)
        | (refine store_newT hR0 rfl rfl 45 _ _ rfl 45 _ #[.int .i64 by0] rfl rfl (by kernel_rfl) rfl (by simp [Value.oneCell']) ?_; intro w6 hR6 hlt6; generalize wr.heap.size = gb at hR6 hlt6 ⊢; clear hlt6 hR0))
      go_loopg [14, 15] q.length (fun m gv iv wr => ∃ j : Nat, m + j = q.length ∧ iv = .int .i64 j ∧ gv = .int .i64 ((j : Int) - ((stay by0 (q.take j)).length : Int)) ∧ RG KI w [(gb, 45, #[.int .i64 by0])] [⟨.slice pl q.length cl, 3, 1, q.length, KI.flat q⟩] gr k q wr)
      case atStart => exact ⟨0, by omega, rfl, rfl, hR6⟩
      case round =>
        clear hR6
        obtain ⟨j, hj, rfl, rfl, hR⟩ := hrel
        have j0 : (0 : Int) ≤ (j : Int) := by omega
        by_cases hlt : j < q.length
        · have hltz : (j : Int) < (q.length : Int) := by omega
          obtain ⟨y, hy⟩ : ∃ y, q[j]? = some y := ⟨_, List.getElem?_eq_getElem hlt⟩
          obtain ⟨g1, c1, hv1, hcc1⟩ := row_at KI hR.sr 0 rfl hy
          injection hv1 with hp1 hp2 hp3
          subst hp1
          clear hcc1 hp2 hp3
          obtain ⟨P, hPd⟩ : ∃ P : World → Prop, P = fun W => RG KI w [(gb, 45, #[.int .i64 by0])] [⟨.slice (some ⟨g1, 0, none⟩) q.length cl, 3, 1, q.length, KI.flat q⟩] gr k q W := ⟨_, rfl⟩
          have cL : ∀ W, PX P W → W.cell? ⟨g1, j, none⟩ = some (.int .i64 y) := by rw [hPd]; exact fun W hW => hW.sr.item 0 rfl rfl j (by rw [flat_int, List.getElem?_map, hy]; rfl)
          have cB : ∀ W, PX P W → W.cell? ⟨gb, 0, none⟩ = some (.int .i64 by0) := by rw [hPd]; exact fun W hW => SR.cell 0 rfl 0 rfl W hW.sr
          have HPS : RowKit.Hid (∀ W W', Below W.heap.size W W' → PX P W → PX P W') := by show ∀ W W', Below W.heap.size W W' → P W → P W'; rw [hPd]; exact fun _ _ hB h => h.step hB
          have HPB : RowKit.Hid (∀ W, PX P W → RG KI w [(gb, 45, #[.int .i64 by0])] [⟨.slice (some ⟨g1, 0, none⟩) q.length cl, 3, 1, q.length, KI.flat q⟩] gr k q W) := by show ∀ W, P W → _; rw [hPd]; exact fun _ h => h
          have hRd : PX P wr.drew := by rw [hPd]; exact hR.drewN 1
          clear hPd hR
          have hsl := stay_le by0 (q.take j)
          rw [List.length_take] at hsl
          have hss := stay_snoc by0 hy
          obtain ⟨sn, hsn⟩ : ∃ sn, (stay by0 (q.take j)).length = sn := ⟨_, rfl⟩
          rw [hsn] at hsl ⊢
          have HJ := Lib.hid hj
          have HLT := Lib.hid hlt
          have hsj : (sn : Int) ≤ (j : Int) := by omega
          have HSN := Lib.hid hsn
          have e5 : IntKind.i64.wrap ((j : Int) - (sn : Int) + 1) = (j : Int) - (sn : Int) + 1 := IntWalk.i64_in _ (by omega)
          clear hj hlt hy hsl hsn
          by_cases hz : y.tmod by0 = 0
          · rw [if_pos hz] at hss
            have HSS := Lib.hid hss
            have hzb : (y.tmod by0 == 0) = true := by simpa using hz
            clear hss
            go_wp2_with fail
            refine wp_region_held_drew (S := PX P) (by kernel_rfl) hRd (fun hHeld => ?_)
            refine wpAnyH_take (i := 0) (oi := { dst := some 81, op := Op.load 45 (Operand.tmp 13), type := 45, pos := "own.go:68", after := #[], guard := none }) (v := ?_) rfl (by kernel_rfl) (by kernel_rfl) (by kernel_rfl) (fun _ _ _ h => h) (Or.inl ⟨by rfl, ?_⟩) (by assumption) ?_
            rotate_left
            · (intro W hSw; go_simp; first | done | with_reducible rfl)
            try simp only [Act.put, List.setIfInBounds_toArray, List.set_cons_zero, List.set_cons_succ]
            refine wpAnyH_take (i := 1) (oi := { dst := some 82, op := Op.move (Operand.tmp 10), type := 22, pos := "own.go:68", after := #[], guard := none }) (v := ?_) rfl (by kernel_rfl) (by kernel_rfl) (by kernel_rfl) (fun _ _ _ h => h) (Or.inl ⟨by rfl, ?_⟩) (by assumption) ?_
            rotate_left
            · (intro W hSw; go_simp; first | done | with_reducible rfl)
            try simp only [Act.put, List.setIfInBounds_toArray, List.set_cons_zero, List.set_cons_succ]
            refine wpAnyH_take (i := 2) (oi := { dst := some 83, op := Op.move (Operand.tmp 15), type := 3, pos := "own.go:68", after := #[], guard := none }) (v := ?_) rfl (by kernel_rfl) (by kernel_rfl) (by kernel_rfl) (fun _ _ _ h => h) (Or.inl ⟨by rfl, ?_⟩) (by assumption) ?_
            rotate_left
            · (intro W hSw; go_simp; first | done | with_reducible rfl)
            try simp only [Act.put, List.setIfInBounds_toArray, List.set_cons_zero, List.set_cons_succ]
            refine wpAnyH_take (i := 3) (oi := { dst := some 84, op := Op.indexAddr 22 (Operand.tmp 82) (Operand.tmp 83), type := 0, pos := "own.go:68", after := #[{ on := 1, ground := Ground.data }, { on := 2, ground := Ground.data }], guard := none }) (v := ?_) rfl (by kernel_rfl) (by kernel_rfl) (by kernel_rfl) (fun _ _ _ h => h) (Or.inl ⟨by rfl, ?_⟩) (by assumption) ?_
            rotate_left
            · (intro W hSw; go_simp; first | done | with_reducible rfl)
            try simp only [Act.put, List.setIfInBounds_toArray, List.set_cons_zero, List.set_cons_succ]
            refine wpAnyH_take (i := 4) (oi := { dst := some 85, op := Op.load 3 (Operand.tmp 84), type := 3, pos := "own.go:68", after := #[{ on := 3, ground := Ground.data }], guard := none }) (v := ?_) rfl (by kernel_rfl) (by kernel_rfl) (by kernel_rfl) (fun _ _ _ h => h) (Or.inl ⟨by rfl, ?_⟩) (by assumption) ?_
            rotate_left
            · (intro W hSw; go_simp; first | done | with_reducible rfl)
            try simp only [Act.put, List.setIfInBounds_toArray, List.set_cons_zero, List.set_cons_succ]
            refine wpAnyH_ready (rs := [5]) (by kernel_rfl) (by simp) ?_
            refine AllReadyH.cons (o := { dst := some 86, op := Op.call { callee := Callee.value (Operand.func 21), args := #[Operand.tmp 81, Operand.tmp 85], argTypes := #[45, 3] }, type := 4, pos := "own.go:68", after := #[{ on := 0, ground := Ground.data }, { on := 4, ground := Ground.data }], guard := none }) rfl (fun K hK => ?_) AllReadyH.nil
            go_simp
            refine (odd_is y by0 HB0.out HB4.out _).mono ?_; rintro e w7 ⟨rfl, hB⟩; have hR7 := HPS.out _ _ hB hHeld; clear hB
            refine hK.out _ _ (by assumption) (fun hHeld => ?_)
            clear hK K
            try simp only [Act.put, List.setIfInBounds_toArray, List.set_cons_zero, List.set_cons_succ]
            refine wpAnyH_done (by kernel_rfl) ?_ _
            go_wp2_with fail
            go_roundg (gk - 1)
            case measure => have := HJ.out; have := HLT.out; omega
            case rel => exact ⟨j + 1, by have := HJ.out; have := HLT.out; omega, by go_num, by rw [HSS.out, HSN.out]; congr 1; omega, HPB.out _ hR7⟩
          · rw [if_neg hz] at hss
            have HSS := Lib.hid hss
            have hzb : (y.tmod by0 == 0) = false := by simpa using hz
            clear hss
            go_wp2_with fail
            refine wp_region_held_drew (S := PX P) (by kernel_rfl) hRd (fun hHeld => ?_)
            refine wpAnyH_take (i := 0) (oi := { dst := some 81, op := Op.load 45 (Operand.tmp 13), type := 45, pos := "own.go:68", after := #[], guard := none }) (v := ?_) rfl (by kernel_rfl) (by kernel_rfl) (by kernel_rfl) (fun _ _ _ h => h) (Or.inl ⟨by rfl, ?_⟩) (by assumption) ?_
            rotate_left
            · (intro W hSw; go_simp; first | done | with_reducible rfl)
            try simp only [Act.put, List.setIfInBounds_toArray, List.set_cons_zero, List.set_cons_succ]
            refine wpAnyH_take (i := 1) (oi := { dst := some 82, op := Op.move (Operand.tmp 10), type := 22, pos := "own.go:68", after := #[], guard := none }) (v := ?_) rfl (by kernel_rfl) (by kernel_rfl) (by kernel_rfl) (fun _ _ _ h => h) (Or.inl ⟨by rfl, ?_⟩) (by assumption) ?_
            rotate_left
            · (intro W hSw; go_simp; first | done | with_reducible rfl)
            try simp only [Act.put, List.setIfInBounds_toArray, List.set_cons_zero, List.set_cons_succ]
            refine wpAnyH_take (i := 2) (oi := { dst := some 83, op := Op.move (Operand.tmp 15), type := 3, pos := "own.go:68", after := #[], guard := none }) (v := ?_) rfl (by kernel_rfl) (by kernel_rfl) (by kernel_rfl) (fun _ _ _ h => h) (Or.inl ⟨by rfl, ?_⟩) (by assumption) ?_
            rotate_left
            · (intro W hSw; go_simp; first | done | with_reducible rfl)
            try simp only [Act.put, List.setIfInBounds_toArray, List.set_cons_zero, List.set_cons_succ]
            refine wpAnyH_take (i := 3) (oi := { dst := some 84, op := Op.indexAddr 22 (Operand.tmp 82) (Operand.tmp 83), type := 0, pos := "own.go:68", after := #[{ on := 1, ground := Ground.data }, { on := 2, ground := Ground.data }], guard := none }) (v := ?_) rfl (by kernel_rfl) (by kernel_rfl) (by kernel_rfl) (fun _ _ _ h => h) (Or.inl ⟨by rfl, ?_⟩) (by assumption) ?_
            rotate_left
            · (intro W hSw; go_simp; first | done | with_reducible rfl)
            try simp only [Act.put, List.setIfInBounds_toArray, List.set_cons_zero, List.set_cons_succ]
            refine wpAnyH_take (i := 4) (oi := { dst := some 85, op := Op.load 3 (Operand.tmp 84), type := 3, pos := "own.go:68", after := #[{ on := 3, ground := Ground.data }], guard := none }) (v := ?_) rfl (by kernel_rfl) (by kernel_rfl) (by kernel_rfl) (fun _ _ _ h => h) (Or.inl ⟨by rfl, ?_⟩) (by assumption) ?_
            rotate_left
            · (intro W hSw; go_simp; first | done | with_reducible rfl)
            try simp only [Act.put, List.setIfInBounds_toArray, List.set_cons_zero, List.set_cons_succ]
            refine wpAnyH_ready (rs := [5]) (by kernel_rfl) (by simp) ?_
            refine AllReadyH.cons (o := { dst := some 86, op := Op.call { callee := Callee.value (Operand.func 21), args := #[Operand.tmp 81, Operand.tmp 85], argTypes := #[45, 3] }, type := 4, pos := "own.go:68", after := #[{ on := 0, ground := Ground.data }, { on := 4, ground := Ground.data }], guard := none }) rfl (fun K hK => ?_) AllReadyH.nil
            go_simp
            refine (odd_is y by0 HB0.out HB4.out _).mono ?_; rintro e w7 ⟨rfl, hB⟩; have hR7 := HPS.out _ _ hB hHeld; clear hB
            refine hK.out _ _ (by assumption) (fun hHeld => ?_)
            clear hK K
            try simp only [Act.put, List.setIfInBounds_toArray, List.set_cons_zero, List.set_cons_succ]
            refine wpAnyH_done (by kernel_rfl) ?_ _
            go_wp2_with fail
            go_roundg (gk - 1)
            case measure => have := HJ.out; have := HLT.out; omega
            case rel => exact ⟨j + 1, by have := HJ.out; have := HLT.out; omega, by go_num, by rw [HSS.out, List.length_append, HSN.out, List.length_singleton]; congr 1; omega, HPB.out _ hR7⟩
        obtain rfl : j = q.length := by omega
        rw [List.take_length]
        clear hlt hj
        have hle := stay_le by0 q
        have htw := stay_twice by0 q
        obtain ⟨q2, hq2⟩ : ∃ q2, stay by0 q = q2 := ⟨_, rfl⟩
        rw [hq2] at hle htw ⊢
        have hle2 : (q2.length : Int) ≤ (q.length : Int) := by omega
        have e5 : IntKind.i64.wrap ((q.length : Int) - ((q.length : Int) - (q2.length : Int))) = (q2.length : Int) := (IntWalk.i64_in _ (by omega)).trans (by omega)
        have e6 : (q2.length : Int) - (q2.length : Int) = 0 := by omega
        have HQ2 := Lib.hid hq2
        have HTW := Lib.hid htw
        have cB : ∀ W, St w [(gb, 45, #[.int .i64 by0])] W → W.cell? ⟨gb, 0, none⟩ = some (.int .i64 by0) := St.cell 0 rfl 0 rfl
        have hSt := hR.sr.st
        clear hq2 htw hle
        go_wp2_with (first
          | (go_at_call 20; refine (drop_rg by0 HB0.out HB4.out hR).mono ?_; rintro e w8 ⟨rfl, hR8⟩; rw [HQ2.out] at hR8 ⊢; clear hR hSt; have hSt := hR8.sr.st)
          | (go_at_call 9; refine (KI.len_rg (n := q2.length) hR8 rfl).mono ?_; rintro e w9 ⟨rfl, rfl⟩)
          | (go_at_call 20; refine (drop_rg by0 HB0.out HB4.out hR8).mono ?_; rintro e w9 ⟨rfl, hR9⟩; rw [HTW.out] at hR9 ⊢; clear hR8 hSt; have hSt := hR9.sr.st))
        go_ret
        exact ⟨rfl, hR9.sr.below⟩
end Go.Proofs.Ytiiejlphomjehaa
