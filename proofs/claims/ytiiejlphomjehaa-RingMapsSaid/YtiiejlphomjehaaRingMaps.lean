/- The statement RingMaps, walked: for every room and row of numbers the Go law returns true, and nothing that was in memory is changed. -/
import Derived.Test.YtiiejlphomjehaaRingT
import Derived.Deep.LoopGhost
import Derived.Test.YtiiejlphomjehaaOpenInts
namespace Go.Proofs.Ytiiejlphomjehaa
open Go.RowKit
set_option linter.unusedVariables false
set_option linter.unusedSimpArgs false

set_option maxRecDepth 100000 in
set_option maxHeartbeats 8000000 in
theorem ringMaps_law (a0 : Int) (zs : List Int) (A : Option Addr) (cap : Nat) (w : World) (hn : zs.length ≤ 9223372036854775807)
    (hA : ∀ k, k < zs.length → ∃ b o, A = some ⟨b, o, none⟩ ∧ b < w.heap.size ∧ w.cell? ⟨b, o + k, none⟩ = some (.int .i64 (zs.getD k 0))) :
    Calls Try.prog 6 #[.int .i64 a0, .slice A zs.length cap] w fun e w' => e = .returned (.bool true) ∧ Below w.heap.size w w' := by
  have hS := SR.ofSt (St.nil w)
  have HA := Lib.hid hA
  have hm0 : (zs.length : Int) ≤ 9223372036854775807 := by omega
  clear hA
  by_cases h100 : zs.length ≤ 100
  rotate_left
  · have hz : (100 : Int) < (zs.length : Int) := by omega
    clear hn h100
    go_enter Try.func6, Try.ntmps6
    go_wp2_with (go_at_call 7; refine (awake05 _).mono ?_; rintro e w1 ⟨rfl, hB1⟩)
    go_ret
    exact ⟨rfl, hB1⟩
  obtain ⟨kk, hk200, hkk⟩ := mod200 a0
  obtain ⟨k, hk⟩ : ∃ k : Nat, 1 + (kk : Int) = (k : Int) := ⟨1 + kk, by omega⟩
  have hk1 : 1 ≤ k := by omega
  have hk2 : k ≤ 65536 := by omega
  have e1 : IntKind.i64.wrap (k : Int) = (k : Int) := IntWalk.i64_in _ (by omega)
  have e2 : IntKind.i64.wrap (kk : Int) = (kk : Int) := IntWalk.i64_in _ (by omega)
  have HZ := Lib.hid h100
  have hz : (zs.length : Int) ≤ 100 := by omega
  have HK1 := Lib.hid hk1
  have HK2 := Lib.hid hk2
  clear hk200 hn h100 hk1 hk2
  go_enter Try.func6, Try.ntmps6
  go_wp2_with (go_at_call 7; refine (awake05 _).mono ?_; rintro e w1 ⟨rfl, hB1⟩; have hS1 := hS.step hB1; clear hS hB1)
  go_wp2_with (go_at_call 8; refine (KI.new_rg (room := k) hS1 HK1.out HK2.out).mono ?_; rintro e w2 ⟨gr, rfl, hRi⟩; clear hS1)
  go_loopg [7] zs.length (fun m iv wr => ∃ j : Nat, m + j = zs.length ∧ iv = .int .i64 j ∧ RG KI w [] [] gr k (stood k zs j) wr)
  case atStart => exact ⟨0, by omega, rfl, by rw [stood_zero]; exact hRi⟩
  case round =>
    clear hRi
    obtain ⟨j, hj, rfl, hR⟩ := hrel
    have j0 : (0 : Int) ≤ (j : Int) := by omega
    by_cases hlt : j < zs.length
    · have hltz : (j : Int) < (zs.length : Int) := by omega
      obtain ⟨b, o0, rfl, hbw, hcell0⟩ := HA.out j hlt
      have hlen := stood_len k zs j (by omega)
      have hcell := (hR.sr.st.oldCell hbw).trans hcell0
      have HJ := Lib.hid hj
      have HLT := Lib.hid hlt
      by_cases hjk : j < k
      · have hsm := stood_more hlt hjk
        have HSM := Lib.hid hsm
        have HLN : RowKit.Hid ((stood k zs j).length < k) := by show (stood k zs j).length < k; omega
        clear hlt hj hcell0 hbw hlen hsm hjk
        go_wp2_with (go_at_call 10; refine (KI.push_rg _ hR HLN.out).mono ?_; rintro e w5 ⟨rfl, hR5⟩; clear hR)
        go_roundg (gk - 1)
        case measure => have := HJ.out; have := HLT.out; omega
        case rel => exact ⟨j + 1, by have := HJ.out; have := HLT.out; omega, by go_num, by rw [HSM.out]; exact hR5⟩
      · have hsm := stood_same (k := k) (j := j) (zs := zs) (by omega)
        have HSM := Lib.hid hsm
        have HLN : RowKit.Hid ((stood k zs j).length = k) := by show (stood k zs j).length = k; omega
        clear hlt hj hcell0 hbw hlen hsm hjk
        go_wp2_with (go_at_call 10; refine (KI.push_no _ hR HLN.out).mono ?_; rintro e w5 ⟨rfl, hR5⟩; clear hR)
        go_roundg (gk - 1)
        case measure => have := HJ.out; have := HLT.out; omega
        case rel => exact ⟨j + 1, by have := HJ.out; have := HLT.out; omega, by go_num, by rw [HSM.out]; exact hR5⟩
    obtain rfl : j = zs.length := by omega
    rw [stood_all] at hR
    clear hlt hj
    obtain ⟨q, hq⟩ : ∃ q, zs.take k = q := ⟨_, rfl⟩
    have hql : q.length = min k zs.length := by rw [← hq, List.length_take]
    have hql1 : q.length ≤ 100 := by have := HZ.out; omega
    have hqg : ∀ i, i < q.length → q[i]? = some (zs.getD i 0) := by rw [← hq]; exact fun i hi => stood_get hi
    rw [hq] at hR
    have HQL := Lib.hid hql
    have HQ1 := Lib.hid hql1
    have HQG := Lib.hid hqg
    clear hq hql hql1 hqg
    obtain ⟨qm, hqm⟩ : ∃ qm, q.map made5 = qm := ⟨_, rfl⟩
    have hqml : qm.length = q.length := by rw [← hqm]; simp
    have hqmg : ∀ i, i < q.length → qm[i]? = some (made5 (zs.getD i 0)) := fun i hi => by rw [← hqm, List.getElem?_map, HQG.out i hi]; rfl
    have hmin : (if zs.length < k then (zs.length : Int) else (k : Int)) = (q.length : Int) := by have := HQL.out; split <;> omega
    have HQM := Lib.hid hqm
    have HQML := Lib.hid hqml
    have HQMG := Lib.hid hqmg
    have hq6 : (q.length : Int) ≤ 100 := by have := HQ1.out; omega
    have hqz : q.length ≤ zs.length := by have := HQL.out; omega
    have HQZ := Lib.hid hqz
    clear hqm hqml hqmg hqz
    go_wp2_with (first
      | (go_at_call 16; refine (KI.list_rg hR).mono ?_; rintro e w4 ⟨vl, rfl, hR4⟩; clear hR; obtain ⟨pl, cl, rfl⟩ := row_form KI hR4.sr 0 rfl; obtain ⟨v0, fr0, len0, hr0, hap0⟩ := hR4.ring; clear hap0)
      | (go_at_call 23; refine (map_made hr0).mono ?_; rintro e w1 ⟨gp, rfl, hP⟩; rw [HQM.out] at hP; have hR5 := hR4.step hP.sr.below; obtain ⟨v1, fr1, len1, hr1, hap1⟩ := hP.ring; clear hR4 hap1)
      | (go_at_call 26; refine (KP.list_any hr1).mono ?_; rintro e w3 ⟨va, rfl, hown, hB⟩; have hR6 := hR5.call_row hB ⟨va, 49, 2, qm.length, KP.flat qm⟩ hown; have hP6 := hP.step hB; clear hR5 hr1 hown hB hP; obtain ⟨pp, cp, rfl⟩ := row_form KP hR6.sr 0 rfl; rw [HQML.out] at hR6 ⊢)
      | (go_at_call 27; refine (KP.room_rg hP6).mono ?_; rintro e w7 ⟨rfl, rfl⟩; clear hP6))
    go_loopg [11] q.length (fun m iv wr => ∃ j : Nat, m + j = q.length ∧ iv = .int .i64 j ∧ RG KI w [] [⟨.slice pp q.length cp, 49, 2, q.length, KP.flat qm⟩, ⟨.slice pl q.length cl, 3, 1, q.length, KI.flat q⟩] gr k q wr)
    case atStart => exact ⟨0, by omega, rfl, hR6⟩
    case round =>
      clear hR6
      obtain ⟨j, hj, rfl, hR⟩ := hrel
      have j0 : (0 : Int) ≤ (j : Int) := by omega
      by_cases hlt : j < q.length
      · have hltz : (j : Int) < (q.length : Int) := by omega
        have hltzs : (j : Int) < (zs.length : Int) := by have := HQZ.out; omega
        obtain ⟨y, hy⟩ : ∃ y, zs.getD j 0 = y := ⟨_, rfl⟩
        have hya := HQMG.out j hlt
        rw [hy] at hya
        obtain ⟨b, o0, rfl, hbw, hcell0⟩ := HA.out j (by have := HQZ.out; omega)
        rw [hy] at hcell0
        obtain ⟨g2, hg2⟩ : ∃ g2, pp = some ⟨g2, 0, none⟩ := by
          rcases hR.sr.form 0 rfl with ⟨h1, h2⟩ | ⟨g2, c2, h1, _⟩
          · have : q.length = 0 := h2
            omega
          · injection h1 with h1
            exact ⟨g2, h1⟩
        subst hg2
        have hfa : ∀ jj u, (KP.ec (made5 y))[jj]? = some u → (KP.flat qm)[j * 2 + jj]? = some u := fun jj u hu => (flat_at KP.ec KP.hec qm j _ hya jj (by have := lt_of_get hu; rw [KP.hec] at this; exact this)).trans hu
        obtain ⟨P, hPd⟩ : ∃ P : World → Prop, P = fun W => RG KI w [] [⟨.slice (some ⟨g2, 0, none⟩) q.length cp, 49, 2, q.length, KP.flat qm⟩, ⟨.slice pl q.length cl, 3, 1, q.length, KI.flat q⟩] gr k q W := ⟨_, rfl⟩
        have cL : ∀ W, PX P W → W.cell? ⟨b, o0 + j, none⟩ = some (.int .i64 y) := by rw [hPd]; exact fun W hW => (hW.sr.st.oldCell hbw).trans hcell0
        have cA : ∀ W, PX P W → W.cell? ⟨g2, j * 2, none⟩ = some (.int .i64 (made5 y).1) := by rw [hPd]; exact fun W hW => hW.sr.item 0 rfl rfl (j * 2) (hfa 0 _ rfl)
        have cB : ∀ W, PX P W → W.cell? ⟨g2, j * 2 + 1, none⟩ = some (.bool (made5 y).2) := by rw [hPd]; exact fun W hW => hW.sr.item 0 rfl rfl (j * 2 + 1) (hfa 1 _ rfl)
        have HPS : RowKit.Hid (∀ W W', Below W.heap.size W W' → PX P W → PX P W') := by show ∀ W W', Below W.heap.size W W' → P W → P W'; rw [hPd]; exact fun _ _ hB h => h.step hB
        have HPB : RowKit.Hid (∀ W, PX P W → RG KI w [] [⟨.slice (some ⟨g2, 0, none⟩) q.length cp, 49, 2, q.length, KP.flat qm⟩, ⟨.slice pl q.length cl, 3, 1, q.length, KI.flat q⟩] gr k q W) := by show ∀ W, P W → _; rw [hPd]; exact fun _ h => h
        have hRd : PX P wr.drew := by rw [hPd]; exact hR.drewN 1
        clear hPd hR hfa
        have HJ := Lib.hid hj
        have HLT := Lib.hid hlt
        clear hj hlt hy hya hcell0 hbw
        go_wp2_with fail
        refine wp_region_held_drew (S := PX P) (by kernel_rfl) hRd (fun hHeld => ?_)
        refine wpAnyH_take (i := 0) (oi := { dst := some 72, op := Op.move (Operand.tmp 10), type := 55, pos := "law.go:132", after := #[], guard := none }) (v := ?_) rfl (by kernel_rfl) (by kernel_rfl) (by kernel_rfl) (fun _ _ _ h => h) (Or.inl ⟨by rfl, ?_⟩) (by assumption) ?_
        rotate_left
        · (intro W hSw; go_simp; first | done | with_reducible rfl)
        try simp only [Act.put, List.setIfInBounds_toArray, List.set_cons_zero, List.set_cons_succ]
        refine wpAnyH_take (i := 1) (oi := { dst := some 73, op := Op.move (Operand.tmp 11), type := 3, pos := "law.go:132", after := #[], guard := none }) (v := ?_) rfl (by kernel_rfl) (by kernel_rfl) (by kernel_rfl) (fun _ _ _ h => h) (Or.inl ⟨by rfl, ?_⟩) (by assumption) ?_
        rotate_left
        · (intro W hSw; go_simp; first | done | with_reducible rfl)
        try simp only [Act.put, List.setIfInBounds_toArray, List.set_cons_zero, List.set_cons_succ]
        refine wpAnyH_take (i := 2) (oi := { dst := some 74, op := Op.indexAddr 55 (Operand.tmp 72) (Operand.tmp 73), type := 0, pos := "law.go:132", after := #[{ on := 0, ground := Ground.data }, { on := 1, ground := Ground.data }], guard := none }) (v := ?_) rfl (by kernel_rfl) (by kernel_rfl) (by kernel_rfl) (fun _ _ _ h => h) (Or.inl ⟨by rfl, ?_⟩) (by assumption) ?_
        rotate_left
        · (intro W hSw; go_simp; first | done | with_reducible rfl)
        try simp only [Act.put, List.setIfInBounds_toArray, List.set_cons_zero, List.set_cons_succ]
        refine wpAnyH_take (i := 3) (oi := { dst := some 75, op := Op.load 49 (Operand.tmp 74), type := 49, pos := "law.go:132", after := #[{ on := 2, ground := Ground.data }], guard := none }) (v := ?_) rfl (by kernel_rfl) (by kernel_rfl) (by kernel_rfl) (fun _ _ _ h => h) (Or.inl ⟨by rfl, ?_⟩) (by assumption) ?_
        rotate_left
        · (intro W hSw; go_simp; first | done | with_reducible rfl)
        try simp only [Act.put, List.setIfInBounds_toArray, List.set_cons_zero, List.set_cons_succ]
        refine wpAnyH_take (i := 4) (oi := { dst := some 76, op := Op.move (Operand.tmp 1), type := 22, pos := "law.go:132", after := #[], guard := none }) (v := ?_) rfl (by kernel_rfl) (by kernel_rfl) (by kernel_rfl) (fun _ _ _ h => h) (Or.inl ⟨by rfl, ?_⟩) (by assumption) ?_
        rotate_left
        · (intro W hSw; go_simp; first | done | with_reducible rfl)
        try simp only [Act.put, List.setIfInBounds_toArray, List.set_cons_zero, List.set_cons_succ]
        refine wpAnyH_take (i := 5) (oi := { dst := some 77, op := Op.move (Operand.tmp 11), type := 3, pos := "law.go:132", after := #[], guard := none }) (v := ?_) rfl (by kernel_rfl) (by kernel_rfl) (by kernel_rfl) (fun _ _ _ h => h) (Or.inl ⟨by rfl, ?_⟩) (by assumption) ?_
        rotate_left
        · (intro W hSw; go_simp; first | done | with_reducible rfl)
        try simp only [Act.put, List.setIfInBounds_toArray, List.set_cons_zero, List.set_cons_succ]
        refine wpAnyH_take (i := 6) (oi := { dst := some 78, op := Op.indexAddr 22 (Operand.tmp 76) (Operand.tmp 77), type := 0, pos := "law.go:132", after := #[{ on := 4, ground := Ground.data }, { on := 5, ground := Ground.data }], guard := none }) (v := ?_) rfl (by kernel_rfl) (by kernel_rfl) (by kernel_rfl) (fun _ _ _ h => h) (Or.inl ⟨by rfl, ?_⟩) (by assumption) ?_
        rotate_left
        · (intro W hSw; go_simp; first | done | with_reducible rfl)
        try simp only [Act.put, List.setIfInBounds_toArray, List.set_cons_zero, List.set_cons_succ]
        refine wpAnyH_take (i := 7) (oi := { dst := some 79, op := Op.load 3 (Operand.tmp 78), type := 3, pos := "law.go:132", after := #[{ on := 6, ground := Ground.data }], guard := none }) (v := ?_) rfl (by kernel_rfl) (by kernel_rfl) (by kernel_rfl) (fun _ _ _ h => h) (Or.inl ⟨by rfl, ?_⟩) (by assumption) ?_
        rotate_left
        · (intro W hSw; go_simp; first | done | with_reducible rfl)
        try simp only [Act.put, List.setIfInBounds_toArray, List.set_cons_zero, List.set_cons_succ]
        refine wpAnyH_ready (rs := [8]) (by kernel_rfl) (by simp) ?_
        refine AllReadyH.cons (o := { dst := some 80, op := Op.call { callee := Callee.value (Operand.func 24), args := #[Operand.tmp 79], argTypes := #[3] }, type := 49, pos := "law.go:132", after := #[{ on := 7, ground := Ground.data }], guard := none }) rfl (fun K hK => ?_) AllReadyH.nil
        go_simp
        refine (made_is y _).mono ?_; rintro e w5 ⟨rfl, hB⟩; have hR5 := HPS.out _ _ hB hHeld; clear hB
        refine hK.out _ _ (by assumption) (fun hHeld => ?_)
        clear hK K
        try simp only [Act.put, List.setIfInBounds_toArray, List.set_cons_zero, List.set_cons_succ]
        refine wpAnyH_take (i := 9) (oi := { dst := some 81, op := Op.binOp BinOp.neq 49 (Operand.tmp 75) (Operand.tmp 80) 49, type := 4, pos := "law.go:132", after := #[{ on := 3, ground := Ground.data }, { on := 8, ground := Ground.data }], guard := none }) (v := ?_) rfl (by kernel_rfl) (by kernel_rfl) (by kernel_rfl) (fun _ _ _ h => h) (Or.inl ⟨by rfl, ?_⟩) (by assumption) ?_
        rotate_left
        · (intro W hSw; go_simp; first | done | with_reducible rfl)
        try simp only [Act.put, List.setIfInBounds_toArray, List.set_cons_zero, List.set_cons_succ]
        refine wpAnyH_done (by kernel_rfl) ?_ _
        go_wp2_with fail
        go_roundg (gk - 1)
        case measure => have := HJ.out; have := HLT.out; omega
        case rel => exact ⟨j + 1, by have := HJ.out; have := HLT.out; omega, by go_num, HPB.out _ hR5⟩
      have hnz : ¬ (j : Int) < (q.length : Int) := by omega
      clear hlt hj
      have hR7 := hR.newRow KI.T 1 1 #[.int .i64 7] (by decide) rfl
      have HU7 := Lib.hid (Rs.own (l := [7]) (hR7.sr.own _ List.mem_cons_self))
      obtain ⟨v7, fr7, len7, hr7, hap7⟩ := hR7.ring
      have HR7 := Lib.hid hr7
      have HR := Lib.hid hR7
      have HQ2 : RowKit.Hid (q.length ≤ 200) := by show q.length ≤ 200; have := HQ1.out; omega
      have HQ3 : RowKit.Hid ((7 :: q).length ≤ 65536) := by show q.length + 1 ≤ 65536; have := HQ1.out; omega
      clear hap7 hr7 hR7 hR hmin
      go_wp2_with (first
        | (go_at_call 28; refine (fold_no _ _ _ (by first | exact Or.inl ⟨rfl, rfl⟩ | exact Or.inr rfl)).mono ?_; rintro e w11 ⟨rfl, rfl⟩)
        | (go_at_call 28; refine (fold_add HR7.out HQ2.out HU7.out (by show 1 ≤ 200; omega)).mono ?_; rintro e w8 ⟨v8, rfl, hU8, hB8⟩; have hR8 := HR.out.step hB8; have HL8 := Lib.hid (Rs.src (Rs.step (Rs.own (hR8.sr.own ⟨.slice pl q.length cl, 3, 1, q.length, KI.flat q⟩ (by simp))) ((Below.refl _ _).alloc (Nat.le_refl _) (.cells #[.int .i64 7] 3)))); clear hB8)
        | (at_builtin; refine app_src ((SR.ofSt (St.nil _)).newRow KI.T 1 1 #[.int .i64 7] (by decide) rfl) rfl _ _ rfl rfl q pl cl rfl HL8.out.1 HL8.out.2 (by omega) (by have := HQ2.out; omega) ?_; intro v9 w9 hS9; have hU9 := hU8.step hS9.below; have hV9 := own7 (hS9.own _ List.mem_cons_self); have hS10 := hR8.sr.step hS9.below; clear hU8 hR8 hS9)
        | (go_at_call 12; refine (ints_true (l := 7 :: q) (Rs.rd hU9) hV9 HQ3.out).mono ?_; rintro e w10 ⟨rfl, n10, rfl⟩; have hS11 := hS10.drewN n10; clear hU9 hV9 hS10)
        | (go_at_call 23; refine (map_no _ _ (by first | exact Or.inl rfl | exact Or.inr ⟨⟨_, rfl⟩, rfl⟩)).mono ?_; rintro e w11 ⟨rfl, rfl⟩)
        | (go_at_call 12; refine (ints_true (l := [3]) (rd3a _ _ (sz1 _ _ _)) (rd3b _ (sz2 _ _ _ _)) (by show 1 ≤ 65536; omega)).mono ?_; rintro e w12 ⟨rfl, n12, rfl⟩)
        | (go_at_call 20; refine (drop_no _ _ (by first | exact Or.inl rfl | exact Or.inr ⟨⟨_, rfl⟩, rfl⟩)).mono ?_; rintro e w11 ⟨rfl, rfl⟩))
      go_ret
      exact ⟨rfl, ((((hS11.old _).old _).old _).drewN n12).below⟩
end Go.Proofs.Ytiiejlphomjehaa
