/- The statement FeedParts, walked, where 100 < zs.length. No condition. -/
import Derived.Test.YtjfpmolnipiphaaFeedParts0
import Derived.Deep.LoopGhost
import Derived.Deep.QuietTactic
namespace Go.Proofs.Ytjfpmolnipiphaa
open Go.RowKit
set_option linter.unusedVariables false
set_option linter.unusedSimpArgs false

set_option maxRecDepth 100000 in
set_option maxHeartbeats 16000000 in
theorem parts_onB (c : Nat → Int) (s kd n : Int) (zs : List Int) (A : Option Addr) (cap : Nat) (w : World) (hn : zs.length ≤ 9223372036854775807) (hA : ∀ k, k < zs.length → ∃ b o, A = some ⟨b, o, none⟩ ∧ b < w.heap.size ∧ w.cell? ⟨b, o + k, none⟩ = some (.int .i64 (zs.getD k 0))) (hg : good c = true) (hi : isV kd n = true) (hlen : 100 < zs.length) :
    Calls Try.prog 3 #[.agg (cfgCells c s), .agg #[.int .i64 kd, .int .i64 n], .slice A zs.length cap] w fun e w' => e = .returned (.bool true) ∧ Below w.heap.size w w' := by
  have HLEN0 := Lib.hid hlen
  clear hlen
  have hS : SR w [(w.heap.size + 1, 26, (#[.int .i64 kd, .int .i64 n] : Array Value)), (w.heap.size, 24, cfgCells c s)] [] _ := ((SR.ofSt (St.nil w)).alloc 24 (cfgCells c s)).alloc' (w.heap.size + 1) (by simp) 26 #[.int .i64 kd, .int .i64 n]
  have Q0 := St.loadC (L := [(w.heap.size + 1, 26, (#[.int .i64 kd, .int .i64 n] : Array Value)), (w.heap.size, 24, cfgCells c s)]) (w0 := w) 1 rfl
  have QF0 := St.cell (L := [(w.heap.size + 1, 26, (#[.int .i64 kd, .int .i64 n] : Array Value)), (w.heap.size, 24, cfgCells c s)]) (w0 := w) 0 rfl 0 (v := .int .i64 kd) rfl
  have QF1 := St.cell (L := [(w.heap.size + 1, 26, (#[.int .i64 kd, .int .i64 n] : Array Value)), (w.heap.size, 24, cfgCells c s)]) (w0 := w) 0 rfl 1 (v := .int .i64 n) rfl
  have QC := St.cell (L := [(w.heap.size + 1, 26, (#[.int .i64 kd, .int .i64 n] : Array Value)), (w.heap.size, 24, cfgCells c s)]) (w0 := w) 1 rfl 12 (v := .int .i64 (c 12)) rfl
  have HG := Lib.hid hg
  clear hg
  have HI := Lib.hid hi
  have HA := Lib.hid hA
  have hm0 : (zs.length : Int) ≤ 9223372036854775807 := by omega
  clear hi hA hn
  go_enter Try.func3, Try.ntmps3
  go_wp2_with (first
    | (go_at_call 5; refine (awake22 _).mono ?_; rintro e w1 ⟨rfl, hB⟩; have hS1 := hS.step hB; clear hS hB; have hSt := hS1.st)
    | (go_at_call 6; refine (fnew_ok hS1 HG.out).mono ?_; rintro e w2 ⟨gf, gr, room, rfl, hR2, hrm, hr1, hr2⟩; have HR1 := Lib.hid hr1; have HR2 := Lib.hid hr2; have HRM := Lib.hid hrm; clear hr1 hr2 hrm hSt hS1; have hSt := hR2.sr.st.sub (List.sublist_cons_self _ _))
    | (go_at_call 7; refine (start_any (x := 0) hR2 HI.out (by omega)).mono ?_; rintro e w3 ⟨rfl, hR3⟩; clear hR2 hSt))
  have HQC : RowKit.Hid (∀ W, St w [(w.heap.size + 1, 26, (#[.int .i64 kd, .int .i64 n] : Array Value)), (w.heap.size, 24, cfgCells c s)] W → W.cell? ⟨w.heap.size, 12, none⟩ = some (.int .i64 (room : Int))) := by show ∀ W, St w [(w.heap.size + 1, 26, (#[.int .i64 kd, .int .i64 n] : Array Value)), (w.heap.size, 24, cfgCells c s)] W → W.cell? ⟨w.heap.size, 12, none⟩ = some (.int .i64 (room : Int)); rw [HRM.out]; exact QC
  clear QC
  have hRi := (hR3.newRow KC.T 11 0 #[] (by decide) rfl).newRow KN.T 12 0 #[] (by decide) rfl
  rw [show (w3.alloc (Obj.cells #[] KC.T)).heap.size = w3.heap.size + 1 by (show (w3.heap.push _).size = _; exact Array.size_push _)] at hRi
  clear hR3
  go_loopg [8, 9, 10, 11] zs.length (fun mm va vt fv iv wr => ∃ (k m : Nat) (t qa : List (Int × Bool)) (l : Int) (fb : Bool), mm + k = zs.length ∧ iv = .int .i64 (k : Int) ∧ fv = .bool fb ∧ m ≤ k ∧ t.length ≤ k ∧ k ≤ 100 ∧ Inv kd n room m t qa l fb ∧ FG w [(w.heap.size + 1, 26, (#[.int .i64 kd, .int .i64 n] : Array Value)), (w.heap.size, 24, cfgCells c s)] [⟨vt, 42, 12, (t.map toE).length, KN.flat (t.map toE)⟩, ⟨va, 38, 11, (aQ 0 m).length, KC.flat (aQ 0 m)⟩] gf gr room true kd n ((m : Int)) (l) (qa.map toE) wr)
  case atStart => exact ⟨0, 0, [], [], 0, false, by omega, rfl, rfl, Nat.le_refl _, Nat.le_refl _, by omega, Inv.start kd n HR1.out, hRi⟩
  case round =>
    clear hRi
    obtain ⟨k, m, t, qa, l, fb, hk, rfl, rfl, hmk, htk, hk100, hinv, hR⟩ := hrel
    have k0 : (0 : Int) ≤ (k : Int) := by omega
    have hml : ((aQ 0 m).length : Int) = (m : Int) := by rw [aQ0_len]
    have hqr : qa.length ≤ room := by
      obtain ⟨v, fr, len, hr, _⟩ := hR.ring
      have := Nat.le_trans hr.nlen hr.lenroom
      rw [List.length_map] at this
      exact this
    obtain ⟨pa, ca, rfl⟩ := row_form KC hR.sr 1 rfl
    have HINV := Lib.hid hinv
    have HQR := Lib.hid hqr
    by_cases hgo : k < zs.length ∧ k < 100
    · have hltz : (k : Int) < (zs.length : Int) := by omega
      have hl1 : (k : Int) < 100 := by omega
      obtain ⟨b, o0, rfl, hbw, hc0⟩ := HA.out k hgo.1
      obtain ⟨z, hz⟩ : ∃ z, zs.getD k 0 = z := ⟨_, rfl⟩
      rw [hz] at hc0
      have hcell := (hR.sr.st.oldCell hbw).trans hc0
      obtain ⟨d, hd8, hd⟩ := modN z 8 (by omega)
      have hd : (IntKind.u64.wrap z).tmod 8 = (d : Int) := hd
      have e1 : IntKind.i64.wrap (d : Int) = (d : Int) := IntWalk.i64_in _ (by omega)
      have e2 : IntKind.i64.wrap ((m : Int) + 1) = (m : Int) + 1 := IntWalk.i64_in _ (by omega)
      have HK := Lib.hid hk
      have HMK := Lib.hid hmk
      have HTK := Lib.hid htk
      have HGO := Lib.hid hgo
      clear hk hmk htk hk100 hinv hqr hgo hbw hc0 hz
      go_upto_region 12 with (fail)
      go_cut [12] (fun dv wx => dv = .int .i64 (d : Int) ∧ wx = wr)
      case first =>
        go_wp2_with fail
        go_meet
        exact ⟨rfl, rfl⟩
      case rest =>
      obtain ⟨rfl, rfl⟩ := hcut
      go_step
      go_step
      go_cut [8, 9] (fun va vt wx => ∃ (m2 : Nat) (t2 q2 : List (Int × Bool)) (l2 : Int), m2 ≤ k + 1 ∧ t2.length ≤ k + 1 ∧ (∀ b, (q2.length = room → b = true) → (fb = true → b = true) → Inv kd n room m2 t2 q2 l2 b) ∧ FG w [(w.heap.size + 1, 26, (#[.int .i64 kd, .int .i64 n] : Array Value)), (w.heap.size, 24, cfgCells c s)] [⟨vt, 42, 12, (t2.map toE).length, KN.flat (t2.map toE)⟩, ⟨va, 38, 11, (aQ 0 m2).length, KC.flat (aQ 0 m2)⟩] gf gr room true kd n ((m2 : Int)) (l2) (q2.map toE) wx)
      case first =>
        by_cases hd5 : (d : Int) < 5
        · have hx : ∃ x, chf ((m : Int) + 1) = x := ⟨_, rfl⟩
          obtain ⟨x, hx⟩ := hx
          have hxx : chf ((m + 1 : Nat) : Int) = x := by rw [← hx]; rfl
          have hx0 : x 0 = (m : Int) + 1 := by rw [← hx, chf_zero]
          have HX := Lib.hid hx
          have HX0 := Lib.hid hx0
          have HL0 := Lib.hid HINV.out.l0
          obtain ⟨q', l', hfo, hnew⟩ := HINV.out.hear HQR.out
          rw [hxx] at hfo
          have HFO : RowKit.Hid ([x].foldl (hearF kd n room) ⟨(m : Int), l, qa.map toE⟩ = ⟨((m + 1 : Nat) : Int), l', q'.map toE⟩) := hfo
          have haa := aQ0_succ m
          rw [hxx] at haa
          have HAA := Lib.hid haa
          have HNEW := Lib.hid hnew
          clear hx hxx hx0 hfo hnew haa
          go_wp2_with (first
            | (go_at_call 8; refine (change_any _ _).mono ?_; rintro e w2 ⟨rfl, hB⟩; rw [HX.out]; have hR2 := hR.step hB; clear hR hB hcell)
            | (refine store_newF hR2 rfl rfl 38 _ _ rfl 38 _ (CC x) rfl rfl (by kernel_rfl) rfl (by simp [Value.oneCell']) ?_; intro w3 hR3 hlt3; generalize w2.heap.size = gx at hR3 hlt3 ⊢; clear hlt3 hR2; have LX := St.big (w0 := w) (L := [(gx, 38, CC x)]) 0 38 _ rfl Try.underlying38 rfl (by kernel_rfl); have hSx := hR3.sr.st.sub (List.Sublist.cons_cons _ (List.nil_sublist _)); have hR4 := hR3.permL (List.Perm.swap _ _ _); clear hR3)
            | (go_at_call 9; refine (Hear_any [x] (s := ⟨(m : Int), l, qa.map toE⟩) ((hR4.alloc 38 _).permL (List.Perm.swap _ _ _)) HL0.out (by intro y hy; simp at hy; rw [hy, HX0.out]; omega) (by simp) (by rw [List.length_map]; have := HQR.out; have := HR2.out; omega) (one_cells x)).mono ?_; rintro e w6 ⟨rfl, hR6⟩; rw [HFO.out] at hR6 ⊢; clear hR4 hSx; have hSx := hR6.sr.st.sub (((List.Sublist.cons_cons _ (List.nil_sublist _)).cons _).cons _))
            | (at_builtin; refine app_rowF (RG.old (hR6.permR (List.Perm.swap _ _ _)) _) rfl _ _ 32 rfl (.agg (CC (fun _ => 0))) 88 Try.underlying32 KC.info rfl (by show 0 < 11; omega) rfl _ (CC x) 38 rfl (Blk.new _ _ _) rfl (by simp [Value.oneCell']) (by have := HMK.out; have := HGO.out; show (aQ 0 m).length ≤ 1000000; rw [aQ0_len]; omega) (by omega) ?_; intro va7 w7 hR7; clear hSx hR6; replace hR7 := app_all HAA.out hR7))
          have hR8 := (hR7.permR (List.Perm.swap _ _ _)).sub (List.Sublist.cons_cons _ ((List.sublist_cons_self _ _).trans (List.sublist_cons_self _ _)))
          go_meet
          exact ⟨m + 1, t, q', l', by have := HMK.out; omega, by have := HTK.out; omega, HNEW.out, hR8⟩
        have HTB : RowKit.Hid (t.length ≤ 100) := by show t.length ≤ 100; have := HTK.out; have := HGO.out; omega
        cases qa with
        | nil =>
          have hl00 : l = 0 := by
            have h1 := HINV.out.l0
            have h2 := HINV.out.lq
            have h3 := HR1.out
            by_cases h : 0 < l
            · have := h2 h
              simp at this
              omega
            · omega
          subst hl00
          go_wp2_with (first
            | (go_at_call 10; refine (tell_none hR).mono ?_; rintro e w2 ⟨rfl, hR2⟩; clear hR)
            | (refine store_newF hR2 rfl rfl 42 _ _ rfl 42 _ (#[.int .i64 0, .int .i64 0, .int .i64 0, .int .i64 0, .int .i64 0, .int .i64 0, .int .i64 0, .int .i64 0, .int .i64 0, .int .i64 0, .int .i64 0, .int .i64 0] : Array Value) rfl rfl (by kernel_rfl) rfl (by simp [Value.oneCell']) ?_; intro w3 hR3 hlt3; generalize w2.heap.size = gn at hR3 hlt3 ⊢; clear hlt3 hR2; have LN := St.big (w0 := w) 0 42 _ rfl Try.underlying42 rfl (by kernel_rfl) w3 hR3.sr.st))
          have hR8 := hR3.sub (List.sublist_cons_self _ _)
          go_meet
          exact ⟨m, t, [], 0, by have := HMK.out; omega, by have := HTK.out; omega, fun b hb hf => HINV.out.weaken hb hf, hR8⟩
        | cons e q' =>
          have hq1 : q'.length + 1 ≤ room := HQR.out
          by_cases hl : 0 < l
          · have hg := HINV.out.tell_gap hl
            obtain rfl : fb = true := hg.1
            have HG2 := Lib.hid hg.2
            have HGE := Lib.hid (gap_toE q' l)
            have HLT : RowKit.Hid ((q'.map toE).length < room) := by show (q'.map toE).length < room; rw [List.length_map]; omega
            have HLP := Lib.hid hl
            clear hg hl hq1
            go_wp2_with (first
              | (go_at_call 10; refine (tell_gap (y := toE e) (q := q'.map toE) hR HLP.out HLT.out).mono ?_; rintro e w2 ⟨rfl, hR2⟩; rw [HGE.out] at hR2; clear hR)
              | (refine store_newF hR2 rfl rfl 42 _ _ rfl 42 _ (#[.int .i64 (toE e).1, .int .i64 ((toE e).2 0), .int .i64 ((toE e).2 1), .int .i64 ((toE e).2 2), .int .i64 ((toE e).2 3), .int .i64 ((toE e).2 4), .int .i64 ((toE e).2 5), .int .i64 ((toE e).2 6), .int .i64 ((toE e).2 7), .int .i64 ((toE e).2 8), .int .i64 ((toE e).2 9), .int .i64 ((toE e).2 10)] : Array Value) rfl rfl (by kernel_rfl) rfl (by simp [Value.oneCell']) ?_; intro w3 hR3 hlt3; generalize w2.heap.size = gn at hR3 hlt3 ⊢; clear hlt3 hR2; have LN := St.big (w0 := w) 0 42 _ rfl Try.underlying42 rfl (by kernel_rfl) w3 hR3.sr.st)
              | ((with_reducible show wpList _ _ _ (⟨_, .buildSlice _ _ _, _, _, _, _⟩ :: _) _ _); refine buildN (toE e).1 (toE e).2 rfl _ rfl rfl ?_)
              | (at_builtin; refine app_rowF (RG.old hR3 _) rfl _ _ 33 rfl (.agg #[.int .i64 0, .int .i64 0, .int .i64 0, .int .i64 0, .int .i64 0, .int .i64 0, .int .i64 0, .int .i64 0, .int .i64 0, .int .i64 0, .int .i64 0, .int .i64 0]) 96 Try.underlying33 KN.info rfl (by show 0 < 12; omega) rfl _ (#[.int .i64 (toE e).1, .int .i64 ((toE e).2 0), .int .i64 ((toE e).2 1), .int .i64 ((toE e).2 2), .int .i64 ((toE e).2 3), .int .i64 ((toE e).2 4), .int .i64 ((toE e).2 5), .int .i64 ((toE e).2 6), .int .i64 ((toE e).2 7), .int .i64 ((toE e).2 8), .int .i64 ((toE e).2 9), .int .i64 ((toE e).2 10)] : Array Value) 42 rfl (Blk.new _ _ _) rfl (by simp [Value.oneCell']) (by show (t.map toE).length ≤ 1000000; rw [List.length_map]; have := HTB.out; omega) (by omega) ?_; intro vt7 w7 hR7; clear hR3 LN; replace hR7 := app_told hR7))
            have hR8 := hR7.sub (List.sublist_cons_self _ _)
            go_meet
            exact ⟨m, t ++ [e], q' ++ [(l, true)], 0, by have := HMK.out; omega, by have := HTK.out; rw [List.length_append, List.length_singleton]; omega, fun b hb hf => by rw [hf (by trivial)]; exact HG2.out, hR8⟩
          · obtain rfl : l = 0 := by have := HINV.out.l0; omega
            clear hl hq1
            go_wp2_with (first
              | (go_at_call 10; refine (tell_one (y := toE e) (q := q'.map toE) hR).mono ?_; rintro e w2 ⟨rfl, hR2⟩; clear hR)
              | (refine store_newF hR2 rfl rfl 42 _ _ rfl 42 _ (#[.int .i64 (toE e).1, .int .i64 ((toE e).2 0), .int .i64 ((toE e).2 1), .int .i64 ((toE e).2 2), .int .i64 ((toE e).2 3), .int .i64 ((toE e).2 4), .int .i64 ((toE e).2 5), .int .i64 ((toE e).2 6), .int .i64 ((toE e).2 7), .int .i64 ((toE e).2 8), .int .i64 ((toE e).2 9), .int .i64 ((toE e).2 10)] : Array Value) rfl rfl (by kernel_rfl) rfl (by simp [Value.oneCell']) ?_; intro w3 hR3 hlt3; generalize w2.heap.size = gn at hR3 hlt3 ⊢; clear hlt3 hR2; have LN := St.big (w0 := w) 0 42 _ rfl Try.underlying42 rfl (by kernel_rfl) w3 hR3.sr.st)
              | ((with_reducible show wpList _ _ _ (⟨_, .buildSlice _ _ _, _, _, _, _⟩ :: _) _ _); refine buildN (toE e).1 (toE e).2 rfl _ rfl rfl ?_)
              | (at_builtin; refine app_rowF (RG.old hR3 _) rfl _ _ 33 rfl (.agg #[.int .i64 0, .int .i64 0, .int .i64 0, .int .i64 0, .int .i64 0, .int .i64 0, .int .i64 0, .int .i64 0, .int .i64 0, .int .i64 0, .int .i64 0, .int .i64 0]) 96 Try.underlying33 KN.info rfl (by show 0 < 12; omega) rfl _ (#[.int .i64 (toE e).1, .int .i64 ((toE e).2 0), .int .i64 ((toE e).2 1), .int .i64 ((toE e).2 2), .int .i64 ((toE e).2 3), .int .i64 ((toE e).2 4), .int .i64 ((toE e).2 5), .int .i64 ((toE e).2 6), .int .i64 ((toE e).2 7), .int .i64 ((toE e).2 8), .int .i64 ((toE e).2 9), .int .i64 ((toE e).2 10)] : Array Value) 42 rfl (Blk.new _ _ _) rfl (by simp [Value.oneCell']) (by show (t.map toE).length ≤ 1000000; rw [List.length_map]; have := HTB.out; omega) (by omega) ?_; intro vt7 w7 hR7; clear hR3 LN; replace hR7 := app_told hR7))
            have hR8 := hR7.sub (List.sublist_cons_self _ _)
            go_meet
            exact ⟨m, t ++ [e], q', 0, by have := HMK.out; omega, by have := HTK.out; rw [List.length_append, List.length_singleton]; omega, fun b hb hf => HINV.out.tell b hf hb, hR8⟩
      case rest =>
      obtain ⟨m2, t2, q2, l2, hm2, ht2, hnew, hR8⟩ := hcut
      have hle : q2.length ≤ room := by
        obtain ⟨v, fr, len, hr, _⟩ := hR8.ring
        have := Nat.le_trans hr.nlen hr.lenroom
        rw [List.length_map] at this
        exact this
      have HM2 := Lib.hid hm2
      have HT2 := Lib.hid ht2
      have HNEW := Lib.hid hnew
      obtain ⟨ql, hql⟩ : ∃ ql, (q2.map toE).length = ql := ⟨_, rfl⟩
      have hqq : q2.length = ql := by rw [← hql, List.length_map]
      have HQL := Lib.hid hql
      have HQQ := Lib.hid hqq
      have z0 : ¬ (room : Int) < (ql : Int) := by omega
      have z0n : ql ≤ room := by omega
      have z0m : ¬ room < ql := by omega
      have hl0 : 0 ≤ l2 := (hnew true (fun _ => rfl) (fun _ => rfl)).l0
      have hlq : 0 < l2 → ql = room := fun h => hqq ▸ (hnew true (fun _ => rfl) (fun _ => rfl)).lq h
      have HLQ := Lib.hid hlq
      obtain ⟨P, hPd⟩ : ∃ P : World → Prop, P = fun W => FG w [(w.heap.size + 1, 26, (#[.int .i64 kd, .int .i64 n] : Array Value)), (w.heap.size, 24, cfgCells c s)] [⟨u9, 42, 12, (t2.map toE).length, KN.flat (t2.map toE)⟩, ⟨u8, 38, 11, (aQ 0 m2).length, KC.flat (aQ 0 m2)⟩] gf gr room true kd n ((m2 : Int)) (l2) (q2.map toE) W := ⟨_, rfl⟩
      have HPB := Lib.hid (pxB hPd)
      have HPF := Lib.hid (pxF hPd)
      have cF : ∀ W, PX P W → W.cell? ⟨w.heap.size, 12, none⟩ = some (.int .i64 (room : Int)) := fun W hW => HQC.out W ((HPB.out W hW).sr.st.sub (List.sublist_cons_self _ _))
      have hRd := HPF.out _ (hR8.drewN 1)
      clear hPd hR8 hm2 ht2 hnew hle
      go_step
      go_step
      go_cut [10] (fun fv wx => ∃ fb2 : Bool, fv = .bool fb2 ∧ Inv kd n room m2 t2 q2 l2 fb2 ∧ PX P wx)
      case first =>
        cases fb
        · by_cases heq : ql = room
          · have z3 : (ql == room) = true := by simpa using heq
            have z1 : ((ql : Int) == (room : Int)) = true := by simp; omega
            refine wp_region_held_drew (S := PX P) (by kernel_rfl) hRd (fun hHeld => ?_)
            refine wpAnyH_take (i := 0) (oi := { dst := some 78, op := Op.move (Operand.tmp 10), type := 4, pos := "own.go:34", after := #[], guard := none }) (v := ?_) rfl (by kernel_rfl) (by kernel_rfl) (by kernel_rfl) (fun _ _ _ h => h) (Or.inl ⟨by kernel_rfl, ?_⟩) (by assumption) ?_; rotate_left; (focus (intro W hSw; go_simp; try with_reducible rfl)); try simp only [Act.put, sT, s0, sS]
            refine wpAnyH_take (i := 1) (oi := { dst := some 79, op := Op.move (Operand.tmp 78), type := 4, pos := "own.go:34", after := #[{ on := 0, ground := Ground.data }], guard := none }) (v := ?_) rfl (by kernel_rfl) (by kernel_rfl) (by kernel_rfl) (fun _ _ _ h => h) (Or.inl ⟨by kernel_rfl, ?_⟩) (by assumption) ?_; rotate_left; (focus (intro W hSw; go_simp; try with_reducible rfl)); try simp only [Act.put, sT, s0, sS]
            refine wpAnyH_take (i := 2) (oi := { dst := some 80, op := Op.move (Operand.tmp 7), type := 29, pos := "own.go:34", after := #[{ on := 1, ground := Ground.guard }], guard := some (1, false) }) (v := ?_) rfl (by kernel_rfl) (by kernel_rfl) (by kernel_rfl) (fun _ _ _ h => h) (Or.inl ⟨by kernel_rfl, ?_⟩) (by assumption) ?_; rotate_left; (focus (intro W hSw; go_simp; try with_reducible rfl)); try simp only [Act.put, sT, s0, sS]
            refine wpAnyH_take (i := 4) (oi := { dst := some 82, op := Op.fieldAddr 24 (Operand.tmp 3) 12, type := 0, pos := "own.go:34", after := #[{ on := 1, ground := Ground.guard }], guard := some (1, false) }) (v := ?_) rfl (by kernel_rfl) (by kernel_rfl) (by kernel_rfl) (fun _ _ _ h => h) (Or.inl ⟨by kernel_rfl, ?_⟩) (by assumption) ?_; rotate_left; (focus (intro W hSw; go_simp; try with_reducible rfl)); try simp only [Act.put, sT, s0, sS]
            refine wpAnyH_take (i := 5) (oi := { dst := some 83, op := Op.load 3 (Operand.tmp 82), type := 3, pos := "own.go:34", after := #[{ on := 4, ground := Ground.data }, { on := 1, ground := Ground.guard }], guard := some (1, false) }) (v := ?_) rfl (by kernel_rfl) (by kernel_rfl) (by kernel_rfl) (fun _ _ _ h => h) (Or.inl ⟨by kernel_rfl, ?_⟩) (by assumption) ?_; rotate_left; (focus (intro W hSw; go_simp; try with_reducible rfl)); try simp only [Act.put, sT, s0, sS]
            refine wpAnyH_ready (rs := [3]) (by kernel_rfl) (by simp) ?_
            refine AllReadyH.cons (o := { dst := some 81, op := Op.call { callee := Callee.value (Operand.func 11), args := #[Operand.tmp 80], argTypes := #[29] }, type := 3, pos := "own.go:34", after := #[{ on := 2, ground := Ground.data }, { on := 1, ground := Ground.chain }, { on := 1, ground := Ground.guard }], guard := some (1, false) }) rfl (fun K hK => ?_) AllReadyH.nil
            go_simp
            refine (flen_any (m := ql) (HPB.out _ hHeld) HQL.out).mono ?_; rintro e w9 ⟨rfl, h9⟩; have hS9 := HPF.out _ h9
            refine hK.out _ _ (by assumption) (fun hHeld => ?_)
            clear hK K
            try simp only [Act.put, sT, s0, sS]
            refine wpAnyH_take (i := 6) (oi := { dst := some 84, op := Op.binOp BinOp.eql 3 (Operand.tmp 81) (Operand.tmp 83) 3, type := 4, pos := "own.go:34", after := #[{ on := 3, ground := Ground.data }, { on := 5, ground := Ground.data }, { on := 1, ground := Ground.guard }], guard := some (1, false) }) (v := ?_) rfl (by kernel_rfl) (by kernel_rfl) (by kernel_rfl) (fun _ _ _ h => h) (Or.inl ⟨by kernel_rfl, ?_⟩) (by assumption) ?_; rotate_left; (focus (intro W hSw; go_simp; try with_reducible rfl)); try simp only [Act.put, sT, s0, sS]
            refine wpAnyH_take (i := 7) (oi := { dst := some 85, op := Op.pick (Operand.tmp 79) (Operand.const (Value.bool true)) (Operand.tmp 84), type := 4, pos := "own.go:34", after := #[{ on := 1, ground := Ground.data }, { on := 6, ground := Ground.data }], guard := none }) (v := ?_) rfl (by kernel_rfl) (by kernel_rfl) (by kernel_rfl) (fun _ _ _ h => h) (Or.inl ⟨by kernel_rfl, ?_⟩) (by assumption) ?_; rotate_left; (focus (intro W hSw; go_simp; try with_reducible rfl)); try simp only [Act.put, sT, s0, sS]
            refine wpAnyH_take (i := 8) (oi := { dst := some 10, op := Op.assign (Operand.tmp 85), type := 4, pos := "own.go:34", after := #[{ on := 7, ground := Ground.data }, { on := 3, ground := Ground.chain }, { on := 0, ground := Ground.phase }, { on := 1, ground := Ground.phase }, { on := 2, ground := Ground.phase }, { on := 3, ground := Ground.phase }, { on := 4, ground := Ground.phase }, { on := 5, ground := Ground.phase }, { on := 6, ground := Ground.phase }, { on := 7, ground := Ground.phase }], guard := none }) (v := ?_) rfl (by kernel_rfl) (by kernel_rfl) (by kernel_rfl) (fun _ _ _ h => h) (Or.inl ⟨by kernel_rfl, ?_⟩) (by assumption) ?_; rotate_left; (focus (intro W hSw; go_simp; try with_reducible rfl)); try simp only [Act.put, sT, s0, sS]
            refine wpAnyH_done (by kernel_rfl) ?_ _
            go_wp2_with fail
            go_meet
            exact ⟨_, rfl, by first | exact HNEW.out _ (fun _ => by simp [heq]) (fun h => by cases h) | exact HNEW.out _ (fun _ => by simpa using heq) (fun h => by simp at h), hHeld⟩
          · have z3 : (ql == room) = false := by simpa using heq
            have z1 : ((ql : Int) == (room : Int)) = false := by simp; omega
            have z2 : ¬ (ql : Int) = (room : Int) := by omega
            refine wp_region_held_drew (S := PX P) (by kernel_rfl) hRd (fun hHeld => ?_)
            refine wpAnyH_take (i := 0) (oi := { dst := some 78, op := Op.move (Operand.tmp 10), type := 4, pos := "own.go:34", after := #[], guard := none }) (v := ?_) rfl (by kernel_rfl) (by kernel_rfl) (by kernel_rfl) (fun _ _ _ h => h) (Or.inl ⟨by kernel_rfl, ?_⟩) (by assumption) ?_; rotate_left; (focus (intro W hSw; go_simp; try with_reducible rfl)); try simp only [Act.put, sT, s0, sS]
            refine wpAnyH_take (i := 1) (oi := { dst := some 79, op := Op.move (Operand.tmp 78), type := 4, pos := "own.go:34", after := #[{ on := 0, ground := Ground.data }], guard := none }) (v := ?_) rfl (by kernel_rfl) (by kernel_rfl) (by kernel_rfl) (fun _ _ _ h => h) (Or.inl ⟨by kernel_rfl, ?_⟩) (by assumption) ?_; rotate_left; (focus (intro W hSw; go_simp; try with_reducible rfl)); try simp only [Act.put, sT, s0, sS]
            refine wpAnyH_take (i := 2) (oi := { dst := some 80, op := Op.move (Operand.tmp 7), type := 29, pos := "own.go:34", after := #[{ on := 1, ground := Ground.guard }], guard := some (1, false) }) (v := ?_) rfl (by kernel_rfl) (by kernel_rfl) (by kernel_rfl) (fun _ _ _ h => h) (Or.inl ⟨by kernel_rfl, ?_⟩) (by assumption) ?_; rotate_left; (focus (intro W hSw; go_simp; try with_reducible rfl)); try simp only [Act.put, sT, s0, sS]
            refine wpAnyH_take (i := 4) (oi := { dst := some 82, op := Op.fieldAddr 24 (Operand.tmp 3) 12, type := 0, pos := "own.go:34", after := #[{ on := 1, ground := Ground.guard }], guard := some (1, false) }) (v := ?_) rfl (by kernel_rfl) (by kernel_rfl) (by kernel_rfl) (fun _ _ _ h => h) (Or.inl ⟨by kernel_rfl, ?_⟩) (by assumption) ?_; rotate_left; (focus (intro W hSw; go_simp; try with_reducible rfl)); try simp only [Act.put, sT, s0, sS]
            refine wpAnyH_take (i := 5) (oi := { dst := some 83, op := Op.load 3 (Operand.tmp 82), type := 3, pos := "own.go:34", after := #[{ on := 4, ground := Ground.data }, { on := 1, ground := Ground.guard }], guard := some (1, false) }) (v := ?_) rfl (by kernel_rfl) (by kernel_rfl) (by kernel_rfl) (fun _ _ _ h => h) (Or.inl ⟨by kernel_rfl, ?_⟩) (by assumption) ?_; rotate_left; (focus (intro W hSw; go_simp; try with_reducible rfl)); try simp only [Act.put, sT, s0, sS]
            refine wpAnyH_ready (rs := [3]) (by kernel_rfl) (by simp) ?_
            refine AllReadyH.cons (o := { dst := some 81, op := Op.call { callee := Callee.value (Operand.func 11), args := #[Operand.tmp 80], argTypes := #[29] }, type := 3, pos := "own.go:34", after := #[{ on := 2, ground := Ground.data }, { on := 1, ground := Ground.chain }, { on := 1, ground := Ground.guard }], guard := some (1, false) }) rfl (fun K hK => ?_) AllReadyH.nil
            go_simp
            refine (flen_any (m := ql) (HPB.out _ hHeld) HQL.out).mono ?_; rintro e w9 ⟨rfl, h9⟩; have hS9 := HPF.out _ h9
            refine hK.out _ _ (by assumption) (fun hHeld => ?_)
            clear hK K
            try simp only [Act.put, sT, s0, sS]
            refine wpAnyH_take (i := 6) (oi := { dst := some 84, op := Op.binOp BinOp.eql 3 (Operand.tmp 81) (Operand.tmp 83) 3, type := 4, pos := "own.go:34", after := #[{ on := 3, ground := Ground.data }, { on := 5, ground := Ground.data }, { on := 1, ground := Ground.guard }], guard := some (1, false) }) (v := ?_) rfl (by kernel_rfl) (by kernel_rfl) (by kernel_rfl) (fun _ _ _ h => h) (Or.inl ⟨by kernel_rfl, ?_⟩) (by assumption) ?_; rotate_left; (focus (intro W hSw; go_simp; try with_reducible rfl)); try simp only [Act.put, sT, s0, sS]
            refine wpAnyH_take (i := 7) (oi := { dst := some 85, op := Op.pick (Operand.tmp 79) (Operand.const (Value.bool true)) (Operand.tmp 84), type := 4, pos := "own.go:34", after := #[{ on := 1, ground := Ground.data }, { on := 6, ground := Ground.data }], guard := none }) (v := ?_) rfl (by kernel_rfl) (by kernel_rfl) (by kernel_rfl) (fun _ _ _ h => h) (Or.inl ⟨by kernel_rfl, ?_⟩) (by assumption) ?_; rotate_left; (focus (intro W hSw; go_simp; try with_reducible rfl)); try simp only [Act.put, sT, s0, sS]
            refine wpAnyH_take (i := 8) (oi := { dst := some 10, op := Op.assign (Operand.tmp 85), type := 4, pos := "own.go:34", after := #[{ on := 7, ground := Ground.data }, { on := 3, ground := Ground.chain }, { on := 0, ground := Ground.phase }, { on := 1, ground := Ground.phase }, { on := 2, ground := Ground.phase }, { on := 3, ground := Ground.phase }, { on := 4, ground := Ground.phase }, { on := 5, ground := Ground.phase }, { on := 6, ground := Ground.phase }, { on := 7, ground := Ground.phase }], guard := none }) (v := ?_) rfl (by kernel_rfl) (by kernel_rfl) (by kernel_rfl) (fun _ _ _ h => h) (Or.inl ⟨by kernel_rfl, ?_⟩) (by assumption) ?_; rotate_left; (focus (intro W hSw; go_simp; try with_reducible rfl)); try simp only [Act.put, sT, s0, sS]
            refine wpAnyH_done (by kernel_rfl) ?_ _
            go_wp2_with fail
            go_meet
            exact ⟨false, rfl, HNEW.out false (fun h => absurd (HQQ.out.symm.trans h) heq) (fun h => by first | exact h | (simp at h)), hHeld⟩
        · skip
          refine wp_region_held_drew (S := PX P) (by kernel_rfl) hRd (fun hHeld => ?_)
          refine wpAnyH_take (i := 0) (oi := { dst := some 78, op := Op.move (Operand.tmp 10), type := 4, pos := "own.go:34", after := #[], guard := none }) (v := ?_) rfl (by kernel_rfl) (by kernel_rfl) (by kernel_rfl) (fun _ _ _ h => h) (Or.inl ⟨by kernel_rfl, ?_⟩) (by assumption) ?_; rotate_left; (focus (intro W hSw; go_simp; try with_reducible rfl)); try simp only [Act.put, sT, s0, sS]
          refine wpAnyH_take (i := 1) (oi := { dst := some 79, op := Op.move (Operand.tmp 78), type := 4, pos := "own.go:34", after := #[{ on := 0, ground := Ground.data }], guard := none }) (v := ?_) rfl (by kernel_rfl) (by kernel_rfl) (by kernel_rfl) (fun _ _ _ h => h) (Or.inl ⟨by kernel_rfl, ?_⟩) (by assumption) ?_; rotate_left; (focus (intro W hSw; go_simp; try with_reducible rfl)); try simp only [Act.put, sT, s0, sS]
          refine wpAnyH_take (i := 2) (oi := { dst := some 80, op := Op.move (Operand.tmp 7), type := 29, pos := "own.go:34", after := #[{ on := 1, ground := Ground.guard }], guard := some (1, false) }) (v := undef) rfl (by kernel_rfl) (by kernel_rfl) (by kernel_rfl) (fun _ _ _ h => h) (Or.inr ⟨by kernel_rfl, rfl⟩) (by assumption) ?_; try simp only [Act.put, sT, s0, sS]
          refine wpAnyH_take (i := 3) (oi := { dst := some 81, op := Op.call { callee := Callee.value (Operand.func 11), args := #[Operand.tmp 80], argTypes := #[29] }, type := 3, pos := "own.go:34", after := #[{ on := 2, ground := Ground.data }, { on := 1, ground := Ground.chain }, { on := 1, ground := Ground.guard }], guard := some (1, false) }) (v := undef) rfl (by kernel_rfl) (by kernel_rfl) (by kernel_rfl) (fun _ _ _ h => h) (Or.inr ⟨by kernel_rfl, rfl⟩) (by assumption) ?_; try simp only [Act.put, sT, s0, sS]
          refine wpAnyH_take (i := 4) (oi := { dst := some 82, op := Op.fieldAddr 24 (Operand.tmp 3) 12, type := 0, pos := "own.go:34", after := #[{ on := 1, ground := Ground.guard }], guard := some (1, false) }) (v := undef) rfl (by kernel_rfl) (by kernel_rfl) (by kernel_rfl) (fun _ _ _ h => h) (Or.inr ⟨by kernel_rfl, rfl⟩) (by assumption) ?_; try simp only [Act.put, sT, s0, sS]
          refine wpAnyH_take (i := 5) (oi := { dst := some 83, op := Op.load 3 (Operand.tmp 82), type := 3, pos := "own.go:34", after := #[{ on := 4, ground := Ground.data }, { on := 1, ground := Ground.guard }], guard := some (1, false) }) (v := undef) rfl (by kernel_rfl) (by kernel_rfl) (by kernel_rfl) (fun _ _ _ h => h) (Or.inr ⟨by kernel_rfl, rfl⟩) (by assumption) ?_; try simp only [Act.put, sT, s0, sS]
          refine wpAnyH_take (i := 6) (oi := { dst := some 84, op := Op.binOp BinOp.eql 3 (Operand.tmp 81) (Operand.tmp 83) 3, type := 4, pos := "own.go:34", after := #[{ on := 3, ground := Ground.data }, { on := 5, ground := Ground.data }, { on := 1, ground := Ground.guard }], guard := some (1, false) }) (v := undef) rfl (by kernel_rfl) (by kernel_rfl) (by kernel_rfl) (fun _ _ _ h => h) (Or.inr ⟨by kernel_rfl, rfl⟩) (by assumption) ?_; try simp only [Act.put, sT, s0, sS]
          refine wpAnyH_take (i := 7) (oi := { dst := some 85, op := Op.pick (Operand.tmp 79) (Operand.const (Value.bool true)) (Operand.tmp 84), type := 4, pos := "own.go:34", after := #[{ on := 1, ground := Ground.data }, { on := 6, ground := Ground.data }], guard := none }) (v := ?_) rfl (by kernel_rfl) (by kernel_rfl) (by kernel_rfl) (fun _ _ _ h => h) (Or.inl ⟨by kernel_rfl, ?_⟩) (by assumption) ?_; rotate_left; (focus (intro W hSw; go_simp; try with_reducible rfl)); try simp only [Act.put, sT, s0, sS]
          refine wpAnyH_take (i := 8) (oi := { dst := some 10, op := Op.assign (Operand.tmp 85), type := 4, pos := "own.go:34", after := #[{ on := 7, ground := Ground.data }, { on := 3, ground := Ground.chain }, { on := 0, ground := Ground.phase }, { on := 1, ground := Ground.phase }, { on := 2, ground := Ground.phase }, { on := 3, ground := Ground.phase }, { on := 4, ground := Ground.phase }, { on := 5, ground := Ground.phase }, { on := 6, ground := Ground.phase }, { on := 7, ground := Ground.phase }], guard := none }) (v := ?_) rfl (by kernel_rfl) (by kernel_rfl) (by kernel_rfl) (fun _ _ _ h => h) (Or.inl ⟨by kernel_rfl, ?_⟩) (by assumption) ?_; rotate_left; (focus (intro W hSw; go_simp; try with_reducible rfl)); try simp only [Act.put, sT, s0, sS]
          refine wpAnyH_done (by kernel_rfl) ?_ _
          go_wp2_with fail
          go_meet
          exact ⟨true, rfl, HNEW.out true (fun _ => rfl) (fun _ => rfl), hHeld⟩
      case rest =>
      obtain ⟨fb2, rfl, hinv2, hHd⟩ := hcut
      have HINV2 := Lib.hid hinv2
      have hRe := HPF.out _ ((HPB.out _ hHd).drewN 1)
      clear hinv2 hRd hHd
      go_step
      go_step
      by_cases hlp : 0 < l2
      · have heq2 := (hlq hlp).symm
        subst heq2
        clear z0 z0n z0m hqq hlq
        refine wp_region_held_drew (S := PX P) (by kernel_rfl) hRe (fun hHeld => ?_)
        refine wpAnyH_take (i := 0) (oi := { dst := some 86, op := Op.move (Operand.tmp 7), type := 29, pos := "own.go:35", after := #[], guard := none }) (v := ?_) rfl (by kernel_rfl) (by kernel_rfl) (by kernel_rfl) (fun _ _ _ h => h) (Or.inl ⟨by kernel_rfl, ?_⟩) (by assumption) ?_; rotate_left; (focus (intro W hSw; go_simp; try with_reducible rfl)); try simp only [Act.put, sT, s0, sS]
        refine wpAnyH_take (i := 2) (oi := { dst := some 88, op := Op.fieldAddr 24 (Operand.tmp 3) 12, type := 0, pos := "own.go:35", after := #[], guard := none }) (v := ?_) rfl (by kernel_rfl) (by kernel_rfl) (by kernel_rfl) (fun _ _ _ h => h) (Or.inl ⟨by kernel_rfl, ?_⟩) (by assumption) ?_; rotate_left; (focus (intro W hSw; go_simp; try with_reducible rfl)); try simp only [Act.put, sT, s0, sS]
        refine wpAnyH_take (i := 3) (oi := { dst := some 89, op := Op.load 3 (Operand.tmp 88), type := 3, pos := "own.go:35", after := #[{ on := 2, ground := Ground.data }], guard := none }) (v := ?_) rfl (by kernel_rfl) (by kernel_rfl) (by kernel_rfl) (fun _ _ _ h => h) (Or.inl ⟨by kernel_rfl, ?_⟩) (by assumption) ?_; rotate_left; (focus (intro W hSw; go_simp; try with_reducible rfl)); try simp only [Act.put, sT, s0, sS]
        refine wpAnyH_ready (rs := [1]) (by kernel_rfl) (by simp) ?_
        refine AllReadyH.cons (o := { dst := some 87, op := Op.call { callee := Callee.value (Operand.func 11), args := #[Operand.tmp 86], argTypes := #[29] }, type := 3, pos := "own.go:35", after := #[{ on := 0, ground := Ground.data }], guard := none }) rfl (fun K hK => ?_) AllReadyH.nil
        go_simp
        refine (flen_any (m := room) (HPB.out _ hHeld) HQL.out).mono ?_; rintro e w9 ⟨rfl, h9⟩; have hS9 := HPF.out _ h9
        refine hK.out _ _ (by assumption) (fun hHeld => ?_)
        clear hK K
        try simp only [Act.put, sT, s0, sS]
        refine wpAnyH_take (i := 4) (oi := { dst := some 90, op := Op.binOp BinOp.gtr 3 (Operand.tmp 87) (Operand.tmp 89) 3, type := 4, pos := "own.go:35", after := #[{ on := 1, ground := Ground.data }, { on := 3, ground := Ground.data }], guard := none }) (v := ?_) rfl (by kernel_rfl) (by kernel_rfl) (by kernel_rfl) (fun _ _ _ h => h) (Or.inl ⟨by kernel_rfl, ?_⟩) (by assumption) ?_; rotate_left; (focus (intro W hSw; go_simp; try with_reducible rfl)); try simp only [Act.put, sT, s0, sS]
        refine wpAnyH_take (i := 5) (oi := { dst := some 91, op := Op.move (Operand.tmp 90), type := 4, pos := "own.go:35", after := #[{ on := 4, ground := Ground.data }, { on := 1, ground := Ground.chain }], guard := none }) (v := ?_) rfl (by kernel_rfl) (by kernel_rfl) (by kernel_rfl) (fun _ _ _ h => h) (Or.inl ⟨by kernel_rfl, ?_⟩) (by assumption) ?_; rotate_left; (focus (intro W hSw; go_simp; try with_reducible rfl)); try simp only [Act.put, sT, s0, sS]
        refine wpAnyH_take (i := 6) (oi := { dst := some 92, op := Op.move (Operand.tmp 7), type := 29, pos := "own.go:35", after := #[{ on := 5, ground := Ground.guard }], guard := some (5, false) }) (v := ?_) rfl (by kernel_rfl) (by kernel_rfl) (by kernel_rfl) (fun _ _ _ h => h) (Or.inl ⟨by kernel_rfl, ?_⟩) (by assumption) ?_; rotate_left; (focus (intro W hSw; go_simp; try with_reducible rfl)); try simp only [Act.put, sT, s0, sS]
        refine wpAnyH_ready (rs := [7]) (by kernel_rfl) (by simp) ?_
        refine AllReadyH.cons (o := { dst := some 93, op := Op.call { callee := Callee.value (Operand.func 12), args := #[Operand.tmp 92], argTypes := #[29] }, type := 3, pos := "own.go:35", after := #[{ on := 6, ground := Ground.data }, { on := 5, ground := Ground.chain }, { on := 5, ground := Ground.guard }], guard := some (5, false) }) rfl (fun K hK => ?_) AllReadyH.nil
        go_simp
        refine (lost_any (HPB.out _ hHeld)).mono ?_; rintro e w9 ⟨rfl, rfl⟩; have hS9 := hHeld
        refine hK.out _ _ (by assumption) (fun hHeld => ?_)
        clear hK K
        try simp only [Act.put, sT, s0, sS]
        refine wpAnyH_take (i := 8) (oi := { dst := some 94, op := Op.binOp BinOp.gtr 3 (Operand.tmp 93) (Operand.const (Value.int IntKind.i64 0)) 3, type := 4, pos := "own.go:35", after := #[{ on := 7, ground := Ground.data }, { on := 5, ground := Ground.guard }], guard := some (5, false) }) (v := ?_) rfl (by kernel_rfl) (by kernel_rfl) (by kernel_rfl) (fun _ _ _ h => h) (Or.inl ⟨by kernel_rfl, ?_⟩) (by assumption) ?_; rotate_left; (focus (intro W hSw; go_simp; try with_reducible rfl)); try simp only [Act.put, sT, s0, sS]
        refine wpAnyH_take (i := 9) (oi := { dst := some 95, op := Op.move (Operand.tmp 94), type := 4, pos := "own.go:35", after := #[{ on := 8, ground := Ground.data }, { on := 7, ground := Ground.chain }, { on := 5, ground := Ground.guard }], guard := some (5, false) }) (v := ?_) rfl (by kernel_rfl) (by kernel_rfl) (by kernel_rfl) (fun _ _ _ h => h) (Or.inl ⟨by kernel_rfl, ?_⟩) (by assumption) ?_; rotate_left; (focus (intro W hSw; go_simp; try with_reducible rfl)); try simp only [Act.put, sT, s0, sS]
        refine wpAnyH_take (i := 10) (oi := { dst := some 96, op := Op.move (Operand.tmp 7), type := 29, pos := "own.go:35", after := #[{ on := 9, ground := Ground.guard }], guard := some (9, true) }) (v := ?_) rfl (by kernel_rfl) (by kernel_rfl) (by kernel_rfl) (fun _ _ _ h => h) (Or.inl ⟨by kernel_rfl, ?_⟩) (by assumption) ?_; rotate_left; (focus (intro W hSw; go_simp; try with_reducible rfl)); try simp only [Act.put, sT, s0, sS]
        refine wpAnyH_take (i := 12) (oi := { dst := some 98, op := Op.fieldAddr 24 (Operand.tmp 3) 12, type := 0, pos := "own.go:35", after := #[{ on := 9, ground := Ground.guard }], guard := some (9, true) }) (v := ?_) rfl (by kernel_rfl) (by kernel_rfl) (by kernel_rfl) (fun _ _ _ h => h) (Or.inl ⟨by kernel_rfl, ?_⟩) (by assumption) ?_; rotate_left; (focus (intro W hSw; go_simp; try with_reducible rfl)); try simp only [Act.put, sT, s0, sS]
        refine wpAnyH_take (i := 13) (oi := { dst := some 99, op := Op.load 3 (Operand.tmp 98), type := 3, pos := "own.go:35", after := #[{ on := 12, ground := Ground.data }, { on := 9, ground := Ground.guard }], guard := some (9, true) }) (v := ?_) rfl (by kernel_rfl) (by kernel_rfl) (by kernel_rfl) (fun _ _ _ h => h) (Or.inl ⟨by kernel_rfl, ?_⟩) (by assumption) ?_; rotate_left; (focus (intro W hSw; go_simp; try with_reducible rfl)); try simp only [Act.put, sT, s0, sS]
        refine wpAnyH_ready (rs := [11]) (by kernel_rfl) (by simp) ?_
        refine AllReadyH.cons (o := { dst := some 97, op := Op.call { callee := Callee.value (Operand.func 11), args := #[Operand.tmp 96], argTypes := #[29] }, type := 3, pos := "own.go:35", after := #[{ on := 10, ground := Ground.data }, { on := 9, ground := Ground.chain }, { on := 9, ground := Ground.guard }], guard := some (9, true) }) rfl (fun K hK => ?_) AllReadyH.nil
        go_simp
        refine (flen_any (m := room) (HPB.out _ hHeld) HQL.out).mono ?_; rintro e w9 ⟨rfl, h9⟩; have hS9 := HPF.out _ h9
        refine hK.out _ _ (by assumption) (fun hHeld => ?_)
        clear hK K
        try simp only [Act.put, sT, s0, sS]
        refine wpAnyH_take (i := 14) (oi := { dst := some 100, op := Op.binOp BinOp.neq 3 (Operand.tmp 97) (Operand.tmp 99) 3, type := 4, pos := "own.go:35", after := #[{ on := 11, ground := Ground.data }, { on := 13, ground := Ground.data }, { on := 9, ground := Ground.guard }], guard := some (9, true) }) (v := ?_) rfl (by kernel_rfl) (by kernel_rfl) (by kernel_rfl) (fun _ _ _ h => h) (Or.inl ⟨by kernel_rfl, ?_⟩) (by assumption) ?_; rotate_left; (focus (intro W hSw; go_simp; try with_reducible rfl)); try simp only [Act.put, sT, s0, sS]
        refine wpAnyH_take (i := 15) (oi := { dst := some 101, op := Op.pick (Operand.tmp 95) (Operand.tmp 100) (Operand.const (Value.bool false)), type := 4, pos := "own.go:35", after := #[{ on := 9, ground := Ground.data }, { on := 14, ground := Ground.data }, { on := 5, ground := Ground.guard }], guard := some (5, false) }) (v := ?_) rfl (by kernel_rfl) (by kernel_rfl) (by kernel_rfl) (fun _ _ _ h => h) (Or.inl ⟨by kernel_rfl, ?_⟩) (by assumption) ?_; rotate_left; (focus (intro W hSw; go_simp; try with_reducible rfl)); try simp only [Act.put, sT, s0, sS]
        refine wpAnyH_take (i := 16) (oi := { dst := some 102, op := Op.pick (Operand.tmp 91) (Operand.const (Value.bool true)) (Operand.tmp 101), type := 4, pos := "own.go:35", after := #[{ on := 5, ground := Ground.data }, { on := 15, ground := Ground.data }], guard := none }) (v := ?_) rfl (by kernel_rfl) (by kernel_rfl) (by kernel_rfl) (fun _ _ _ h => h) (Or.inl ⟨by kernel_rfl, ?_⟩) (by assumption) ?_; rotate_left; (focus (intro W hSw; go_simp; try with_reducible rfl)); try simp only [Act.put, sT, s0, sS]
        refine wpAnyH_done (by kernel_rfl) ?_ _
        go_wp2_with fail
        go_roundg (gk - 1)
        case measure => have := HK.out; have := HGO.out; omega
        case rel => exact ⟨k + 1, m2, t2, q2, l2, fb2, by have := HK.out; have := HGO.out; omega, by go_num, rfl, HM2.out, HT2.out, by have := HGO.out; omega, HINV2.out, HPB.out _ hHeld⟩
      · have hl00 : l2 = 0 := by omega
        subst hl00
        clear hlp
        refine wp_region_held_drew (S := PX P) (by kernel_rfl) hRe (fun hHeld => ?_)
        refine wpAnyH_take (i := 0) (oi := { dst := some 86, op := Op.move (Operand.tmp 7), type := 29, pos := "own.go:35", after := #[], guard := none }) (v := ?_) rfl (by kernel_rfl) (by kernel_rfl) (by kernel_rfl) (fun _ _ _ h => h) (Or.inl ⟨by kernel_rfl, ?_⟩) (by assumption) ?_; rotate_left; (focus (intro W hSw; go_simp; try with_reducible rfl)); try simp only [Act.put, sT, s0, sS]
        refine wpAnyH_take (i := 2) (oi := { dst := some 88, op := Op.fieldAddr 24 (Operand.tmp 3) 12, type := 0, pos := "own.go:35", after := #[], guard := none }) (v := ?_) rfl (by kernel_rfl) (by kernel_rfl) (by kernel_rfl) (fun _ _ _ h => h) (Or.inl ⟨by kernel_rfl, ?_⟩) (by assumption) ?_; rotate_left; (focus (intro W hSw; go_simp; try with_reducible rfl)); try simp only [Act.put, sT, s0, sS]
        refine wpAnyH_take (i := 3) (oi := { dst := some 89, op := Op.load 3 (Operand.tmp 88), type := 3, pos := "own.go:35", after := #[{ on := 2, ground := Ground.data }], guard := none }) (v := ?_) rfl (by kernel_rfl) (by kernel_rfl) (by kernel_rfl) (fun _ _ _ h => h) (Or.inl ⟨by kernel_rfl, ?_⟩) (by assumption) ?_; rotate_left; (focus (intro W hSw; go_simp; try with_reducible rfl)); try simp only [Act.put, sT, s0, sS]
        refine wpAnyH_ready (rs := [1]) (by kernel_rfl) (by simp) ?_
        refine AllReadyH.cons (o := { dst := some 87, op := Op.call { callee := Callee.value (Operand.func 11), args := #[Operand.tmp 86], argTypes := #[29] }, type := 3, pos := "own.go:35", after := #[{ on := 0, ground := Ground.data }], guard := none }) rfl (fun K hK => ?_) AllReadyH.nil
        go_simp
        refine (flen_any (m := ql) (HPB.out _ hHeld) HQL.out).mono ?_; rintro e w9 ⟨rfl, h9⟩; have hS9 := HPF.out _ h9
        refine hK.out _ _ (by assumption) (fun hHeld => ?_)
        clear hK K
        try simp only [Act.put, sT, s0, sS]
        refine wpAnyH_take (i := 4) (oi := { dst := some 90, op := Op.binOp BinOp.gtr 3 (Operand.tmp 87) (Operand.tmp 89) 3, type := 4, pos := "own.go:35", after := #[{ on := 1, ground := Ground.data }, { on := 3, ground := Ground.data }], guard := none }) (v := ?_) rfl (by kernel_rfl) (by kernel_rfl) (by kernel_rfl) (fun _ _ _ h => h) (Or.inl ⟨by kernel_rfl, ?_⟩) (by assumption) ?_; rotate_left; (focus (intro W hSw; go_simp; try with_reducible rfl)); try simp only [Act.put, sT, s0, sS]
        refine wpAnyH_take (i := 5) (oi := { dst := some 91, op := Op.move (Operand.tmp 90), type := 4, pos := "own.go:35", after := #[{ on := 4, ground := Ground.data }, { on := 1, ground := Ground.chain }], guard := none }) (v := ?_) rfl (by kernel_rfl) (by kernel_rfl) (by kernel_rfl) (fun _ _ _ h => h) (Or.inl ⟨by kernel_rfl, ?_⟩) (by assumption) ?_; rotate_left; (focus (intro W hSw; go_simp; try with_reducible rfl)); try simp only [Act.put, sT, s0, sS]
        refine wpAnyH_take (i := 6) (oi := { dst := some 92, op := Op.move (Operand.tmp 7), type := 29, pos := "own.go:35", after := #[{ on := 5, ground := Ground.guard }], guard := some (5, false) }) (v := ?_) rfl (by kernel_rfl) (by kernel_rfl) (by kernel_rfl) (fun _ _ _ h => h) (Or.inl ⟨by kernel_rfl, ?_⟩) (by assumption) ?_; rotate_left; (focus (intro W hSw; go_simp; try with_reducible rfl)); try simp only [Act.put, sT, s0, sS]
        refine wpAnyH_ready (rs := [7]) (by kernel_rfl) (by simp) ?_
        refine AllReadyH.cons (o := { dst := some 93, op := Op.call { callee := Callee.value (Operand.func 12), args := #[Operand.tmp 92], argTypes := #[29] }, type := 3, pos := "own.go:35", after := #[{ on := 6, ground := Ground.data }, { on := 5, ground := Ground.chain }, { on := 5, ground := Ground.guard }], guard := some (5, false) }) rfl (fun K hK => ?_) AllReadyH.nil
        go_simp
        refine (lost_any (HPB.out _ hHeld)).mono ?_; rintro e w9 ⟨rfl, rfl⟩; have hS9 := hHeld
        refine hK.out _ _ (by assumption) (fun hHeld => ?_)
        clear hK K
        try simp only [Act.put, sT, s0, sS]
        refine wpAnyH_take (i := 8) (oi := { dst := some 94, op := Op.binOp BinOp.gtr 3 (Operand.tmp 93) (Operand.const (Value.int IntKind.i64 0)) 3, type := 4, pos := "own.go:35", after := #[{ on := 7, ground := Ground.data }, { on := 5, ground := Ground.guard }], guard := some (5, false) }) (v := ?_) rfl (by kernel_rfl) (by kernel_rfl) (by kernel_rfl) (fun _ _ _ h => h) (Or.inl ⟨by kernel_rfl, ?_⟩) (by assumption) ?_; rotate_left; (focus (intro W hSw; go_simp; try with_reducible rfl)); try simp only [Act.put, sT, s0, sS]
        refine wpAnyH_take (i := 9) (oi := { dst := some 95, op := Op.move (Operand.tmp 94), type := 4, pos := "own.go:35", after := #[{ on := 8, ground := Ground.data }, { on := 7, ground := Ground.chain }, { on := 5, ground := Ground.guard }], guard := some (5, false) }) (v := ?_) rfl (by kernel_rfl) (by kernel_rfl) (by kernel_rfl) (fun _ _ _ h => h) (Or.inl ⟨by kernel_rfl, ?_⟩) (by assumption) ?_; rotate_left; (focus (intro W hSw; go_simp; try with_reducible rfl)); try simp only [Act.put, sT, s0, sS]
        refine wpAnyH_take (i := 10) (oi := { dst := some 96, op := Op.move (Operand.tmp 7), type := 29, pos := "own.go:35", after := #[{ on := 9, ground := Ground.guard }], guard := some (9, true) }) (v := undef) rfl (by kernel_rfl) (by kernel_rfl) (by kernel_rfl) (fun _ _ _ h => h) (Or.inr ⟨by kernel_rfl, rfl⟩) (by assumption) ?_; try simp only [Act.put, sT, s0, sS]
        refine wpAnyH_take (i := 11) (oi := { dst := some 97, op := Op.call { callee := Callee.value (Operand.func 11), args := #[Operand.tmp 96], argTypes := #[29] }, type := 3, pos := "own.go:35", after := #[{ on := 10, ground := Ground.data }, { on := 9, ground := Ground.chain }, { on := 9, ground := Ground.guard }], guard := some (9, true) }) (v := undef) rfl (by kernel_rfl) (by kernel_rfl) (by kernel_rfl) (fun _ _ _ h => h) (Or.inr ⟨by kernel_rfl, rfl⟩) (by assumption) ?_; try simp only [Act.put, sT, s0, sS]
        refine wpAnyH_take (i := 12) (oi := { dst := some 98, op := Op.fieldAddr 24 (Operand.tmp 3) 12, type := 0, pos := "own.go:35", after := #[{ on := 9, ground := Ground.guard }], guard := some (9, true) }) (v := undef) rfl (by kernel_rfl) (by kernel_rfl) (by kernel_rfl) (fun _ _ _ h => h) (Or.inr ⟨by kernel_rfl, rfl⟩) (by assumption) ?_; try simp only [Act.put, sT, s0, sS]
        refine wpAnyH_take (i := 13) (oi := { dst := some 99, op := Op.load 3 (Operand.tmp 98), type := 3, pos := "own.go:35", after := #[{ on := 12, ground := Ground.data }, { on := 9, ground := Ground.guard }], guard := some (9, true) }) (v := undef) rfl (by kernel_rfl) (by kernel_rfl) (by kernel_rfl) (fun _ _ _ h => h) (Or.inr ⟨by kernel_rfl, rfl⟩) (by assumption) ?_; try simp only [Act.put, sT, s0, sS]
        refine wpAnyH_take (i := 14) (oi := { dst := some 100, op := Op.binOp BinOp.neq 3 (Operand.tmp 97) (Operand.tmp 99) 3, type := 4, pos := "own.go:35", after := #[{ on := 11, ground := Ground.data }, { on := 13, ground := Ground.data }, { on := 9, ground := Ground.guard }], guard := some (9, true) }) (v := undef) rfl (by kernel_rfl) (by kernel_rfl) (by kernel_rfl) (fun _ _ _ h => h) (Or.inr ⟨by kernel_rfl, rfl⟩) (by assumption) ?_; try simp only [Act.put, sT, s0, sS]
        refine wpAnyH_take (i := 15) (oi := { dst := some 101, op := Op.pick (Operand.tmp 95) (Operand.tmp 100) (Operand.const (Value.bool false)), type := 4, pos := "own.go:35", after := #[{ on := 9, ground := Ground.data }, { on := 14, ground := Ground.data }, { on := 5, ground := Ground.guard }], guard := some (5, false) }) (v := ?_) rfl (by kernel_rfl) (by kernel_rfl) (by kernel_rfl) (fun _ _ _ h => h) (Or.inl ⟨by kernel_rfl, ?_⟩) (by assumption) ?_; rotate_left; (focus (intro W hSw; go_simp; try with_reducible rfl)); try simp only [Act.put, sT, s0, sS]
        refine wpAnyH_take (i := 16) (oi := { dst := some 102, op := Op.pick (Operand.tmp 91) (Operand.const (Value.bool true)) (Operand.tmp 101), type := 4, pos := "own.go:35", after := #[{ on := 5, ground := Ground.data }, { on := 15, ground := Ground.data }], guard := none }) (v := ?_) rfl (by kernel_rfl) (by kernel_rfl) (by kernel_rfl) (fun _ _ _ h => h) (Or.inl ⟨by kernel_rfl, ?_⟩) (by assumption) ?_; rotate_left; (focus (intro W hSw; go_simp; try with_reducible rfl)); try simp only [Act.put, sT, s0, sS]
        refine wpAnyH_done (by kernel_rfl) ?_ _
        go_wp2_with fail
        go_roundg (gk - 1)
        case measure => have := HK.out; have := HGO.out; omega
        case rel => exact ⟨k + 1, m2, t2, q2, 0, fb2, by have := HK.out; have := HGO.out; omega, by go_num, rfl, HM2.out, HT2.out, by have := HGO.out; omega, HINV2.out, HPB.out _ hHeld⟩
    · have ht100 : t.length ≤ 100 := by omega
      have hm100 : m ≤ 100 := by omega
      have HT1 := Lib.hid ht100
      have HM1 := Lib.hid hm100
      have hlen0 := HLEN0.out
      have hz1 : (k : Int) < (zs.length : Int) := by omega
      have hz2 : ¬ (k : Int) < 100 := by omega
      clear hgo hk hmk htk hk100 hinv hqr hml ht100 hm100 hlen0
      · as_aux_lemma =>
        go_wp2_with fail
        go_loopg [9] (qa.length + if 0 < l then 1 else 0) (fun mm vt wr => ∃ (t qa : List (Int × Bool)) (l : Int), mm = (qa.length + if 0 < l then 1 else 0) ∧ t.length + mm ≤ 200 ∧ Inv kd n room m t qa l fb ∧ FG w [(w.heap.size + 1, 26, (#[.int .i64 kd, .int .i64 n] : Array Value)), (w.heap.size, 24, cfgCells c s)] [⟨vt, 42, 12, (t.map toE).length, KN.flat (t.map toE)⟩, ⟨.slice pa (aQ 0 m).length ca, 38, 11, (aQ 0 m).length, KC.flat (aQ 0 m)⟩] gf gr room true kd n ((m : Int)) (l) (qa.map toE) wr)
        case atStart => exact ⟨t, qa, l, rfl, by have h1 := HT1.out; have h2 := HQR.out; have h3 := HR2.out; split <;> omega, HINV.out, hR⟩
        case round =>
          clear hR
          obtain ⟨t, qa, l, hmm, htm, hinv, hR⟩ := hrel
          have hqr : qa.length ≤ room := by
            obtain ⟨v, fr, len, hr, _⟩ := hR.ring
            have := Nat.le_trans hr.nlen hr.lenroom
            rw [List.length_map] at this
            exact this
          have HI2 := Lib.hid hinv
          have HMM := Lib.hid hmm
          have HTM := Lib.hid htm
          have h64 := HR2.out
          have h1 := HR1.out
          cases qa with
          | cons e q' =>
            have hq1 : q'.length + 1 ≤ room := hqr
            obtain ⟨ln, hln⟩ : ∃ ln, ((e :: q').map toE).length = ln := ⟨_, rfl⟩
            have hl0 : 0 < ln := by rw [← hln]; simp
            have hl0z : (0 : Int) < (ln : Int) := by omega
            have HLN := Lib.hid hln
            have HTB : RowKit.Hid (t.length ≤ 300) := by show t.length ≤ 300; omega
            by_cases hl : 0 < l
            · have hg := hinv.tell_gap hl
              obtain rfl : fb = true := hg.1
              have HG2 := Lib.hid hg.2
              have HGE := Lib.hid (gap_toE q' l)
              have HLT : RowKit.Hid ((q'.map toE).length < room) := by show (q'.map toE).length < room; rw [List.length_map]; omega
              have HLP := Lib.hid hl
              clear hg hl hq1 h64 h1 hmm htm hinv hqr hln
              go_wp2_with (first
                | (go_at_call 11; refine (flen_any (m := ln) hR HLN.out).mono ?_; rintro e w7 ⟨rfl, hR1⟩; clear hR)
                | (go_at_call 10; refine (tell_gap (y := toE e) (q := q'.map toE) hR1 HLP.out HLT.out).mono ?_; rintro e w2 ⟨rfl, hR2⟩; rw [HGE.out] at hR2; clear hR1)
                | (refine store_newF hR2 rfl rfl 42 _ _ rfl 42 _ (#[.int .i64 (toE e).1, .int .i64 ((toE e).2 0), .int .i64 ((toE e).2 1), .int .i64 ((toE e).2 2), .int .i64 ((toE e).2 3), .int .i64 ((toE e).2 4), .int .i64 ((toE e).2 5), .int .i64 ((toE e).2 6), .int .i64 ((toE e).2 7), .int .i64 ((toE e).2 8), .int .i64 ((toE e).2 9), .int .i64 ((toE e).2 10)] : Array Value) rfl rfl (by kernel_rfl) rfl (by simp [Value.oneCell']) ?_; intro w3 hR3 hlt3; generalize w2.heap.size = gn at hR3 hlt3 ⊢; clear hlt3 hR2; have LN := St.big (w0 := w) 0 42 _ rfl Try.underlying42 rfl (by kernel_rfl) w3 hR3.sr.st)
                | ((with_reducible show wpList _ _ _ (⟨_, .buildSlice _ _ _, _, _, _, _⟩ :: _) _ _); refine buildN (toE e).1 (toE e).2 rfl _ rfl rfl ?_)
                | (at_builtin; refine app_rowF (RG.old hR3 _) rfl _ _ 33 rfl (.agg #[.int .i64 0, .int .i64 0, .int .i64 0, .int .i64 0, .int .i64 0, .int .i64 0, .int .i64 0, .int .i64 0, .int .i64 0, .int .i64 0, .int .i64 0, .int .i64 0]) 96 Try.underlying33 KN.info rfl (by show 0 < 12; omega) rfl _ (#[.int .i64 (toE e).1, .int .i64 ((toE e).2 0), .int .i64 ((toE e).2 1), .int .i64 ((toE e).2 2), .int .i64 ((toE e).2 3), .int .i64 ((toE e).2 4), .int .i64 ((toE e).2 5), .int .i64 ((toE e).2 6), .int .i64 ((toE e).2 7), .int .i64 ((toE e).2 8), .int .i64 ((toE e).2 9), .int .i64 ((toE e).2 10)] : Array Value) 42 rfl (Blk.new _ _ _) rfl (by simp [Value.oneCell']) (by show (t.map toE).length ≤ 1000000; rw [List.length_map]; have := HTB.out; omega) (by omega) ?_; intro vt7 w7 hR7; clear hR3 LN; replace hR7 := app_told hR7))
              go_roundg (gk - 1)
              case measure => have h := HMM.out; rw [if_pos HLP.out] at h; omega
              case rel => exact ⟨t ++ [e], q' ++ [(l, true)], 0, by have h := HMM.out; rw [if_pos HLP.out] at h; rw [List.length_cons] at h; rw [List.length_append, List.length_singleton, if_neg (by omega)]; omega, by have h := HMM.out; have h2 := HTM.out; rw [if_pos HLP.out, List.length_cons] at h; rw [List.length_append, List.length_singleton]; omega, HG2.out, hR7.sub (List.sublist_cons_self _ _)⟩
            · obtain rfl : l = 0 := by have := hinv.l0; omega
              have HTT := Lib.hid (hinv.tell fb (fun h => h) (fun h => absurd h (by omega)))
              clear hl hq1 h64 h1 hmm htm hinv hqr hln
              go_wp2_with (first
                | (go_at_call 11; refine (flen_any (m := ln) hR HLN.out).mono ?_; rintro e w7 ⟨rfl, hR1⟩; clear hR)
                | (go_at_call 10; refine (tell_one (y := toE e) (q := q'.map toE) hR1).mono ?_; rintro e w2 ⟨rfl, hR2⟩; clear hR1)
                | (refine store_newF hR2 rfl rfl 42 _ _ rfl 42 _ (#[.int .i64 (toE e).1, .int .i64 ((toE e).2 0), .int .i64 ((toE e).2 1), .int .i64 ((toE e).2 2), .int .i64 ((toE e).2 3), .int .i64 ((toE e).2 4), .int .i64 ((toE e).2 5), .int .i64 ((toE e).2 6), .int .i64 ((toE e).2 7), .int .i64 ((toE e).2 8), .int .i64 ((toE e).2 9), .int .i64 ((toE e).2 10)] : Array Value) rfl rfl (by kernel_rfl) rfl (by simp [Value.oneCell']) ?_; intro w3 hR3 hlt3; generalize w2.heap.size = gn at hR3 hlt3 ⊢; clear hlt3 hR2; have LN := St.big (w0 := w) 0 42 _ rfl Try.underlying42 rfl (by kernel_rfl) w3 hR3.sr.st)
                | ((with_reducible show wpList _ _ _ (⟨_, .buildSlice _ _ _, _, _, _, _⟩ :: _) _ _); refine buildN (toE e).1 (toE e).2 rfl _ rfl rfl ?_)
                | (at_builtin; refine app_rowF (RG.old hR3 _) rfl _ _ 33 rfl (.agg #[.int .i64 0, .int .i64 0, .int .i64 0, .int .i64 0, .int .i64 0, .int .i64 0, .int .i64 0, .int .i64 0, .int .i64 0, .int .i64 0, .int .i64 0, .int .i64 0]) 96 Try.underlying33 KN.info rfl (by show 0 < 12; omega) rfl _ (#[.int .i64 (toE e).1, .int .i64 ((toE e).2 0), .int .i64 ((toE e).2 1), .int .i64 ((toE e).2 2), .int .i64 ((toE e).2 3), .int .i64 ((toE e).2 4), .int .i64 ((toE e).2 5), .int .i64 ((toE e).2 6), .int .i64 ((toE e).2 7), .int .i64 ((toE e).2 8), .int .i64 ((toE e).2 9), .int .i64 ((toE e).2 10)] : Array Value) 42 rfl (Blk.new _ _ _) rfl (by simp [Value.oneCell']) (by show (t.map toE).length ≤ 1000000; rw [List.length_map]; have := HTB.out; omega) (by omega) ?_; intro vt7 w7 hR7; clear hR3 LN; replace hR7 := app_told hR7))
              go_roundg (gk - 1)
              case measure => have h := HMM.out; rw [if_neg (by omega), List.length_cons] at h; omega
              case rel => exact ⟨t ++ [e], q', 0, by have h := HMM.out; rw [if_neg (by omega), List.length_cons] at h; rw [if_neg (by omega)]; omega, by have h := HMM.out; have h2 := HTM.out; rw [if_neg (by omega), List.length_cons] at h; rw [List.length_append, List.length_singleton]; omega, HTT.out, hR7.sub (List.sublist_cons_self _ _)⟩
          | nil =>
            have hl00 : l = 0 := by
              have h2 := hinv.l0
              have h3 := hinv.lq
              by_cases h : 0 < l
              · have := h3 h
                simp at this
                omega
              · omega
            subst hl00
            obtain ⟨r, gz, hrun, hgz0, hgzm, hrm, hgr, _⟩ := hinv.trace
            rw [if_neg (by omega), List.append_nil, List.append_nil] at hrun
            have hgap : (∃ e ∈ t, e.2 = true) → fb = true := fun h => hinv.gap (.inl (by rw [List.append_nil]; exact h))
            have hpos : ∀ e ∈ t, 1 ≤ e.1 := fun e he => hinv.pos e (by rw [List.append_nil]; exact he)
            obtain ⟨W, hW⟩ : ∃ W, wI kd n m = W := ⟨_, rfl⟩
            have hys := aQ0_pass kd n m
            rw [hW] at hrun hys
            have hal : (aQ 0 m).length ≤ 1000 := by rw [aQ0_len]; have := HM1.out; omega
            have hwl : W.length ≤ 1000 := by have := congrArg List.length hys; rw [List.length_map] at this; have h2 := List.length_filter_le (passV kd n) (aQ 0 m); omega
            have htl : t.length ≤ 200 := by omega
            have HRUN := Lib.hid hrun
            have HGR := Lib.hid hgr
            have HGAP := Lib.hid hgap
            have HPOS := Lib.hid hpos
            have HYS := Lib.hid hys
            have HAL := Lib.hid hal
            have hwz : ((W.map chf).length : Int) = (W.length : Int) := by rw [List.length_map]
            have htz : ((t.map toE).length : Int) = (t.length : Int) := by rw [List.length_map]
            have hwn : (W.map chf).length = W.length := List.length_map ..
            have htn : (t.map toE).length = t.length := List.length_map ..
            have HWN := Lib.hid hwn
            have HTN := Lib.hid htn
            have hwl1 : (W.length : Int) ≤ 1000 := by omega
            have htl1 : (t.length : Int) ≤ 200 := by omega
            obtain ⟨pt, ct, rfl⟩ := row_form KN hR.sr 0 rfl
            clear hrun hgz0 hgzm hrm hgr hgap hpos hW hys hal hmm htm hinv hqr h64 h1 hwn htn
            go_wp2_with (first
              | (go_at_call 11; refine (flen_any (m := 0) hR rfl).mono ?_; rintro e w7 ⟨rfl, hR1⟩; clear hR; have hSt := hR1.sr.st.sub (List.sublist_cons_self _ _))
              | (go_at_call 13; refine (Pick_any kd n (hR1.sr.permR (List.Perm.swap _ _ _)) HAL.out).mono ?_; rintro e w2 ⟨v2, rfl, hO, hB⟩; rw [HYS.out] at hO; have hR2 := hR1.call_row hB ⟨v2, 38, 11, (W.map chf).length, KC.flat (W.map chf)⟩ hO; clear hR1 hSt hO hB; obtain ⟨pw, cw, rfl⟩ := row_form KC hR2.sr 0 rfl))
            go_loopg [19, 20, 21] t.length (fun mm atv gv iv wr => ∃ (i a1 : Nat) (g : Int), mm + i = t.length ∧ iv = .int .i64 (i : Int) ∧ atv = .int .i64 (a1 : Int) ∧ gv = .int .i64 g ∧ a1 ≤ W.length ∧ run (W.drop a1) g (t.drop i) = some (r, gz) ∧ RG KN w ((gf, 57, FC gr true kd n (m : Int) 0) :: [(w.heap.size + 1, 26, (#[.int .i64 kd, .int .i64 n] : Array Value)), (w.heap.size, 24, cfgCells c s)]) [⟨.slice pw (W.map chf).length cw, 38, 11, (W.map chf).length, KC.flat (W.map chf)⟩, ⟨.slice pt (t.map toE).length ct, 42, 12, (t.map toE).length, KN.flat (t.map toE)⟩, ⟨.slice pa (aQ 0 m).length ca, 38, 11, (aQ 0 m).length, KC.flat (aQ 0 m)⟩] gr room ([] : List (Int × (Nat → Int))) wr)
            case atStart => exact ⟨0, 0, 0, by omega, rfl, rfl, rfl, Nat.zero_le _, HRUN.out, hR2⟩
            case round =>
              clear hR2
              obtain ⟨i, a1, g, hi, rfl, rfl, rfl, ha1, hrun, hR⟩ := hrel
              have i0z : (0 : Int) ≤ (i : Int) := by omega
              have a1z : (0 : Int) ≤ (a1 : Int) := by omega
              by_cases hlt : i < t.length
              · have hltz : (i : Int) < (t.length : Int) := by omega
                obtain ⟨e, he⟩ : ∃ e, t[i]? = some e := ⟨_, List.getElem?_eq_getElem hlt⟩
                have hem : e ∈ t := List.mem_of_getElem? he
                have htd : t.drop i = e :: t.drop (i + 1) := by
                  have h2 : t[i] = e := by rw [List.getElem?_eq_getElem hlt] at he; injection he
                  rw [List.drop_eq_getElem_cons hlt, h2]
                have hte : (t.map toE)[i]? = some (toE e) := by rw [List.getElem?_map, he]; rfl
                rw [htd, run] at hrun
                cases hst : stepR (W.drop a1) g e with
                | none => rw [hst] at hrun; cases hrun
                | some rg =>
                  obtain ⟨r1, g1⟩ := rg
                  rw [hst] at hrun
                  simp only at hrun
                  have he1 := HPOS.out e hem
                  obtain ⟨gt, c1, hv1, hc1⟩ := row_at KN hR.sr 1 rfl hte
                  injection hv1 with hp1 h11 h12
                  subst hp1
                  clear h11 h12
                  have HI0 := Lib.hid hi
                  have HA1 := Lib.hid ha1
                  have HLT := Lib.hid hlt
                  have HRN := Lib.hid hrun
                  have HST := Lib.hid hst
                  have HEM := Lib.hid hem
                  clear hi ha1 hlt hrun hst hem htd hte he
                  obtain ⟨i0, b⟩ := e
                  cases b
                  · skip
                    obtain ⟨x, hx⟩ : ∃ x, chf i0 = x := ⟨_, rfl⟩
                    have hx0 : x 0 = i0 := by rw [← hx, chf_zero]
                    have hx1 : ¬ x 0 = 0 := by rw [hx0]; exact fun h => by have h1 : (1 : Int) ≤ i0 := he1; omega
                    have hxb : (x 0 == 0) = false := by simpa using hx1
                    have HX := Lib.hid hx
                    have HX0 := Lib.hid hx0
                    clear hx0
                    have hi0 : (1 : Int) ≤ i0 := he1
                    have ld : (loadBig 42 ⟨gt, i * 12, none⟩).run Try.prog wr = .ok (.agg (#[.int .i64 i0, .int .i64 (x 0), .int .i64 (x 1), .int .i64 (x 2), .int .i64 (x 3), .int .i64 (x 4), .int .i64 (x 5), .int .i64 (x 6), .int .i64 (x 7), .int .i64 (x 8), .int .i64 (x 9), .int .i64 (x 10)] : Array Value)) wr := big_mid 42 (#[.int .i64 i0, .int .i64 (x 0), .int .i64 (x 1), .int .i64 (x 2), .int .i64 (x 3), .int .i64 (x 4), .int .i64 (x 5), .int .i64 (x 6), .int .i64 (x 7), .int .i64 (x 8), .int .i64 (x 9), .int .i64 (x 10)] : Array Value) _ (fun j v hj => hc1 j v (by show (KN.ec (toE (i0, false)))[j]? = some v; unfold toE; rw [if_neg (by simp), hx]; exact hj)) Try.underlying42 rfl (by kernel_rfl)
                    clear hc1 he1 hx
                    go_wp2_with (first
                      | (refine store_newF hR rfl rfl 42 _ _ rfl 42 _ (#[.int .i64 i0, .int .i64 (x 0), .int .i64 (x 1), .int .i64 (x 2), .int .i64 (x 3), .int .i64 (x 4), .int .i64 (x 5), .int .i64 (x 6), .int .i64 (x 7), .int .i64 (x 8), .int .i64 (x 9), .int .i64 (x 10)] : Array Value) rfl rfl (by kernel_rfl) rfl (by simp [Value.oneCell']) ?_; intro w2 hR2 hlt2; generalize wr.heap.size = gy at hR2 hlt2 ⊢; clear hlt2 hR ld))
                    go_loopg [19] (W.length - a1) (fun mm atv wr => ∃ a2 : Nat, mm = W.length - a2 ∧ a2 ≤ W.length ∧ atv = .int .i64 (a2 : Int) ∧ stepR (W.drop a2) g (i0, false) = some (r1, g1) ∧ RG KN w ((gy, 42, (#[.int .i64 i0, .int .i64 (x 0), .int .i64 (x 1), .int .i64 (x 2), .int .i64 (x 3), .int .i64 (x 4), .int .i64 (x 5), .int .i64 (x 6), .int .i64 (x 7), .int .i64 (x 8), .int .i64 (x 9), .int .i64 (x 10)] : Array Value)) :: (gf, 57, FC gr true kd n (m : Int) 0) :: [(w.heap.size + 1, 26, (#[.int .i64 kd, .int .i64 n] : Array Value)), (w.heap.size, 24, cfgCells c s)]) [⟨.slice pw (W.map chf).length cw, 38, 11, (W.map chf).length, KC.flat (W.map chf)⟩, ⟨.slice (some ⟨gt, 0, none⟩) (t.map toE).length ct, 42, 12, (t.map toE).length, KN.flat (t.map toE)⟩, ⟨.slice pa (aQ 0 m).length ca, 38, 11, (aQ 0 m).length, KC.flat (aQ 0 m)⟩] gr room ([] : List (Int × (Nat → Int))) wr)
                    case atStart => exact ⟨a1, rfl, HA1.out, rfl, HST.out, hR2⟩
                    case round =>
                      clear hR2
                      obtain ⟨a2, hmm, ha2, rfl, hst, hR⟩ := hrel
                      have a2z : (0 : Int) ≤ (a2 : Int) := by omega
                      have hlt2 : a2 < W.length := by
                        rcases Nat.lt_or_ge a2 W.length with h | h
                        · exact h
                        · rw [List.drop_eq_nil_of_le h] at hst
                          unfold stepR at hst
                          by_cases h : 0 < g
                          · rw [if_pos h] at hst; cases hst
                          · rw [if_neg h] at hst; cases hst
                      have hlz2 : (a2 : Int) < (W.length : Int) := by omega
                      obtain ⟨a, ha⟩ : ∃ a, W[a2]? = some a := ⟨_, List.getElem?_eq_getElem hlt2⟩
                      have hwd : W.drop a2 = a :: W.drop (a2 + 1) := by
                        have h2 : W[a2] = a := by rw [List.getElem?_eq_getElem hlt2] at ha; injection ha
                        rw [List.drop_eq_getElem_cons hlt2, h2]
                      have hwe : (W.map chf)[a2]? = some (chf a) := by rw [List.getElem?_map, ha]; rfl
                      obtain ⟨gw, c2, hv2, hc2⟩ := row_at KC hR.sr 0 rfl hwe
                      injection hv2 with hp2 h21 h22
                      subst hp2
                      rw [hwd] at hst
                      obtain ⟨P, hPd⟩ : ∃ P : World → Prop, P = fun W' => RG KN w ((gy, 42, (#[.int .i64 i0, .int .i64 (x 0), .int .i64 (x 1), .int .i64 (x 2), .int .i64 (x 3), .int .i64 (x 4), .int .i64 (x 5), .int .i64 (x 6), .int .i64 (x 7), .int .i64 (x 8), .int .i64 (x 9), .int .i64 (x 10)] : Array Value)) :: (gf, 57, FC gr true kd n (m : Int) 0) :: [(w.heap.size + 1, 26, (#[.int .i64 kd, .int .i64 n] : Array Value)), (w.heap.size, 24, cfgCells c s)]) [⟨.slice (some ⟨gw, 0, none⟩) (W.map chf).length cw, 38, 11, (W.map chf).length, KC.flat (W.map chf)⟩, ⟨.slice (some ⟨gt, 0, none⟩) (t.map toE).length ct, 42, 12, (t.map toE).length, KN.flat (t.map toE)⟩, ⟨.slice pa (aQ 0 m).length ca, 38, 11, (aQ 0 m).length, KC.flat (aQ 0 m)⟩] gr room ([] : List (Int × (Nat → Int))) W' := ⟨_, rfl⟩
                      have HPB : RowKit.Hid (∀ W', PX P W' → RG KN w ((gy, 42, (#[.int .i64 i0, .int .i64 (x 0), .int .i64 (x 1), .int .i64 (x 2), .int .i64 (x 3), .int .i64 (x 4), .int .i64 (x 5), .int .i64 (x 6), .int .i64 (x 7), .int .i64 (x 8), .int .i64 (x 9), .int .i64 (x 10)] : Array Value)) :: (gf, 57, FC gr true kd n (m : Int) 0) :: [(w.heap.size + 1, 26, (#[.int .i64 kd, .int .i64 n] : Array Value)), (w.heap.size, 24, cfgCells c s)]) [⟨.slice (some ⟨gw, 0, none⟩) (W.map chf).length cw, 38, 11, (W.map chf).length, KC.flat (W.map chf)⟩, ⟨.slice (some ⟨gt, 0, none⟩) (t.map toE).length ct, 42, 12, (t.map toE).length, KN.flat (t.map toE)⟩, ⟨.slice pa (aQ 0 m).length ca, 38, 11, (aQ 0 m).length, KC.flat (aQ 0 m)⟩] gr room ([] : List (Int × (Nat → Int))) W') := by show ∀ W', P W' → _; rw [hPd]; exact fun _ h => h
                      have HPD : RowKit.Hid (∀ W', PX P W' → PX P W'.drew) := by show ∀ W', P W' → P W'.drew; rw [hPd]; exact fun _ h => h.drewN 1
                      have hRw : PX P wr := by show P wr; rw [hPd]; exact hR
                      have hRd := HPD.out _ hRw
                      have hwc : ∀ W', PX P W' → ∀ j v, (CC (chf a)).toList[j]? = some v → W'.cell? ⟨gw, a2 * 11 + j, none⟩ = some v := fun W' hW j v hj => by
                        obtain ⟨g3, c3, hv3, hc3⟩ := row_at KC (HPB.out W' hW).sr 0 rfl hwe
                        injection hv3 with hp3 _ _
                        injection hp3 with hp3
                        injection hp3 with hp3
                        rw [hp3]
                        exact hc3 j v hj
                      have HWC := Lib.hid hwc
                      have y0 : ∀ W', PX P W' → W'.cell? ⟨gy, 0, none⟩ = some (.int .i64 i0) := fun W' hW => ((HPB.out W' hW).sr.st.get 0 rfl).cell 0
                      have w0c : ∀ W', PX P W' → W'.cell? ⟨gw, a2 * 11, none⟩ = some (.int .i64 a) := fun W' hW => by have h := HWC.out W' hW 0 _ rfl; rw [chf_zero] at h; exact h
                      clear hPd hR hwc hRw
                      have HA2 := Lib.hid ha2
                      have HM2 := Lib.hid hmm
                      have HLT2 := Lib.hid hlt2
                      have HWD := Lib.hid hwd
                      clear ha hwe h21 h22 hmm ha2 hlt2
                      by_cases hgo : 0 < g ∧ ¬ a = i0
                      · have hg0 := hgo.1
                        have hane := hgo.2
                        have haneb : (a == i0) = false := by simpa using hane
                        have hanen : (a != i0) = true := by rw [bne_iff_ne]; exact hane
                        have hst2 : stepR (W.drop (a2 + 1)) g (i0, false) = some (r1, g1) := by
                          unfold stepR at hst ⊢
                          rw [if_pos hg0] at hst ⊢
                          rw [List.dropWhile_cons, if_pos (by simpa using hane)] at hst
                          exact hst
                        have HS2 := Lib.hid hst2
                        clear hst hst2 hc2 hwd hgo
                        go_wp2_with fail
                        refine wp_region_held_drew (S := PX P) (by kernel_rfl) hRd (fun hHeld => ?_)
                        refine wpAnyH_take (i := 0) (oi := { dst := some 128, op := Op.move (Operand.tmp 20), type := 3, pos := "own.go:48", after := #[], guard := none }) (v := ?_) rfl (by kernel_rfl) (by kernel_rfl) (by kernel_rfl) (fun _ _ _ h => h) (Or.inl ⟨by kernel_rfl, ?_⟩) (by assumption) ?_; rotate_left; (focus (intro W hSw; go_simp; try with_reducible rfl)); try simp only [Act.put, sT, s0, sS]
                        refine wpAnyH_take (i := 1) (oi := { dst := some 129, op := Op.binOp BinOp.gtr 3 (Operand.tmp 128) (Operand.const (Value.int IntKind.i64 0)) 3, type := 4, pos := "own.go:48", after := #[{ on := 0, ground := Ground.data }], guard := none }) (v := ?_) rfl (by kernel_rfl) (by kernel_rfl) (by kernel_rfl) (fun _ _ _ h => h) (Or.inl ⟨by kernel_rfl, ?_⟩) (by assumption) ?_; rotate_left; (focus (intro W hSw; go_simp; try with_reducible rfl)); try simp only [Act.put, sT, s0, sS]
                        refine wpAnyH_take (i := 2) (oi := { dst := some 130, op := Op.move (Operand.tmp 129), type := 4, pos := "own.go:48", after := #[{ on := 1, ground := Ground.data }], guard := none }) (v := ?_) rfl (by kernel_rfl) (by kernel_rfl) (by kernel_rfl) (fun _ _ _ h => h) (Or.inl ⟨by kernel_rfl, ?_⟩) (by assumption) ?_; rotate_left; (focus (intro W hSw; go_simp; try with_reducible rfl)); try simp only [Act.put, sT, s0, sS]
                        refine wpAnyH_take (i := 3) (oi := { dst := some 131, op := Op.move (Operand.tmp 19), type := 3, pos := "own.go:48", after := #[{ on := 2, ground := Ground.guard }], guard := some (2, true) }) (v := ?_) rfl (by kernel_rfl) (by kernel_rfl) (by kernel_rfl) (fun _ _ _ h => h) (Or.inl ⟨by kernel_rfl, ?_⟩) (by assumption) ?_; rotate_left; (focus (intro W hSw; go_simp; try with_reducible rfl)); try simp only [Act.put, sT, s0, sS]
                        refine wpAnyH_take (i := 4) (oi := { dst := some 132, op := Op.move (Operand.tmp 18), type := 32, pos := "own.go:48", after := #[{ on := 2, ground := Ground.guard }], guard := some (2, true) }) (v := ?_) rfl (by kernel_rfl) (by kernel_rfl) (by kernel_rfl) (fun _ _ _ h => h) (Or.inl ⟨by kernel_rfl, ?_⟩) (by assumption) ?_; rotate_left; (focus (intro W hSw; go_simp; try with_reducible rfl)); try simp only [Act.put, sT, s0, sS]
                        refine wpAnyH_take (i := 5) (oi := { dst := some 133, op := Op.call { callee := Callee.builtin Builtin.len, args := #[Operand.tmp 132], argTypes := #[32] }, type := 3, pos := "own.go:48", after := #[{ on := 4, ground := Ground.data }, { on := 2, ground := Ground.guard }], guard := some (2, true) }) (v := ?_) rfl (by kernel_rfl) (by kernel_rfl) (by kernel_rfl) (fun _ _ _ h => h) (Or.inl ⟨by kernel_rfl, ?_⟩) (by assumption) ?_; rotate_left; (focus (intro W hSw; go_simp; try with_reducible rfl)); try simp only [Act.put, sT, s0, sS]
                        refine wpAnyH_take (i := 6) (oi := { dst := some 134, op := Op.binOp BinOp.lss 3 (Operand.tmp 131) (Operand.tmp 133) 3, type := 4, pos := "own.go:48", after := #[{ on := 3, ground := Ground.data }, { on := 5, ground := Ground.data }, { on := 2, ground := Ground.guard }], guard := some (2, true) }) (v := ?_) rfl (by kernel_rfl) (by kernel_rfl) (by kernel_rfl) (fun _ _ _ h => h) (Or.inl ⟨by kernel_rfl, ?_⟩) (by assumption) ?_; rotate_left; (focus (intro W hSw; go_simp; try with_reducible rfl)); try simp only [Act.put, sT, s0, sS]
                        refine wpAnyH_take (i := 7) (oi := { dst := some 135, op := Op.pick (Operand.tmp 130) (Operand.tmp 134) (Operand.const (Value.bool false)), type := 4, pos := "own.go:48", after := #[{ on := 2, ground := Ground.data }, { on := 6, ground := Ground.data }], guard := none }) (v := ?_) rfl (by kernel_rfl) (by kernel_rfl) (by kernel_rfl) (fun _ _ _ h => h) (Or.inl ⟨by kernel_rfl, ?_⟩) (by assumption) ?_; rotate_left; (focus (intro W hSw; go_simp; try with_reducible rfl)); try simp only [Act.put, sT, s0, sS]
                        refine wpAnyH_take (i := 8) (oi := { dst := some 136, op := Op.move (Operand.tmp 135), type := 4, pos := "own.go:48", after := #[{ on := 7, ground := Ground.data }, { on := 2, ground := Ground.chain }], guard := none }) (v := ?_) rfl (by kernel_rfl) (by kernel_rfl) (by kernel_rfl) (fun _ _ _ h => h) (Or.inl ⟨by kernel_rfl, ?_⟩) (by assumption) ?_; rotate_left; (focus (intro W hSw; go_simp; try with_reducible rfl)); try simp only [Act.put, sT, s0, sS]
                        refine wpAnyH_take (i := 9) (oi := { dst := some 137, op := Op.move (Operand.tmp 18), type := 32, pos := "own.go:48", after := #[{ on := 8, ground := Ground.guard }], guard := some (8, true) }) (v := ?_) rfl (by kernel_rfl) (by kernel_rfl) (by kernel_rfl) (fun _ _ _ h => h) (Or.inl ⟨by kernel_rfl, ?_⟩) (by assumption) ?_; rotate_left; (focus (intro W hSw; go_simp; try with_reducible rfl)); try simp only [Act.put, sT, s0, sS]
                        refine wpAnyH_take (i := 10) (oi := { dst := some 138, op := Op.move (Operand.tmp 19), type := 3, pos := "own.go:48", after := #[{ on := 8, ground := Ground.guard }], guard := some (8, true) }) (v := ?_) rfl (by kernel_rfl) (by kernel_rfl) (by kernel_rfl) (fun _ _ _ h => h) (Or.inl ⟨by kernel_rfl, ?_⟩) (by assumption) ?_; rotate_left; (focus (intro W hSw; go_simp; try with_reducible rfl)); try simp only [Act.put, sT, s0, sS]
                        refine wpAnyH_take (i := 11) (oi := { dst := some 139, op := Op.indexAddr 32 (Operand.tmp 137) (Operand.tmp 138), type := 0, pos := "own.go:48", after := #[{ on := 9, ground := Ground.data }, { on := 10, ground := Ground.data }, { on := 8, ground := Ground.guard }], guard := some (8, true) }) (v := ?_) rfl (by kernel_rfl) (by kernel_rfl) (by kernel_rfl) (fun _ _ _ h => h) (Or.inl ⟨by kernel_rfl, ?_⟩) (by assumption) ?_; rotate_left; (focus (intro W hSw; go_simp; try with_reducible rfl)); try simp only [Act.put, sT, s0, sS]
                        refine wpAnyH_take (i := 12) (oi := { dst := some 140, op := Op.fieldAddr 38 (Operand.tmp 139) 0, type := 0, pos := "own.go:48", after := #[{ on := 11, ground := Ground.data }, { on := 8, ground := Ground.guard }], guard := some (8, true) }) (v := ?_) rfl (by kernel_rfl) (by kernel_rfl) (by kernel_rfl) (fun _ _ _ h => h) (Or.inl ⟨by kernel_rfl, ?_⟩) (by assumption) ?_; rotate_left; (focus (intro W hSw; go_simp; try with_reducible rfl)); try simp only [Act.put, sT, s0, sS]
                        refine wpAnyH_take (i := 13) (oi := { dst := some 141, op := Op.load 3 (Operand.tmp 140), type := 3, pos := "own.go:48", after := #[{ on := 12, ground := Ground.data }, { on := 8, ground := Ground.guard }], guard := some (8, true) }) (v := ?_) rfl (by kernel_rfl) (by kernel_rfl) (by kernel_rfl) (fun _ _ _ h => h) (Or.inl ⟨by kernel_rfl, ?_⟩) (by assumption) ?_; rotate_left; (focus (intro W hSw; go_simp; try with_reducible rfl)); try simp only [Act.put, sT, s0, sS]
                        refine wpAnyH_take (i := 14) (oi := { dst := some 142, op := Op.fieldAddr 42 (Operand.tmp 22) 0, type := 0, pos := "own.go:48", after := #[{ on := 8, ground := Ground.guard }], guard := some (8, true) }) (v := ?_) rfl (by kernel_rfl) (by kernel_rfl) (by kernel_rfl) (fun _ _ _ h => h) (Or.inl ⟨by kernel_rfl, ?_⟩) (by assumption) ?_; rotate_left; (focus (intro W hSw; go_simp; try with_reducible rfl)); try simp only [Act.put, sT, s0, sS]
                        refine wpAnyH_take (i := 15) (oi := { dst := some 143, op := Op.load 3 (Operand.tmp 142), type := 3, pos := "own.go:48", after := #[{ on := 14, ground := Ground.data }, { on := 8, ground := Ground.guard }], guard := some (8, true) }) (v := ?_) rfl (by kernel_rfl) (by kernel_rfl) (by kernel_rfl) (fun _ _ _ h => h) (Or.inl ⟨by kernel_rfl, ?_⟩) (by assumption) ?_; rotate_left; (focus (intro W hSw; go_simp; try with_reducible rfl)); try simp only [Act.put, sT, s0, sS]
                        refine wpAnyH_take (i := 16) (oi := { dst := some 144, op := Op.binOp BinOp.neq 3 (Operand.tmp 141) (Operand.tmp 143) 3, type := 4, pos := "own.go:48", after := #[{ on := 13, ground := Ground.data }, { on := 15, ground := Ground.data }, { on := 8, ground := Ground.guard }], guard := some (8, true) }) (v := ?_) rfl (by kernel_rfl) (by kernel_rfl) (by kernel_rfl) (fun _ _ _ h => h) (Or.inl ⟨by kernel_rfl, ?_⟩) (by assumption) ?_; rotate_left; (focus (intro W hSw; go_simp; try with_reducible rfl)); try simp only [Act.put, sT, s0, sS]
                        refine wpAnyH_take (i := 17) (oi := { dst := some 145, op := Op.pick (Operand.tmp 136) (Operand.tmp 144) (Operand.const (Value.bool false)), type := 4, pos := "own.go:48", after := #[{ on := 8, ground := Ground.data }, { on := 16, ground := Ground.data }], guard := none }) (v := ?_) rfl (by kernel_rfl) (by kernel_rfl) (by kernel_rfl) (fun _ _ _ h => h) (Or.inl ⟨by kernel_rfl, ?_⟩) (by assumption) ?_; rotate_left; (focus (intro W hSw; go_simp; try with_reducible rfl)); try simp only [Act.put, sT, s0, sS]
                        refine wpAnyH_done (by kernel_rfl) ?_ _
                        go_wp2_with fail
                        go_roundg (gk - 1)
                        case measure => have := HM2.out; have := HLT2.out; omega
                        case rel => exact ⟨a2 + 1, by have := HM2.out; have := HLT2.out; omega, HLT2.out, by go_num, HS2.out, HPB.out _ hHeld⟩
                      have hst3 : stepT (a :: W.drop (a2 + 1)) g (i0, false) = some (r1, g1) := by
                        unfold stepR at hst
                        by_cases hg0 : 0 < g
                        · rw [if_pos hg0] at hst
                          have hai : a = i0 := by
                            by_cases h : a = i0
                            · exact h
                            · exact absurd ⟨hg0, h⟩ hgo
                          rw [List.dropWhile_cons, if_neg (by simp [hai])] at hst
                          exact hst
                        · rw [if_neg hg0] at hst
                          exact hst
                      have hst4 : a = i0 ∧ g < i0 ∧ (r1, g1) = (W.drop (a2 + 1), 0) := by
                        unfold stepT at hst3
                        simp only at hst3
                        by_cases h : a = i0 ∧ g < i0
                        · rw [if_pos h] at hst3
                          injection hst3 with hst3
                          exact ⟨h.1, h.2, hst3.symm⟩
                        · rw [if_neg h] at hst3; cases hst3
                      obtain ⟨rfl, hgi, hrr⟩ := hst4
                      injection hrr with hr1 hg1
                      have hgn : ¬ a ≤ g := by omega
                      have hR1 := Lib.hid hr1
                      have hG1 := Lib.hid hg1
                      clear hst hst3 hr1 hg1 hwd hgo
                      have l1 : ∀ W', PX P W' → (loadBig 38 ⟨gy, 1, none⟩).run Try.prog W' = .ok (.agg (CC x)) W' := fun W' hW => big_mid 38 (CC x) _ (fun j v hj => (((HPB.out W' hW).sr.st.get 0 rfl).cell (1 + j)).trans (by rw [Nat.add_comm 1 j, ← Array.getElem?_toList]; exact hj)) Try.underlying38 rfl (by kernel_rfl)
                      have l2 : ∀ W', PX P W' → (loadBig 38 ⟨gw, a2 * 11, none⟩).run Try.prog W' = .ok (.agg (CC x)) W' := fun W' hW => big_mid 38 (CC x) _ (fun j v hj => HWC.out W' hW j v (by rw [HX.out]; exact hj)) Try.underlying38 rfl (by kernel_rfl)
                      have y1 : ∀ W', PX P W' → W'.cell? ⟨gy, 1, none⟩ = some (.int .i64 a) := fun W' hW => by have h := ((HPB.out W' hW).sr.st.get 0 rfl).cell 1; rw [← HX0.out]; exact h
                      have hnge : ¬ (W.length : Int) ≤ (a2 : Int) := by omega
                      have hnge2 : ¬ W.length ≤ a2 := by omega
                      clear hc2
                      by_cases hg0 : 0 < g
                      · have hgb : decide (0 < g) = true := decide_eq_true hg0
                        go_wp2_with fail
                        refine wp_region_held_drew (S := PX P) (by kernel_rfl) hRd (fun hHeld => ?_)
                        refine wpAnyH_take (i := 0) (oi := { dst := some 128, op := Op.move (Operand.tmp 20), type := 3, pos := "own.go:48", after := #[], guard := none }) (v := ?_) rfl (by kernel_rfl) (by kernel_rfl) (by kernel_rfl) (fun _ _ _ h => h) (Or.inl ⟨by kernel_rfl, ?_⟩) (by assumption) ?_; rotate_left; (focus (intro W hSw; go_simp; try with_reducible rfl)); try simp only [Act.put, sT, s0, sS]
                        refine wpAnyH_take (i := 1) (oi := { dst := some 129, op := Op.binOp BinOp.gtr 3 (Operand.tmp 128) (Operand.const (Value.int IntKind.i64 0)) 3, type := 4, pos := "own.go:48", after := #[{ on := 0, ground := Ground.data }], guard := none }) (v := ?_) rfl (by kernel_rfl) (by kernel_rfl) (by kernel_rfl) (fun _ _ _ h => h) (Or.inl ⟨by kernel_rfl, ?_⟩) (by assumption) ?_; rotate_left; (focus (intro W hSw; go_simp; try with_reducible rfl)); try simp only [Act.put, sT, s0, sS]
                        refine wpAnyH_take (i := 2) (oi := { dst := some 130, op := Op.move (Operand.tmp 129), type := 4, pos := "own.go:48", after := #[{ on := 1, ground := Ground.data }], guard := none }) (v := ?_) rfl (by kernel_rfl) (by kernel_rfl) (by kernel_rfl) (fun _ _ _ h => h) (Or.inl ⟨by kernel_rfl, ?_⟩) (by assumption) ?_; rotate_left; (focus (intro W hSw; go_simp; try with_reducible rfl)); try simp only [Act.put, sT, s0, sS]
                        refine wpAnyH_take (i := 3) (oi := { dst := some 131, op := Op.move (Operand.tmp 19), type := 3, pos := "own.go:48", after := #[{ on := 2, ground := Ground.guard }], guard := some (2, true) }) (v := ?_) rfl (by kernel_rfl) (by kernel_rfl) (by kernel_rfl) (fun _ _ _ h => h) (Or.inl ⟨by kernel_rfl, ?_⟩) (by assumption) ?_; rotate_left; (focus (intro W hSw; go_simp; try with_reducible rfl)); try simp only [Act.put, sT, s0, sS]
                        refine wpAnyH_take (i := 4) (oi := { dst := some 132, op := Op.move (Operand.tmp 18), type := 32, pos := "own.go:48", after := #[{ on := 2, ground := Ground.guard }], guard := some (2, true) }) (v := ?_) rfl (by kernel_rfl) (by kernel_rfl) (by kernel_rfl) (fun _ _ _ h => h) (Or.inl ⟨by kernel_rfl, ?_⟩) (by assumption) ?_; rotate_left; (focus (intro W hSw; go_simp; try with_reducible rfl)); try simp only [Act.put, sT, s0, sS]
                        refine wpAnyH_take (i := 5) (oi := { dst := some 133, op := Op.call { callee := Callee.builtin Builtin.len, args := #[Operand.tmp 132], argTypes := #[32] }, type := 3, pos := "own.go:48", after := #[{ on := 4, ground := Ground.data }, { on := 2, ground := Ground.guard }], guard := some (2, true) }) (v := ?_) rfl (by kernel_rfl) (by kernel_rfl) (by kernel_rfl) (fun _ _ _ h => h) (Or.inl ⟨by kernel_rfl, ?_⟩) (by assumption) ?_; rotate_left; (focus (intro W hSw; go_simp; try with_reducible rfl)); try simp only [Act.put, sT, s0, sS]
                        refine wpAnyH_take (i := 6) (oi := { dst := some 134, op := Op.binOp BinOp.lss 3 (Operand.tmp 131) (Operand.tmp 133) 3, type := 4, pos := "own.go:48", after := #[{ on := 3, ground := Ground.data }, { on := 5, ground := Ground.data }, { on := 2, ground := Ground.guard }], guard := some (2, true) }) (v := ?_) rfl (by kernel_rfl) (by kernel_rfl) (by kernel_rfl) (fun _ _ _ h => h) (Or.inl ⟨by kernel_rfl, ?_⟩) (by assumption) ?_; rotate_left; (focus (intro W hSw; go_simp; try with_reducible rfl)); try simp only [Act.put, sT, s0, sS]
                        refine wpAnyH_take (i := 7) (oi := { dst := some 135, op := Op.pick (Operand.tmp 130) (Operand.tmp 134) (Operand.const (Value.bool false)), type := 4, pos := "own.go:48", after := #[{ on := 2, ground := Ground.data }, { on := 6, ground := Ground.data }], guard := none }) (v := ?_) rfl (by kernel_rfl) (by kernel_rfl) (by kernel_rfl) (fun _ _ _ h => h) (Or.inl ⟨by kernel_rfl, ?_⟩) (by assumption) ?_; rotate_left; (focus (intro W hSw; go_simp; try with_reducible rfl)); try simp only [Act.put, sT, s0, sS]
                        refine wpAnyH_take (i := 8) (oi := { dst := some 136, op := Op.move (Operand.tmp 135), type := 4, pos := "own.go:48", after := #[{ on := 7, ground := Ground.data }, { on := 2, ground := Ground.chain }], guard := none }) (v := ?_) rfl (by kernel_rfl) (by kernel_rfl) (by kernel_rfl) (fun _ _ _ h => h) (Or.inl ⟨by kernel_rfl, ?_⟩) (by assumption) ?_; rotate_left; (focus (intro W hSw; go_simp; try with_reducible rfl)); try simp only [Act.put, sT, s0, sS]
                        refine wpAnyH_take (i := 9) (oi := { dst := some 137, op := Op.move (Operand.tmp 18), type := 32, pos := "own.go:48", after := #[{ on := 8, ground := Ground.guard }], guard := some (8, true) }) (v := ?_) rfl (by kernel_rfl) (by kernel_rfl) (by kernel_rfl) (fun _ _ _ h => h) (Or.inl ⟨by kernel_rfl, ?_⟩) (by assumption) ?_; rotate_left; (focus (intro W hSw; go_simp; try with_reducible rfl)); try simp only [Act.put, sT, s0, sS]
                        refine wpAnyH_take (i := 10) (oi := { dst := some 138, op := Op.move (Operand.tmp 19), type := 3, pos := "own.go:48", after := #[{ on := 8, ground := Ground.guard }], guard := some (8, true) }) (v := ?_) rfl (by kernel_rfl) (by kernel_rfl) (by kernel_rfl) (fun _ _ _ h => h) (Or.inl ⟨by kernel_rfl, ?_⟩) (by assumption) ?_; rotate_left; (focus (intro W hSw; go_simp; try with_reducible rfl)); try simp only [Act.put, sT, s0, sS]
                        refine wpAnyH_take (i := 11) (oi := { dst := some 139, op := Op.indexAddr 32 (Operand.tmp 137) (Operand.tmp 138), type := 0, pos := "own.go:48", after := #[{ on := 9, ground := Ground.data }, { on := 10, ground := Ground.data }, { on := 8, ground := Ground.guard }], guard := some (8, true) }) (v := ?_) rfl (by kernel_rfl) (by kernel_rfl) (by kernel_rfl) (fun _ _ _ h => h) (Or.inl ⟨by kernel_rfl, ?_⟩) (by assumption) ?_; rotate_left; (focus (intro W hSw; go_simp; try with_reducible rfl)); try simp only [Act.put, sT, s0, sS]
                        refine wpAnyH_take (i := 12) (oi := { dst := some 140, op := Op.fieldAddr 38 (Operand.tmp 139) 0, type := 0, pos := "own.go:48", after := #[{ on := 11, ground := Ground.data }, { on := 8, ground := Ground.guard }], guard := some (8, true) }) (v := ?_) rfl (by kernel_rfl) (by kernel_rfl) (by kernel_rfl) (fun _ _ _ h => h) (Or.inl ⟨by kernel_rfl, ?_⟩) (by assumption) ?_; rotate_left; (focus (intro W hSw; go_simp; try with_reducible rfl)); try simp only [Act.put, sT, s0, sS]
                        refine wpAnyH_take (i := 13) (oi := { dst := some 141, op := Op.load 3 (Operand.tmp 140), type := 3, pos := "own.go:48", after := #[{ on := 12, ground := Ground.data }, { on := 8, ground := Ground.guard }], guard := some (8, true) }) (v := ?_) rfl (by kernel_rfl) (by kernel_rfl) (by kernel_rfl) (fun _ _ _ h => h) (Or.inl ⟨by kernel_rfl, ?_⟩) (by assumption) ?_; rotate_left; (focus (intro W hSw; go_simp; try with_reducible rfl)); try simp only [Act.put, sT, s0, sS]
                        refine wpAnyH_take (i := 14) (oi := { dst := some 142, op := Op.fieldAddr 42 (Operand.tmp 22) 0, type := 0, pos := "own.go:48", after := #[{ on := 8, ground := Ground.guard }], guard := some (8, true) }) (v := ?_) rfl (by kernel_rfl) (by kernel_rfl) (by kernel_rfl) (fun _ _ _ h => h) (Or.inl ⟨by kernel_rfl, ?_⟩) (by assumption) ?_; rotate_left; (focus (intro W hSw; go_simp; try with_reducible rfl)); try simp only [Act.put, sT, s0, sS]
                        refine wpAnyH_take (i := 15) (oi := { dst := some 143, op := Op.load 3 (Operand.tmp 142), type := 3, pos := "own.go:48", after := #[{ on := 14, ground := Ground.data }, { on := 8, ground := Ground.guard }], guard := some (8, true) }) (v := ?_) rfl (by kernel_rfl) (by kernel_rfl) (by kernel_rfl) (fun _ _ _ h => h) (Or.inl ⟨by kernel_rfl, ?_⟩) (by assumption) ?_; rotate_left; (focus (intro W hSw; go_simp; try with_reducible rfl)); try simp only [Act.put, sT, s0, sS]
                        refine wpAnyH_take (i := 16) (oi := { dst := some 144, op := Op.binOp BinOp.neq 3 (Operand.tmp 141) (Operand.tmp 143) 3, type := 4, pos := "own.go:48", after := #[{ on := 13, ground := Ground.data }, { on := 15, ground := Ground.data }, { on := 8, ground := Ground.guard }], guard := some (8, true) }) (v := ?_) rfl (by kernel_rfl) (by kernel_rfl) (by kernel_rfl) (fun _ _ _ h => h) (Or.inl ⟨by kernel_rfl, ?_⟩) (by assumption) ?_; rotate_left; (focus (intro W hSw; go_simp; try with_reducible rfl)); try simp only [Act.put, sT, s0, sS]
                        refine wpAnyH_take (i := 17) (oi := { dst := some 145, op := Op.pick (Operand.tmp 136) (Operand.tmp 144) (Operand.const (Value.bool false)), type := 4, pos := "own.go:48", after := #[{ on := 8, ground := Ground.data }, { on := 16, ground := Ground.data }], guard := none }) (v := ?_) rfl (by kernel_rfl) (by kernel_rfl) (by kernel_rfl) (fun _ _ _ h => h) (Or.inl ⟨by kernel_rfl, ?_⟩) (by assumption) ?_; rotate_left; (focus (intro W hSw; go_simp; try with_reducible rfl)); try simp only [Act.put, sT, s0, sS]
                        refine wpAnyH_done (by kernel_rfl) ?_ _
                        go_wp2_with fail
                        have hRe := HPD.out _ hHeld
                        refine wp_region_held_drew (S := PX P) (by kernel_rfl) hRe (fun hHeld => ?_)
                        refine wpAnyH_take (i := 0) (oi := { dst := some 178, op := Op.move (Operand.tmp 19), type := 3, pos := "own.go:59", after := #[], guard := none }) (v := ?_) rfl (by kernel_rfl) (by kernel_rfl) (by kernel_rfl) (fun _ _ _ h => h) (Or.inl ⟨by kernel_rfl, ?_⟩) (by assumption) ?_; rotate_left; (focus (intro W hSw; go_simp; try with_reducible rfl)); try simp only [Act.put, sT, s0, sS]
                        refine wpAnyH_take (i := 1) (oi := { dst := some 179, op := Op.move (Operand.tmp 18), type := 32, pos := "own.go:59", after := #[], guard := none }) (v := ?_) rfl (by kernel_rfl) (by kernel_rfl) (by kernel_rfl) (fun _ _ _ h => h) (Or.inl ⟨by kernel_rfl, ?_⟩) (by assumption) ?_; rotate_left; (focus (intro W hSw; go_simp; try with_reducible rfl)); try simp only [Act.put, sT, s0, sS]
                        refine wpAnyH_take (i := 2) (oi := { dst := some 180, op := Op.call { callee := Callee.builtin Builtin.len, args := #[Operand.tmp 179], argTypes := #[32] }, type := 3, pos := "own.go:59", after := #[{ on := 1, ground := Ground.data }], guard := none }) (v := ?_) rfl (by kernel_rfl) (by kernel_rfl) (by kernel_rfl) (fun _ _ _ h => h) (Or.inl ⟨by kernel_rfl, ?_⟩) (by assumption) ?_; rotate_left; (focus (intro W hSw; go_simp; try with_reducible rfl)); try simp only [Act.put, sT, s0, sS]
                        refine wpAnyH_take (i := 3) (oi := { dst := some 181, op := Op.binOp BinOp.geq 3 (Operand.tmp 178) (Operand.tmp 180) 3, type := 4, pos := "own.go:59", after := #[{ on := 0, ground := Ground.data }, { on := 2, ground := Ground.data }], guard := none }) (v := ?_) rfl (by kernel_rfl) (by kernel_rfl) (by kernel_rfl) (fun _ _ _ h => h) (Or.inl ⟨by kernel_rfl, ?_⟩) (by assumption) ?_; rotate_left; (focus (intro W hSw; go_simp; try with_reducible rfl)); try simp only [Act.put, sT, s0, sS]
                        refine wpAnyH_take (i := 4) (oi := { dst := some 182, op := Op.move (Operand.tmp 181), type := 4, pos := "own.go:59", after := #[{ on := 3, ground := Ground.data }], guard := none }) (v := ?_) rfl (by kernel_rfl) (by kernel_rfl) (by kernel_rfl) (fun _ _ _ h => h) (Or.inl ⟨by kernel_rfl, ?_⟩) (by assumption) ?_; rotate_left; (focus (intro W hSw; go_simp; try with_reducible rfl)); try simp only [Act.put, sT, s0, sS]
                        refine wpAnyH_take (i := 5) (oi := { dst := some 183, op := Op.move (Operand.tmp 18), type := 32, pos := "own.go:59", after := #[{ on := 4, ground := Ground.guard }], guard := some (4, false) }) (v := ?_) rfl (by kernel_rfl) (by kernel_rfl) (by kernel_rfl) (fun _ _ _ h => h) (Or.inl ⟨by kernel_rfl, ?_⟩) (by assumption) ?_; rotate_left; (focus (intro W hSw; go_simp; try with_reducible rfl)); try simp only [Act.put, sT, s0, sS]
                        refine wpAnyH_take (i := 6) (oi := { dst := some 184, op := Op.move (Operand.tmp 19), type := 3, pos := "own.go:59", after := #[{ on := 4, ground := Ground.guard }], guard := some (4, false) }) (v := ?_) rfl (by kernel_rfl) (by kernel_rfl) (by kernel_rfl) (fun _ _ _ h => h) (Or.inl ⟨by kernel_rfl, ?_⟩) (by assumption) ?_; rotate_left; (focus (intro W hSw; go_simp; try with_reducible rfl)); try simp only [Act.put, sT, s0, sS]
                        refine wpAnyH_take (i := 7) (oi := { dst := some 185, op := Op.indexAddr 32 (Operand.tmp 183) (Operand.tmp 184), type := 0, pos := "own.go:59", after := #[{ on := 5, ground := Ground.data }, { on := 6, ground := Ground.data }, { on := 4, ground := Ground.guard }], guard := some (4, false) }) (v := ?_) rfl (by kernel_rfl) (by kernel_rfl) (by kernel_rfl) (fun _ _ _ h => h) (Or.inl ⟨by kernel_rfl, ?_⟩) (by assumption) ?_; rotate_left; (focus (intro W hSw; go_simp; try with_reducible rfl)); try simp only [Act.put, sT, s0, sS]
                        refine wpAnyH_take (i := 8) (oi := { dst := some 186, op := Op.load 38 (Operand.tmp 185), type := 38, pos := "own.go:59", after := #[{ on := 7, ground := Ground.data }, { on := 4, ground := Ground.guard }], guard := some (4, false) }) (v := ?_) rfl (by kernel_rfl) (by kernel_rfl) (by kernel_rfl) (fun _ _ _ h => h) (Or.inl ⟨by kernel_rfl, ?_⟩) (by assumption) ?_; rotate_left; (focus (intro W hSw; go_simp; try with_reducible rfl)); try simp only [Act.put, sT, s0, sS]
                        refine wpAnyH_take (i := 9) (oi := { dst := some 187, op := Op.fieldAddr 42 (Operand.tmp 22) 1, type := 0, pos := "own.go:59", after := #[{ on := 4, ground := Ground.guard }], guard := some (4, false) }) (v := ?_) rfl (by kernel_rfl) (by kernel_rfl) (by kernel_rfl) (fun _ _ _ h => h) (Or.inl ⟨by kernel_rfl, ?_⟩) (by assumption) ?_; rotate_left; (focus (intro W hSw; go_simp; try with_reducible rfl)); try simp only [Act.put, sT, s0, sS]
                        refine wpAnyH_take (i := 10) (oi := { dst := some 188, op := Op.load 38 (Operand.tmp 187), type := 38, pos := "own.go:59", after := #[{ on := 9, ground := Ground.data }, { on := 4, ground := Ground.guard }], guard := some (4, false) }) (v := ?_) rfl (by kernel_rfl) (by kernel_rfl) (by kernel_rfl) (fun _ _ _ h => h) (Or.inl ⟨by kernel_rfl, ?_⟩) (by assumption) ?_; rotate_left; (focus (intro W hSw; go_simp; try with_reducible rfl)); try simp only [Act.put, sT, s0, sS]
                        refine wpAnyH_take (i := 11) (oi := { dst := some 189, op := Op.binOp BinOp.neq 38 (Operand.tmp 186) (Operand.tmp 188) 38, type := 4, pos := "own.go:59", after := #[{ on := 8, ground := Ground.data }, { on := 10, ground := Ground.data }, { on := 4, ground := Ground.guard }], guard := some (4, false) }) (v := ?_) rfl (by kernel_rfl) (by kernel_rfl) (by kernel_rfl) (fun _ _ _ h => h) (Or.inl ⟨by kernel_rfl, ?_⟩) (by assumption) ?_; rotate_left; (focus (intro W hSw; go_simp; try with_reducible rfl)); try simp only [Act.put, sT, s0, sS]
                        refine wpAnyH_take (i := 12) (oi := { dst := some 190, op := Op.pick (Operand.tmp 182) (Operand.const (Value.bool true)) (Operand.tmp 189), type := 4, pos := "own.go:59", after := #[{ on := 4, ground := Ground.data }, { on := 11, ground := Ground.data }], guard := none }) (v := ?_) rfl (by kernel_rfl) (by kernel_rfl) (by kernel_rfl) (fun _ _ _ h => h) (Or.inl ⟨by kernel_rfl, ?_⟩) (by assumption) ?_; rotate_left; (focus (intro W hSw; go_simp; try with_reducible rfl)); try simp only [Act.put, sT, s0, sS]
                        refine wpAnyH_take (i := 13) (oi := { dst := some 191, op := Op.move (Operand.tmp 190), type := 4, pos := "own.go:59", after := #[{ on := 12, ground := Ground.data }, { on := 4, ground := Ground.chain }], guard := none }) (v := ?_) rfl (by kernel_rfl) (by kernel_rfl) (by kernel_rfl) (fun _ _ _ h => h) (Or.inl ⟨by kernel_rfl, ?_⟩) (by assumption) ?_; rotate_left; (focus (intro W hSw; go_simp; try with_reducible rfl)); try simp only [Act.put, sT, s0, sS]
                        refine wpAnyH_take (i := 14) (oi := { dst := some 192, op := Op.fieldAddr 42 (Operand.tmp 22) 0, type := 0, pos := "own.go:59", after := #[{ on := 13, ground := Ground.guard }], guard := some (13, false) }) (v := ?_) rfl (by kernel_rfl) (by kernel_rfl) (by kernel_rfl) (fun _ _ _ h => h) (Or.inl ⟨by kernel_rfl, ?_⟩) (by assumption) ?_; rotate_left; (focus (intro W hSw; go_simp; try with_reducible rfl)); try simp only [Act.put, sT, s0, sS]
                        refine wpAnyH_take (i := 15) (oi := { dst := some 193, op := Op.load 3 (Operand.tmp 192), type := 3, pos := "own.go:59", after := #[{ on := 14, ground := Ground.data }, { on := 13, ground := Ground.guard }], guard := some (13, false) }) (v := ?_) rfl (by kernel_rfl) (by kernel_rfl) (by kernel_rfl) (fun _ _ _ h => h) (Or.inl ⟨by kernel_rfl, ?_⟩) (by assumption) ?_; rotate_left; (focus (intro W hSw; go_simp; try with_reducible rfl)); try simp only [Act.put, sT, s0, sS]
                        refine wpAnyH_take (i := 16) (oi := { dst := some 194, op := Op.fieldAddr 42 (Operand.tmp 22) 1, type := 0, pos := "own.go:59", after := #[{ on := 13, ground := Ground.guard }], guard := some (13, false) }) (v := ?_) rfl (by kernel_rfl) (by kernel_rfl) (by kernel_rfl) (fun _ _ _ h => h) (Or.inl ⟨by kernel_rfl, ?_⟩) (by assumption) ?_; rotate_left; (focus (intro W hSw; go_simp; try with_reducible rfl)); try simp only [Act.put, sT, s0, sS]
                        refine wpAnyH_take (i := 17) (oi := { dst := some 195, op := Op.fieldAddr 38 (Operand.tmp 194) 0, type := 0, pos := "own.go:59", after := #[{ on := 16, ground := Ground.data }, { on := 13, ground := Ground.guard }], guard := some (13, false) }) (v := ?_) rfl (by kernel_rfl) (by kernel_rfl) (by kernel_rfl) (fun _ _ _ h => h) (Or.inl ⟨by kernel_rfl, ?_⟩) (by assumption) ?_; rotate_left; (focus (intro W hSw; go_simp; try with_reducible rfl)); try simp only [Act.put, sT, s0, sS]
                        refine wpAnyH_take (i := 18) (oi := { dst := some 196, op := Op.load 3 (Operand.tmp 195), type := 3, pos := "own.go:59", after := #[{ on := 17, ground := Ground.data }, { on := 13, ground := Ground.guard }], guard := some (13, false) }) (v := ?_) rfl (by kernel_rfl) (by kernel_rfl) (by kernel_rfl) (fun _ _ _ h => h) (Or.inl ⟨by kernel_rfl, ?_⟩) (by assumption) ?_; rotate_left; (focus (intro W hSw; go_simp; try with_reducible rfl)); try simp only [Act.put, sT, s0, sS]
                        refine wpAnyH_take (i := 19) (oi := { dst := some 197, op := Op.binOp BinOp.neq 3 (Operand.tmp 193) (Operand.tmp 196) 3, type := 4, pos := "own.go:59", after := #[{ on := 15, ground := Ground.data }, { on := 18, ground := Ground.data }, { on := 13, ground := Ground.guard }], guard := some (13, false) }) (v := ?_) rfl (by kernel_rfl) (by kernel_rfl) (by kernel_rfl) (fun _ _ _ h => h) (Or.inl ⟨by kernel_rfl, ?_⟩) (by assumption) ?_; rotate_left; (focus (intro W hSw; go_simp; try with_reducible rfl)); try simp only [Act.put, sT, s0, sS]
                        refine wpAnyH_take (i := 20) (oi := { dst := some 198, op := Op.pick (Operand.tmp 191) (Operand.const (Value.bool true)) (Operand.tmp 197), type := 4, pos := "own.go:59", after := #[{ on := 13, ground := Ground.data }, { on := 19, ground := Ground.data }], guard := none }) (v := ?_) rfl (by kernel_rfl) (by kernel_rfl) (by kernel_rfl) (fun _ _ _ h => h) (Or.inl ⟨by kernel_rfl, ?_⟩) (by assumption) ?_; rotate_left; (focus (intro W hSw; go_simp; try with_reducible rfl)); try simp only [Act.put, sT, s0, sS]
                        refine wpAnyH_take (i := 21) (oi := { dst := some 199, op := Op.move (Operand.tmp 198), type := 4, pos := "own.go:59", after := #[{ on := 20, ground := Ground.data }, { on := 13, ground := Ground.chain }], guard := none }) (v := ?_) rfl (by kernel_rfl) (by kernel_rfl) (by kernel_rfl) (fun _ _ _ h => h) (Or.inl ⟨by kernel_rfl, ?_⟩) (by assumption) ?_; rotate_left; (focus (intro W hSw; go_simp; try with_reducible rfl)); try simp only [Act.put, sT, s0, sS]
                        refine wpAnyH_take (i := 22) (oi := { dst := some 200, op := Op.move (Operand.tmp 20), type := 3, pos := "own.go:59", after := #[{ on := 21, ground := Ground.guard }], guard := some (21, false) }) (v := ?_) rfl (by kernel_rfl) (by kernel_rfl) (by kernel_rfl) (fun _ _ _ h => h) (Or.inl ⟨by kernel_rfl, ?_⟩) (by assumption) ?_; rotate_left; (focus (intro W hSw; go_simp; try with_reducible rfl)); try simp only [Act.put, sT, s0, sS]
                        refine wpAnyH_take (i := 23) (oi := { dst := some 201, op := Op.binOp BinOp.gtr 3 (Operand.tmp 200) (Operand.const (Value.int IntKind.i64 0)) 3, type := 4, pos := "own.go:59", after := #[{ on := 22, ground := Ground.data }, { on := 21, ground := Ground.guard }], guard := some (21, false) }) (v := ?_) rfl (by kernel_rfl) (by kernel_rfl) (by kernel_rfl) (fun _ _ _ h => h) (Or.inl ⟨by kernel_rfl, ?_⟩) (by assumption) ?_; rotate_left; (focus (intro W hSw; go_simp; try with_reducible rfl)); try simp only [Act.put, sT, s0, sS]
                        refine wpAnyH_take (i := 24) (oi := { dst := some 202, op := Op.move (Operand.tmp 201), type := 4, pos := "own.go:59", after := #[{ on := 23, ground := Ground.data }, { on := 21, ground := Ground.chain }, { on := 21, ground := Ground.guard }], guard := some (21, false) }) (v := ?_) rfl (by kernel_rfl) (by kernel_rfl) (by kernel_rfl) (fun _ _ _ h => h) (Or.inl ⟨by kernel_rfl, ?_⟩) (by assumption) ?_; rotate_left; (focus (intro W hSw; go_simp; try with_reducible rfl)); try simp only [Act.put, sT, s0, sS]
                        refine wpAnyH_take (i := 25) (oi := { dst := some 203, op := Op.fieldAddr 42 (Operand.tmp 22) 0, type := 0, pos := "own.go:59", after := #[{ on := 24, ground := Ground.guard }], guard := some (24, true) }) (v := ?_) rfl (by kernel_rfl) (by kernel_rfl) (by kernel_rfl) (fun _ _ _ h => h) (Or.inl ⟨by kernel_rfl, ?_⟩) (by assumption) ?_; rotate_left; (focus (intro W hSw; go_simp; try with_reducible rfl)); try simp only [Act.put, sT, s0, sS]
                        refine wpAnyH_take (i := 26) (oi := { dst := some 204, op := Op.load 3 (Operand.tmp 203), type := 3, pos := "own.go:59", after := #[{ on := 25, ground := Ground.data }, { on := 24, ground := Ground.guard }], guard := some (24, true) }) (v := ?_) rfl (by kernel_rfl) (by kernel_rfl) (by kernel_rfl) (fun _ _ _ h => h) (Or.inl ⟨by kernel_rfl, ?_⟩) (by assumption) ?_; rotate_left; (focus (intro W hSw; go_simp; try with_reducible rfl)); try simp only [Act.put, sT, s0, sS]
                        refine wpAnyH_take (i := 27) (oi := { dst := some 205, op := Op.move (Operand.tmp 20), type := 3, pos := "own.go:59", after := #[{ on := 24, ground := Ground.guard }], guard := some (24, true) }) (v := ?_) rfl (by kernel_rfl) (by kernel_rfl) (by kernel_rfl) (fun _ _ _ h => h) (Or.inl ⟨by kernel_rfl, ?_⟩) (by assumption) ?_; rotate_left; (focus (intro W hSw; go_simp; try with_reducible rfl)); try simp only [Act.put, sT, s0, sS]
                        refine wpAnyH_take (i := 28) (oi := { dst := some 206, op := Op.binOp BinOp.leq 3 (Operand.tmp 204) (Operand.tmp 205) 3, type := 4, pos := "own.go:59", after := #[{ on := 26, ground := Ground.data }, { on := 27, ground := Ground.data }, { on := 24, ground := Ground.guard }], guard := some (24, true) }) (v := ?_) rfl (by kernel_rfl) (by kernel_rfl) (by kernel_rfl) (fun _ _ _ h => h) (Or.inl ⟨by kernel_rfl, ?_⟩) (by assumption) ?_; rotate_left; (focus (intro W hSw; go_simp; try with_reducible rfl)); try simp only [Act.put, sT, s0, sS]
                        refine wpAnyH_take (i := 29) (oi := { dst := some 207, op := Op.pick (Operand.tmp 202) (Operand.tmp 206) (Operand.const (Value.bool false)), type := 4, pos := "own.go:59", after := #[{ on := 24, ground := Ground.data }, { on := 28, ground := Ground.data }, { on := 21, ground := Ground.guard }], guard := some (21, false) }) (v := ?_) rfl (by kernel_rfl) (by kernel_rfl) (by kernel_rfl) (fun _ _ _ h => h) (Or.inl ⟨by kernel_rfl, ?_⟩) (by assumption) ?_; rotate_left; (focus (intro W hSw; go_simp; try with_reducible rfl)); try simp only [Act.put, sT, s0, sS]
                        refine wpAnyH_take (i := 30) (oi := { dst := some 208, op := Op.pick (Operand.tmp 199) (Operand.const (Value.bool true)) (Operand.tmp 207), type := 4, pos := "own.go:59", after := #[{ on := 21, ground := Ground.data }, { on := 29, ground := Ground.data }], guard := none }) (v := ?_) rfl (by kernel_rfl) (by kernel_rfl) (by kernel_rfl) (fun _ _ _ h => h) (Or.inl ⟨by kernel_rfl, ?_⟩) (by assumption) ?_; rotate_left; (focus (intro W hSw; go_simp; try with_reducible rfl)); try simp only [Act.put, sT, s0, sS]
                        refine wpAnyH_done (by kernel_rfl) ?_ _
                        go_wp2_with fail
                        go_roundg (t.length - (i + 1))
                        case measure => have := HI0.out; have := HLT.out; omega
                        case rel => exact ⟨i + 1, a2 + 1, 0, by have := HI0.out; have := HLT.out; omega, by go_num, by go_num, rfl, HLT2.out, by have h := HRN.out; rw [hR1.out, hG1.out] at h; exact h, (HPB.out _ hHeld).sub (List.sublist_cons_self _ _)⟩
                      · have hgb : decide (0 < g) = false := decide_eq_false (by omega)
                        go_wp2_with fail
                        refine wp_region_held_drew (S := PX P) (by kernel_rfl) hRd (fun hHeld => ?_)
                        refine wpAnyH_take (i := 0) (oi := { dst := some 128, op := Op.move (Operand.tmp 20), type := 3, pos := "own.go:48", after := #[], guard := none }) (v := ?_) rfl (by kernel_rfl) (by kernel_rfl) (by kernel_rfl) (fun _ _ _ h => h) (Or.inl ⟨by kernel_rfl, ?_⟩) (by assumption) ?_; rotate_left; (focus (intro W hSw; go_simp; try with_reducible rfl)); try simp only [Act.put, sT, s0, sS]
                        refine wpAnyH_take (i := 1) (oi := { dst := some 129, op := Op.binOp BinOp.gtr 3 (Operand.tmp 128) (Operand.const (Value.int IntKind.i64 0)) 3, type := 4, pos := "own.go:48", after := #[{ on := 0, ground := Ground.data }], guard := none }) (v := ?_) rfl (by kernel_rfl) (by kernel_rfl) (by kernel_rfl) (fun _ _ _ h => h) (Or.inl ⟨by kernel_rfl, ?_⟩) (by assumption) ?_; rotate_left; (focus (intro W hSw; go_simp; try with_reducible rfl)); try simp only [Act.put, sT, s0, sS]
                        refine wpAnyH_take (i := 2) (oi := { dst := some 130, op := Op.move (Operand.tmp 129), type := 4, pos := "own.go:48", after := #[{ on := 1, ground := Ground.data }], guard := none }) (v := ?_) rfl (by kernel_rfl) (by kernel_rfl) (by kernel_rfl) (fun _ _ _ h => h) (Or.inl ⟨by kernel_rfl, ?_⟩) (by assumption) ?_; rotate_left; (focus (intro W hSw; go_simp; try with_reducible rfl)); try simp only [Act.put, sT, s0, sS]
                        refine wpAnyH_take (i := 3) (oi := { dst := some 131, op := Op.move (Operand.tmp 19), type := 3, pos := "own.go:48", after := #[{ on := 2, ground := Ground.guard }], guard := some (2, true) }) (v := undef) rfl (by kernel_rfl) (by kernel_rfl) (by kernel_rfl) (fun _ _ _ h => h) (Or.inr ⟨by kernel_rfl, rfl⟩) (by assumption) ?_; try simp only [Act.put, sT, s0, sS]
                        refine wpAnyH_take (i := 4) (oi := { dst := some 132, op := Op.move (Operand.tmp 18), type := 32, pos := "own.go:48", after := #[{ on := 2, ground := Ground.guard }], guard := some (2, true) }) (v := undef) rfl (by kernel_rfl) (by kernel_rfl) (by kernel_rfl) (fun _ _ _ h => h) (Or.inr ⟨by kernel_rfl, rfl⟩) (by assumption) ?_; try simp only [Act.put, sT, s0, sS]
                        refine wpAnyH_take (i := 5) (oi := { dst := some 133, op := Op.call { callee := Callee.builtin Builtin.len, args := #[Operand.tmp 132], argTypes := #[32] }, type := 3, pos := "own.go:48", after := #[{ on := 4, ground := Ground.data }, { on := 2, ground := Ground.guard }], guard := some (2, true) }) (v := undef) rfl (by kernel_rfl) (by kernel_rfl) (by kernel_rfl) (fun _ _ _ h => h) (Or.inr ⟨by kernel_rfl, rfl⟩) (by assumption) ?_; try simp only [Act.put, sT, s0, sS]
                        refine wpAnyH_take (i := 6) (oi := { dst := some 134, op := Op.binOp BinOp.lss 3 (Operand.tmp 131) (Operand.tmp 133) 3, type := 4, pos := "own.go:48", after := #[{ on := 3, ground := Ground.data }, { on := 5, ground := Ground.data }, { on := 2, ground := Ground.guard }], guard := some (2, true) }) (v := undef) rfl (by kernel_rfl) (by kernel_rfl) (by kernel_rfl) (fun _ _ _ h => h) (Or.inr ⟨by kernel_rfl, rfl⟩) (by assumption) ?_; try simp only [Act.put, sT, s0, sS]
                        refine wpAnyH_take (i := 7) (oi := { dst := some 135, op := Op.pick (Operand.tmp 130) (Operand.tmp 134) (Operand.const (Value.bool false)), type := 4, pos := "own.go:48", after := #[{ on := 2, ground := Ground.data }, { on := 6, ground := Ground.data }], guard := none }) (v := ?_) rfl (by kernel_rfl) (by kernel_rfl) (by kernel_rfl) (fun _ _ _ h => h) (Or.inl ⟨by kernel_rfl, ?_⟩) (by assumption) ?_; rotate_left; (focus (intro W hSw; go_simp; try with_reducible rfl)); try simp only [Act.put, sT, s0, sS]
                        refine wpAnyH_take (i := 8) (oi := { dst := some 136, op := Op.move (Operand.tmp 135), type := 4, pos := "own.go:48", after := #[{ on := 7, ground := Ground.data }, { on := 2, ground := Ground.chain }], guard := none }) (v := ?_) rfl (by kernel_rfl) (by kernel_rfl) (by kernel_rfl) (fun _ _ _ h => h) (Or.inl ⟨by kernel_rfl, ?_⟩) (by assumption) ?_; rotate_left; (focus (intro W hSw; go_simp; try with_reducible rfl)); try simp only [Act.put, sT, s0, sS]
                        refine wpAnyH_take (i := 9) (oi := { dst := some 137, op := Op.move (Operand.tmp 18), type := 32, pos := "own.go:48", after := #[{ on := 8, ground := Ground.guard }], guard := some (8, true) }) (v := undef) rfl (by kernel_rfl) (by kernel_rfl) (by kernel_rfl) (fun _ _ _ h => h) (Or.inr ⟨by kernel_rfl, rfl⟩) (by assumption) ?_; try simp only [Act.put, sT, s0, sS]
                        refine wpAnyH_take (i := 10) (oi := { dst := some 138, op := Op.move (Operand.tmp 19), type := 3, pos := "own.go:48", after := #[{ on := 8, ground := Ground.guard }], guard := some (8, true) }) (v := undef) rfl (by kernel_rfl) (by kernel_rfl) (by kernel_rfl) (fun _ _ _ h => h) (Or.inr ⟨by kernel_rfl, rfl⟩) (by assumption) ?_; try simp only [Act.put, sT, s0, sS]
                        refine wpAnyH_take (i := 11) (oi := { dst := some 139, op := Op.indexAddr 32 (Operand.tmp 137) (Operand.tmp 138), type := 0, pos := "own.go:48", after := #[{ on := 9, ground := Ground.data }, { on := 10, ground := Ground.data }, { on := 8, ground := Ground.guard }], guard := some (8, true) }) (v := undef) rfl (by kernel_rfl) (by kernel_rfl) (by kernel_rfl) (fun _ _ _ h => h) (Or.inr ⟨by kernel_rfl, rfl⟩) (by assumption) ?_; try simp only [Act.put, sT, s0, sS]
                        refine wpAnyH_take (i := 12) (oi := { dst := some 140, op := Op.fieldAddr 38 (Operand.tmp 139) 0, type := 0, pos := "own.go:48", after := #[{ on := 11, ground := Ground.data }, { on := 8, ground := Ground.guard }], guard := some (8, true) }) (v := undef) rfl (by kernel_rfl) (by kernel_rfl) (by kernel_rfl) (fun _ _ _ h => h) (Or.inr ⟨by kernel_rfl, rfl⟩) (by assumption) ?_; try simp only [Act.put, sT, s0, sS]
                        refine wpAnyH_take (i := 13) (oi := { dst := some 141, op := Op.load 3 (Operand.tmp 140), type := 3, pos := "own.go:48", after := #[{ on := 12, ground := Ground.data }, { on := 8, ground := Ground.guard }], guard := some (8, true) }) (v := undef) rfl (by kernel_rfl) (by kernel_rfl) (by kernel_rfl) (fun _ _ _ h => h) (Or.inr ⟨by kernel_rfl, rfl⟩) (by assumption) ?_; try simp only [Act.put, sT, s0, sS]
                        refine wpAnyH_take (i := 14) (oi := { dst := some 142, op := Op.fieldAddr 42 (Operand.tmp 22) 0, type := 0, pos := "own.go:48", after := #[{ on := 8, ground := Ground.guard }], guard := some (8, true) }) (v := undef) rfl (by kernel_rfl) (by kernel_rfl) (by kernel_rfl) (fun _ _ _ h => h) (Or.inr ⟨by kernel_rfl, rfl⟩) (by assumption) ?_; try simp only [Act.put, sT, s0, sS]
                        refine wpAnyH_take (i := 15) (oi := { dst := some 143, op := Op.load 3 (Operand.tmp 142), type := 3, pos := "own.go:48", after := #[{ on := 14, ground := Ground.data }, { on := 8, ground := Ground.guard }], guard := some (8, true) }) (v := undef) rfl (by kernel_rfl) (by kernel_rfl) (by kernel_rfl) (fun _ _ _ h => h) (Or.inr ⟨by kernel_rfl, rfl⟩) (by assumption) ?_; try simp only [Act.put, sT, s0, sS]
                        refine wpAnyH_take (i := 16) (oi := { dst := some 144, op := Op.binOp BinOp.neq 3 (Operand.tmp 141) (Operand.tmp 143) 3, type := 4, pos := "own.go:48", after := #[{ on := 13, ground := Ground.data }, { on := 15, ground := Ground.data }, { on := 8, ground := Ground.guard }], guard := some (8, true) }) (v := undef) rfl (by kernel_rfl) (by kernel_rfl) (by kernel_rfl) (fun _ _ _ h => h) (Or.inr ⟨by kernel_rfl, rfl⟩) (by assumption) ?_; try simp only [Act.put, sT, s0, sS]
                        refine wpAnyH_take (i := 17) (oi := { dst := some 145, op := Op.pick (Operand.tmp 136) (Operand.tmp 144) (Operand.const (Value.bool false)), type := 4, pos := "own.go:48", after := #[{ on := 8, ground := Ground.data }, { on := 16, ground := Ground.data }], guard := none }) (v := ?_) rfl (by kernel_rfl) (by kernel_rfl) (by kernel_rfl) (fun _ _ _ h => h) (Or.inl ⟨by kernel_rfl, ?_⟩) (by assumption) ?_; rotate_left; (focus (intro W hSw; go_simp; try with_reducible rfl)); try simp only [Act.put, sT, s0, sS]
                        refine wpAnyH_done (by kernel_rfl) ?_ _
                        go_wp2_with fail
                        have hRe := HPD.out _ hHeld
                        refine wp_region_held_drew (S := PX P) (by kernel_rfl) hRe (fun hHeld => ?_)
                        refine wpAnyH_take (i := 0) (oi := { dst := some 178, op := Op.move (Operand.tmp 19), type := 3, pos := "own.go:59", after := #[], guard := none }) (v := ?_) rfl (by kernel_rfl) (by kernel_rfl) (by kernel_rfl) (fun _ _ _ h => h) (Or.inl ⟨by kernel_rfl, ?_⟩) (by assumption) ?_; rotate_left; (focus (intro W hSw; go_simp; try with_reducible rfl)); try simp only [Act.put, sT, s0, sS]
                        refine wpAnyH_take (i := 1) (oi := { dst := some 179, op := Op.move (Operand.tmp 18), type := 32, pos := "own.go:59", after := #[], guard := none }) (v := ?_) rfl (by kernel_rfl) (by kernel_rfl) (by kernel_rfl) (fun _ _ _ h => h) (Or.inl ⟨by kernel_rfl, ?_⟩) (by assumption) ?_; rotate_left; (focus (intro W hSw; go_simp; try with_reducible rfl)); try simp only [Act.put, sT, s0, sS]
                        refine wpAnyH_take (i := 2) (oi := { dst := some 180, op := Op.call { callee := Callee.builtin Builtin.len, args := #[Operand.tmp 179], argTypes := #[32] }, type := 3, pos := "own.go:59", after := #[{ on := 1, ground := Ground.data }], guard := none }) (v := ?_) rfl (by kernel_rfl) (by kernel_rfl) (by kernel_rfl) (fun _ _ _ h => h) (Or.inl ⟨by kernel_rfl, ?_⟩) (by assumption) ?_; rotate_left; (focus (intro W hSw; go_simp; try with_reducible rfl)); try simp only [Act.put, sT, s0, sS]
                        refine wpAnyH_take (i := 3) (oi := { dst := some 181, op := Op.binOp BinOp.geq 3 (Operand.tmp 178) (Operand.tmp 180) 3, type := 4, pos := "own.go:59", after := #[{ on := 0, ground := Ground.data }, { on := 2, ground := Ground.data }], guard := none }) (v := ?_) rfl (by kernel_rfl) (by kernel_rfl) (by kernel_rfl) (fun _ _ _ h => h) (Or.inl ⟨by kernel_rfl, ?_⟩) (by assumption) ?_; rotate_left; (focus (intro W hSw; go_simp; try with_reducible rfl)); try simp only [Act.put, sT, s0, sS]
                        refine wpAnyH_take (i := 4) (oi := { dst := some 182, op := Op.move (Operand.tmp 181), type := 4, pos := "own.go:59", after := #[{ on := 3, ground := Ground.data }], guard := none }) (v := ?_) rfl (by kernel_rfl) (by kernel_rfl) (by kernel_rfl) (fun _ _ _ h => h) (Or.inl ⟨by kernel_rfl, ?_⟩) (by assumption) ?_; rotate_left; (focus (intro W hSw; go_simp; try with_reducible rfl)); try simp only [Act.put, sT, s0, sS]
                        refine wpAnyH_take (i := 5) (oi := { dst := some 183, op := Op.move (Operand.tmp 18), type := 32, pos := "own.go:59", after := #[{ on := 4, ground := Ground.guard }], guard := some (4, false) }) (v := ?_) rfl (by kernel_rfl) (by kernel_rfl) (by kernel_rfl) (fun _ _ _ h => h) (Or.inl ⟨by kernel_rfl, ?_⟩) (by assumption) ?_; rotate_left; (focus (intro W hSw; go_simp; try with_reducible rfl)); try simp only [Act.put, sT, s0, sS]
                        refine wpAnyH_take (i := 6) (oi := { dst := some 184, op := Op.move (Operand.tmp 19), type := 3, pos := "own.go:59", after := #[{ on := 4, ground := Ground.guard }], guard := some (4, false) }) (v := ?_) rfl (by kernel_rfl) (by kernel_rfl) (by kernel_rfl) (fun _ _ _ h => h) (Or.inl ⟨by kernel_rfl, ?_⟩) (by assumption) ?_; rotate_left; (focus (intro W hSw; go_simp; try with_reducible rfl)); try simp only [Act.put, sT, s0, sS]
                        refine wpAnyH_take (i := 7) (oi := { dst := some 185, op := Op.indexAddr 32 (Operand.tmp 183) (Operand.tmp 184), type := 0, pos := "own.go:59", after := #[{ on := 5, ground := Ground.data }, { on := 6, ground := Ground.data }, { on := 4, ground := Ground.guard }], guard := some (4, false) }) (v := ?_) rfl (by kernel_rfl) (by kernel_rfl) (by kernel_rfl) (fun _ _ _ h => h) (Or.inl ⟨by kernel_rfl, ?_⟩) (by assumption) ?_; rotate_left; (focus (intro W hSw; go_simp; try with_reducible rfl)); try simp only [Act.put, sT, s0, sS]
                        refine wpAnyH_take (i := 8) (oi := { dst := some 186, op := Op.load 38 (Operand.tmp 185), type := 38, pos := "own.go:59", after := #[{ on := 7, ground := Ground.data }, { on := 4, ground := Ground.guard }], guard := some (4, false) }) (v := ?_) rfl (by kernel_rfl) (by kernel_rfl) (by kernel_rfl) (fun _ _ _ h => h) (Or.inl ⟨by kernel_rfl, ?_⟩) (by assumption) ?_; rotate_left; (focus (intro W hSw; go_simp; try with_reducible rfl)); try simp only [Act.put, sT, s0, sS]
                        refine wpAnyH_take (i := 9) (oi := { dst := some 187, op := Op.fieldAddr 42 (Operand.tmp 22) 1, type := 0, pos := "own.go:59", after := #[{ on := 4, ground := Ground.guard }], guard := some (4, false) }) (v := ?_) rfl (by kernel_rfl) (by kernel_rfl) (by kernel_rfl) (fun _ _ _ h => h) (Or.inl ⟨by kernel_rfl, ?_⟩) (by assumption) ?_; rotate_left; (focus (intro W hSw; go_simp; try with_reducible rfl)); try simp only [Act.put, sT, s0, sS]
                        refine wpAnyH_take (i := 10) (oi := { dst := some 188, op := Op.load 38 (Operand.tmp 187), type := 38, pos := "own.go:59", after := #[{ on := 9, ground := Ground.data }, { on := 4, ground := Ground.guard }], guard := some (4, false) }) (v := ?_) rfl (by kernel_rfl) (by kernel_rfl) (by kernel_rfl) (fun _ _ _ h => h) (Or.inl ⟨by kernel_rfl, ?_⟩) (by assumption) ?_; rotate_left; (focus (intro W hSw; go_simp; try with_reducible rfl)); try simp only [Act.put, sT, s0, sS]
                        refine wpAnyH_take (i := 11) (oi := { dst := some 189, op := Op.binOp BinOp.neq 38 (Operand.tmp 186) (Operand.tmp 188) 38, type := 4, pos := "own.go:59", after := #[{ on := 8, ground := Ground.data }, { on := 10, ground := Ground.data }, { on := 4, ground := Ground.guard }], guard := some (4, false) }) (v := ?_) rfl (by kernel_rfl) (by kernel_rfl) (by kernel_rfl) (fun _ _ _ h => h) (Or.inl ⟨by kernel_rfl, ?_⟩) (by assumption) ?_; rotate_left; (focus (intro W hSw; go_simp; try with_reducible rfl)); try simp only [Act.put, sT, s0, sS]
                        refine wpAnyH_take (i := 12) (oi := { dst := some 190, op := Op.pick (Operand.tmp 182) (Operand.const (Value.bool true)) (Operand.tmp 189), type := 4, pos := "own.go:59", after := #[{ on := 4, ground := Ground.data }, { on := 11, ground := Ground.data }], guard := none }) (v := ?_) rfl (by kernel_rfl) (by kernel_rfl) (by kernel_rfl) (fun _ _ _ h => h) (Or.inl ⟨by kernel_rfl, ?_⟩) (by assumption) ?_; rotate_left; (focus (intro W hSw; go_simp; try with_reducible rfl)); try simp only [Act.put, sT, s0, sS]
                        refine wpAnyH_take (i := 13) (oi := { dst := some 191, op := Op.move (Operand.tmp 190), type := 4, pos := "own.go:59", after := #[{ on := 12, ground := Ground.data }, { on := 4, ground := Ground.chain }], guard := none }) (v := ?_) rfl (by kernel_rfl) (by kernel_rfl) (by kernel_rfl) (fun _ _ _ h => h) (Or.inl ⟨by kernel_rfl, ?_⟩) (by assumption) ?_; rotate_left; (focus (intro W hSw; go_simp; try with_reducible rfl)); try simp only [Act.put, sT, s0, sS]
                        refine wpAnyH_take (i := 14) (oi := { dst := some 192, op := Op.fieldAddr 42 (Operand.tmp 22) 0, type := 0, pos := "own.go:59", after := #[{ on := 13, ground := Ground.guard }], guard := some (13, false) }) (v := ?_) rfl (by kernel_rfl) (by kernel_rfl) (by kernel_rfl) (fun _ _ _ h => h) (Or.inl ⟨by kernel_rfl, ?_⟩) (by assumption) ?_; rotate_left; (focus (intro W hSw; go_simp; try with_reducible rfl)); try simp only [Act.put, sT, s0, sS]
                        refine wpAnyH_take (i := 15) (oi := { dst := some 193, op := Op.load 3 (Operand.tmp 192), type := 3, pos := "own.go:59", after := #[{ on := 14, ground := Ground.data }, { on := 13, ground := Ground.guard }], guard := some (13, false) }) (v := ?_) rfl (by kernel_rfl) (by kernel_rfl) (by kernel_rfl) (fun _ _ _ h => h) (Or.inl ⟨by kernel_rfl, ?_⟩) (by assumption) ?_; rotate_left; (focus (intro W hSw; go_simp; try with_reducible rfl)); try simp only [Act.put, sT, s0, sS]
                        refine wpAnyH_take (i := 16) (oi := { dst := some 194, op := Op.fieldAddr 42 (Operand.tmp 22) 1, type := 0, pos := "own.go:59", after := #[{ on := 13, ground := Ground.guard }], guard := some (13, false) }) (v := ?_) rfl (by kernel_rfl) (by kernel_rfl) (by kernel_rfl) (fun _ _ _ h => h) (Or.inl ⟨by kernel_rfl, ?_⟩) (by assumption) ?_; rotate_left; (focus (intro W hSw; go_simp; try with_reducible rfl)); try simp only [Act.put, sT, s0, sS]
                        refine wpAnyH_take (i := 17) (oi := { dst := some 195, op := Op.fieldAddr 38 (Operand.tmp 194) 0, type := 0, pos := "own.go:59", after := #[{ on := 16, ground := Ground.data }, { on := 13, ground := Ground.guard }], guard := some (13, false) }) (v := ?_) rfl (by kernel_rfl) (by kernel_rfl) (by kernel_rfl) (fun _ _ _ h => h) (Or.inl ⟨by kernel_rfl, ?_⟩) (by assumption) ?_; rotate_left; (focus (intro W hSw; go_simp; try with_reducible rfl)); try simp only [Act.put, sT, s0, sS]
                        refine wpAnyH_take (i := 18) (oi := { dst := some 196, op := Op.load 3 (Operand.tmp 195), type := 3, pos := "own.go:59", after := #[{ on := 17, ground := Ground.data }, { on := 13, ground := Ground.guard }], guard := some (13, false) }) (v := ?_) rfl (by kernel_rfl) (by kernel_rfl) (by kernel_rfl) (fun _ _ _ h => h) (Or.inl ⟨by kernel_rfl, ?_⟩) (by assumption) ?_; rotate_left; (focus (intro W hSw; go_simp; try with_reducible rfl)); try simp only [Act.put, sT, s0, sS]
                        refine wpAnyH_take (i := 19) (oi := { dst := some 197, op := Op.binOp BinOp.neq 3 (Operand.tmp 193) (Operand.tmp 196) 3, type := 4, pos := "own.go:59", after := #[{ on := 15, ground := Ground.data }, { on := 18, ground := Ground.data }, { on := 13, ground := Ground.guard }], guard := some (13, false) }) (v := ?_) rfl (by kernel_rfl) (by kernel_rfl) (by kernel_rfl) (fun _ _ _ h => h) (Or.inl ⟨by kernel_rfl, ?_⟩) (by assumption) ?_; rotate_left; (focus (intro W hSw; go_simp; try with_reducible rfl)); try simp only [Act.put, sT, s0, sS]
                        refine wpAnyH_take (i := 20) (oi := { dst := some 198, op := Op.pick (Operand.tmp 191) (Operand.const (Value.bool true)) (Operand.tmp 197), type := 4, pos := "own.go:59", after := #[{ on := 13, ground := Ground.data }, { on := 19, ground := Ground.data }], guard := none }) (v := ?_) rfl (by kernel_rfl) (by kernel_rfl) (by kernel_rfl) (fun _ _ _ h => h) (Or.inl ⟨by kernel_rfl, ?_⟩) (by assumption) ?_; rotate_left; (focus (intro W hSw; go_simp; try with_reducible rfl)); try simp only [Act.put, sT, s0, sS]
                        refine wpAnyH_take (i := 21) (oi := { dst := some 199, op := Op.move (Operand.tmp 198), type := 4, pos := "own.go:59", after := #[{ on := 20, ground := Ground.data }, { on := 13, ground := Ground.chain }], guard := none }) (v := ?_) rfl (by kernel_rfl) (by kernel_rfl) (by kernel_rfl) (fun _ _ _ h => h) (Or.inl ⟨by kernel_rfl, ?_⟩) (by assumption) ?_; rotate_left; (focus (intro W hSw; go_simp; try with_reducible rfl)); try simp only [Act.put, sT, s0, sS]
                        refine wpAnyH_take (i := 22) (oi := { dst := some 200, op := Op.move (Operand.tmp 20), type := 3, pos := "own.go:59", after := #[{ on := 21, ground := Ground.guard }], guard := some (21, false) }) (v := ?_) rfl (by kernel_rfl) (by kernel_rfl) (by kernel_rfl) (fun _ _ _ h => h) (Or.inl ⟨by kernel_rfl, ?_⟩) (by assumption) ?_; rotate_left; (focus (intro W hSw; go_simp; try with_reducible rfl)); try simp only [Act.put, sT, s0, sS]
                        refine wpAnyH_take (i := 23) (oi := { dst := some 201, op := Op.binOp BinOp.gtr 3 (Operand.tmp 200) (Operand.const (Value.int IntKind.i64 0)) 3, type := 4, pos := "own.go:59", after := #[{ on := 22, ground := Ground.data }, { on := 21, ground := Ground.guard }], guard := some (21, false) }) (v := ?_) rfl (by kernel_rfl) (by kernel_rfl) (by kernel_rfl) (fun _ _ _ h => h) (Or.inl ⟨by kernel_rfl, ?_⟩) (by assumption) ?_; rotate_left; (focus (intro W hSw; go_simp; try with_reducible rfl)); try simp only [Act.put, sT, s0, sS]
                        refine wpAnyH_take (i := 24) (oi := { dst := some 202, op := Op.move (Operand.tmp 201), type := 4, pos := "own.go:59", after := #[{ on := 23, ground := Ground.data }, { on := 21, ground := Ground.chain }, { on := 21, ground := Ground.guard }], guard := some (21, false) }) (v := ?_) rfl (by kernel_rfl) (by kernel_rfl) (by kernel_rfl) (fun _ _ _ h => h) (Or.inl ⟨by kernel_rfl, ?_⟩) (by assumption) ?_; rotate_left; (focus (intro W hSw; go_simp; try with_reducible rfl)); try simp only [Act.put, sT, s0, sS]
                        refine wpAnyH_take (i := 25) (oi := { dst := some 203, op := Op.fieldAddr 42 (Operand.tmp 22) 0, type := 0, pos := "own.go:59", after := #[{ on := 24, ground := Ground.guard }], guard := some (24, true) }) (v := undef) rfl (by kernel_rfl) (by kernel_rfl) (by kernel_rfl) (fun _ _ _ h => h) (Or.inr ⟨by kernel_rfl, rfl⟩) (by assumption) ?_; try simp only [Act.put, sT, s0, sS]
                        refine wpAnyH_take (i := 26) (oi := { dst := some 204, op := Op.load 3 (Operand.tmp 203), type := 3, pos := "own.go:59", after := #[{ on := 25, ground := Ground.data }, { on := 24, ground := Ground.guard }], guard := some (24, true) }) (v := undef) rfl (by kernel_rfl) (by kernel_rfl) (by kernel_rfl) (fun _ _ _ h => h) (Or.inr ⟨by kernel_rfl, rfl⟩) (by assumption) ?_; try simp only [Act.put, sT, s0, sS]
                        refine wpAnyH_take (i := 27) (oi := { dst := some 205, op := Op.move (Operand.tmp 20), type := 3, pos := "own.go:59", after := #[{ on := 24, ground := Ground.guard }], guard := some (24, true) }) (v := undef) rfl (by kernel_rfl) (by kernel_rfl) (by kernel_rfl) (fun _ _ _ h => h) (Or.inr ⟨by kernel_rfl, rfl⟩) (by assumption) ?_; try simp only [Act.put, sT, s0, sS]
                        refine wpAnyH_take (i := 28) (oi := { dst := some 206, op := Op.binOp BinOp.leq 3 (Operand.tmp 204) (Operand.tmp 205) 3, type := 4, pos := "own.go:59", after := #[{ on := 26, ground := Ground.data }, { on := 27, ground := Ground.data }, { on := 24, ground := Ground.guard }], guard := some (24, true) }) (v := undef) rfl (by kernel_rfl) (by kernel_rfl) (by kernel_rfl) (fun _ _ _ h => h) (Or.inr ⟨by kernel_rfl, rfl⟩) (by assumption) ?_; try simp only [Act.put, sT, s0, sS]
                        refine wpAnyH_take (i := 29) (oi := { dst := some 207, op := Op.pick (Operand.tmp 202) (Operand.tmp 206) (Operand.const (Value.bool false)), type := 4, pos := "own.go:59", after := #[{ on := 24, ground := Ground.data }, { on := 28, ground := Ground.data }, { on := 21, ground := Ground.guard }], guard := some (21, false) }) (v := ?_) rfl (by kernel_rfl) (by kernel_rfl) (by kernel_rfl) (fun _ _ _ h => h) (Or.inl ⟨by kernel_rfl, ?_⟩) (by assumption) ?_; rotate_left; (focus (intro W hSw; go_simp; try with_reducible rfl)); try simp only [Act.put, sT, s0, sS]
                        refine wpAnyH_take (i := 30) (oi := { dst := some 208, op := Op.pick (Operand.tmp 199) (Operand.const (Value.bool true)) (Operand.tmp 207), type := 4, pos := "own.go:59", after := #[{ on := 21, ground := Ground.data }, { on := 29, ground := Ground.data }], guard := none }) (v := ?_) rfl (by kernel_rfl) (by kernel_rfl) (by kernel_rfl) (fun _ _ _ h => h) (Or.inl ⟨by kernel_rfl, ?_⟩) (by assumption) ?_; rotate_left; (focus (intro W hSw; go_simp; try with_reducible rfl)); try simp only [Act.put, sT, s0, sS]
                        refine wpAnyH_done (by kernel_rfl) ?_ _
                        go_wp2_with fail
                        go_roundg (t.length - (i + 1))
                        case measure => have := HI0.out; have := HLT.out; omega
                        case rel => exact ⟨i + 1, a2 + 1, 0, by have := HI0.out; have := HLT.out; omega, by go_num, by go_num, rfl, HLT2.out, by have h := HRN.out; rw [hR1.out, hG1.out] at h; exact h, (HPB.out _ hHeld).sub (List.sublist_cons_self _ _)⟩
                  · skip
                    have hi0 : (1 : Int) ≤ i0 := he1
                    have ld : (loadBig 42 ⟨gt, i * 12, none⟩).run Try.prog wr = .ok (.agg (#[.int .i64 i0, .int .i64 0, .int .i64 0, .int .i64 0, .int .i64 0, .int .i64 0, .int .i64 0, .int .i64 0, .int .i64 0, .int .i64 0, .int .i64 0, .int .i64 0] : Array Value)) wr := big_mid 42 (#[.int .i64 i0, .int .i64 0, .int .i64 0, .int .i64 0, .int .i64 0, .int .i64 0, .int .i64 0, .int .i64 0, .int .i64 0, .int .i64 0, .int .i64 0, .int .i64 0] : Array Value) _ (fun j v hj => hc1 j v (hj)) Try.underlying42 rfl (by kernel_rfl)
                    clear hc1 he1 
                    obtain rfl : fb = true := HGAP.out ⟨_, HEM.out, rfl⟩
                    go_wp2_with (first
                      | (refine store_newF hR rfl rfl 42 _ _ rfl 42 _ (#[.int .i64 i0, .int .i64 0, .int .i64 0, .int .i64 0, .int .i64 0, .int .i64 0, .int .i64 0, .int .i64 0, .int .i64 0, .int .i64 0, .int .i64 0, .int .i64 0] : Array Value) rfl rfl (by kernel_rfl) rfl (by simp [Value.oneCell']) ?_; intro w2 hR2 hlt2; generalize wr.heap.size = gy at hR2 hlt2 ⊢; clear hlt2 hR ld))
                    go_loopg [19] (W.length - a1) (fun mm atv wr => ∃ a2 : Nat, mm = W.length - a2 ∧ a2 ≤ W.length ∧ atv = .int .i64 (a2 : Int) ∧ stepR (W.drop a2) g (i0, true) = some (r1, g1) ∧ RG KN w ((gy, 42, (#[.int .i64 i0, .int .i64 0, .int .i64 0, .int .i64 0, .int .i64 0, .int .i64 0, .int .i64 0, .int .i64 0, .int .i64 0, .int .i64 0, .int .i64 0, .int .i64 0] : Array Value)) :: (gf, 57, FC gr true kd n (m : Int) 0) :: [(w.heap.size + 1, 26, (#[.int .i64 kd, .int .i64 n] : Array Value)), (w.heap.size, 24, cfgCells c s)]) [⟨.slice pw (W.map chf).length cw, 38, 11, (W.map chf).length, KC.flat (W.map chf)⟩, ⟨.slice (some ⟨gt, 0, none⟩) (t.map toE).length ct, 42, 12, (t.map toE).length, KN.flat (t.map toE)⟩, ⟨.slice pa (aQ 0 m).length ca, 38, 11, (aQ 0 m).length, KC.flat (aQ 0 m)⟩] gr room ([] : List (Int × (Nat → Int))) wr)
                    case atStart => exact ⟨a1, rfl, HA1.out, rfl, HST.out, hR2⟩
                    case round =>
                      clear hR2
                      obtain ⟨a2, hmm, ha2, rfl, hst, hR⟩ := hrel
                      have a2z : (0 : Int) ≤ (a2 : Int) := by omega
                      have hlt2 : a2 < W.length := by
                        rcases Nat.lt_or_ge a2 W.length with h | h
                        · exact h
                        · rw [List.drop_eq_nil_of_le h] at hst
                          unfold stepR at hst
                          by_cases h : 0 < g
                          · rw [if_pos h] at hst; cases hst
                          · rw [if_neg h] at hst; cases hst
                      have hlz2 : (a2 : Int) < (W.length : Int) := by omega
                      obtain ⟨a, ha⟩ : ∃ a, W[a2]? = some a := ⟨_, List.getElem?_eq_getElem hlt2⟩
                      have hwd : W.drop a2 = a :: W.drop (a2 + 1) := by
                        have h2 : W[a2] = a := by rw [List.getElem?_eq_getElem hlt2] at ha; injection ha
                        rw [List.drop_eq_getElem_cons hlt2, h2]
                      have hwe : (W.map chf)[a2]? = some (chf a) := by rw [List.getElem?_map, ha]; rfl
                      obtain ⟨gw, c2, hv2, hc2⟩ := row_at KC hR.sr 0 rfl hwe
                      injection hv2 with hp2 h21 h22
                      subst hp2
                      rw [hwd] at hst
                      obtain ⟨P, hPd⟩ : ∃ P : World → Prop, P = fun W' => RG KN w ((gy, 42, (#[.int .i64 i0, .int .i64 0, .int .i64 0, .int .i64 0, .int .i64 0, .int .i64 0, .int .i64 0, .int .i64 0, .int .i64 0, .int .i64 0, .int .i64 0, .int .i64 0] : Array Value)) :: (gf, 57, FC gr true kd n (m : Int) 0) :: [(w.heap.size + 1, 26, (#[.int .i64 kd, .int .i64 n] : Array Value)), (w.heap.size, 24, cfgCells c s)]) [⟨.slice (some ⟨gw, 0, none⟩) (W.map chf).length cw, 38, 11, (W.map chf).length, KC.flat (W.map chf)⟩, ⟨.slice (some ⟨gt, 0, none⟩) (t.map toE).length ct, 42, 12, (t.map toE).length, KN.flat (t.map toE)⟩, ⟨.slice pa (aQ 0 m).length ca, 38, 11, (aQ 0 m).length, KC.flat (aQ 0 m)⟩] gr room ([] : List (Int × (Nat → Int))) W' := ⟨_, rfl⟩
                      have HPB : RowKit.Hid (∀ W', PX P W' → RG KN w ((gy, 42, (#[.int .i64 i0, .int .i64 0, .int .i64 0, .int .i64 0, .int .i64 0, .int .i64 0, .int .i64 0, .int .i64 0, .int .i64 0, .int .i64 0, .int .i64 0, .int .i64 0] : Array Value)) :: (gf, 57, FC gr true kd n (m : Int) 0) :: [(w.heap.size + 1, 26, (#[.int .i64 kd, .int .i64 n] : Array Value)), (w.heap.size, 24, cfgCells c s)]) [⟨.slice (some ⟨gw, 0, none⟩) (W.map chf).length cw, 38, 11, (W.map chf).length, KC.flat (W.map chf)⟩, ⟨.slice (some ⟨gt, 0, none⟩) (t.map toE).length ct, 42, 12, (t.map toE).length, KN.flat (t.map toE)⟩, ⟨.slice pa (aQ 0 m).length ca, 38, 11, (aQ 0 m).length, KC.flat (aQ 0 m)⟩] gr room ([] : List (Int × (Nat → Int))) W') := by show ∀ W', P W' → _; rw [hPd]; exact fun _ h => h
                      have HPD : RowKit.Hid (∀ W', PX P W' → PX P W'.drew) := by show ∀ W', P W' → P W'.drew; rw [hPd]; exact fun _ h => h.drewN 1
                      have hRw : PX P wr := by show P wr; rw [hPd]; exact hR
                      have hRd := HPD.out _ hRw
                      have hwc : ∀ W', PX P W' → ∀ j v, (CC (chf a)).toList[j]? = some v → W'.cell? ⟨gw, a2 * 11 + j, none⟩ = some v := fun W' hW j v hj => by
                        obtain ⟨g3, c3, hv3, hc3⟩ := row_at KC (HPB.out W' hW).sr 0 rfl hwe
                        injection hv3 with hp3 _ _
                        injection hp3 with hp3
                        injection hp3 with hp3
                        rw [hp3]
                        exact hc3 j v hj
                      have HWC := Lib.hid hwc
                      have y0 : ∀ W', PX P W' → W'.cell? ⟨gy, 0, none⟩ = some (.int .i64 i0) := fun W' hW => ((HPB.out W' hW).sr.st.get 0 rfl).cell 0
                      have w0c : ∀ W', PX P W' → W'.cell? ⟨gw, a2 * 11, none⟩ = some (.int .i64 a) := fun W' hW => by have h := HWC.out W' hW 0 _ rfl; rw [chf_zero] at h; exact h
                      clear hPd hR hwc hRw
                      have HA2 := Lib.hid ha2
                      have HM2 := Lib.hid hmm
                      have HLT2 := Lib.hid hlt2
                      have HWD := Lib.hid hwd
                      clear ha hwe h21 h22 hmm ha2 hlt2
                      by_cases hgo : 0 < g ∧ ¬ a = i0
                      · have hg0 := hgo.1
                        have hane := hgo.2
                        have haneb : (a == i0) = false := by simpa using hane
                        have hanen : (a != i0) = true := by rw [bne_iff_ne]; exact hane
                        have hst2 : stepR (W.drop (a2 + 1)) g (i0, true) = some (r1, g1) := by
                          unfold stepR at hst ⊢
                          rw [if_pos hg0] at hst ⊢
                          rw [List.dropWhile_cons, if_pos (by simpa using hane)] at hst
                          exact hst
                        have HS2 := Lib.hid hst2
                        clear hst hst2 hc2 hwd hgo
                        go_wp2_with fail
                        refine wp_region_held_drew (S := PX P) (by kernel_rfl) hRd (fun hHeld => ?_)
                        refine wpAnyH_take (i := 0) (oi := { dst := some 128, op := Op.move (Operand.tmp 20), type := 3, pos := "own.go:48", after := #[], guard := none }) (v := ?_) rfl (by kernel_rfl) (by kernel_rfl) (by kernel_rfl) (fun _ _ _ h => h) (Or.inl ⟨by kernel_rfl, ?_⟩) (by assumption) ?_; rotate_left; (focus (intro W hSw; go_simp; try with_reducible rfl)); try simp only [Act.put, sT, s0, sS]
                        refine wpAnyH_take (i := 1) (oi := { dst := some 129, op := Op.binOp BinOp.gtr 3 (Operand.tmp 128) (Operand.const (Value.int IntKind.i64 0)) 3, type := 4, pos := "own.go:48", after := #[{ on := 0, ground := Ground.data }], guard := none }) (v := ?_) rfl (by kernel_rfl) (by kernel_rfl) (by kernel_rfl) (fun _ _ _ h => h) (Or.inl ⟨by kernel_rfl, ?_⟩) (by assumption) ?_; rotate_left; (focus (intro W hSw; go_simp; try with_reducible rfl)); try simp only [Act.put, sT, s0, sS]
                        refine wpAnyH_take (i := 2) (oi := { dst := some 130, op := Op.move (Operand.tmp 129), type := 4, pos := "own.go:48", after := #[{ on := 1, ground := Ground.data }], guard := none }) (v := ?_) rfl (by kernel_rfl) (by kernel_rfl) (by kernel_rfl) (fun _ _ _ h => h) (Or.inl ⟨by kernel_rfl, ?_⟩) (by assumption) ?_; rotate_left; (focus (intro W hSw; go_simp; try with_reducible rfl)); try simp only [Act.put, sT, s0, sS]
                        refine wpAnyH_take (i := 3) (oi := { dst := some 131, op := Op.move (Operand.tmp 19), type := 3, pos := "own.go:48", after := #[{ on := 2, ground := Ground.guard }], guard := some (2, true) }) (v := ?_) rfl (by kernel_rfl) (by kernel_rfl) (by kernel_rfl) (fun _ _ _ h => h) (Or.inl ⟨by kernel_rfl, ?_⟩) (by assumption) ?_; rotate_left; (focus (intro W hSw; go_simp; try with_reducible rfl)); try simp only [Act.put, sT, s0, sS]
                        refine wpAnyH_take (i := 4) (oi := { dst := some 132, op := Op.move (Operand.tmp 18), type := 32, pos := "own.go:48", after := #[{ on := 2, ground := Ground.guard }], guard := some (2, true) }) (v := ?_) rfl (by kernel_rfl) (by kernel_rfl) (by kernel_rfl) (fun _ _ _ h => h) (Or.inl ⟨by kernel_rfl, ?_⟩) (by assumption) ?_; rotate_left; (focus (intro W hSw; go_simp; try with_reducible rfl)); try simp only [Act.put, sT, s0, sS]
                        refine wpAnyH_take (i := 5) (oi := { dst := some 133, op := Op.call { callee := Callee.builtin Builtin.len, args := #[Operand.tmp 132], argTypes := #[32] }, type := 3, pos := "own.go:48", after := #[{ on := 4, ground := Ground.data }, { on := 2, ground := Ground.guard }], guard := some (2, true) }) (v := ?_) rfl (by kernel_rfl) (by kernel_rfl) (by kernel_rfl) (fun _ _ _ h => h) (Or.inl ⟨by kernel_rfl, ?_⟩) (by assumption) ?_; rotate_left; (focus (intro W hSw; go_simp; try with_reducible rfl)); try simp only [Act.put, sT, s0, sS]
                        refine wpAnyH_take (i := 6) (oi := { dst := some 134, op := Op.binOp BinOp.lss 3 (Operand.tmp 131) (Operand.tmp 133) 3, type := 4, pos := "own.go:48", after := #[{ on := 3, ground := Ground.data }, { on := 5, ground := Ground.data }, { on := 2, ground := Ground.guard }], guard := some (2, true) }) (v := ?_) rfl (by kernel_rfl) (by kernel_rfl) (by kernel_rfl) (fun _ _ _ h => h) (Or.inl ⟨by kernel_rfl, ?_⟩) (by assumption) ?_; rotate_left; (focus (intro W hSw; go_simp; try with_reducible rfl)); try simp only [Act.put, sT, s0, sS]
                        refine wpAnyH_take (i := 7) (oi := { dst := some 135, op := Op.pick (Operand.tmp 130) (Operand.tmp 134) (Operand.const (Value.bool false)), type := 4, pos := "own.go:48", after := #[{ on := 2, ground := Ground.data }, { on := 6, ground := Ground.data }], guard := none }) (v := ?_) rfl (by kernel_rfl) (by kernel_rfl) (by kernel_rfl) (fun _ _ _ h => h) (Or.inl ⟨by kernel_rfl, ?_⟩) (by assumption) ?_; rotate_left; (focus (intro W hSw; go_simp; try with_reducible rfl)); try simp only [Act.put, sT, s0, sS]
                        refine wpAnyH_take (i := 8) (oi := { dst := some 136, op := Op.move (Operand.tmp 135), type := 4, pos := "own.go:48", after := #[{ on := 7, ground := Ground.data }, { on := 2, ground := Ground.chain }], guard := none }) (v := ?_) rfl (by kernel_rfl) (by kernel_rfl) (by kernel_rfl) (fun _ _ _ h => h) (Or.inl ⟨by kernel_rfl, ?_⟩) (by assumption) ?_; rotate_left; (focus (intro W hSw; go_simp; try with_reducible rfl)); try simp only [Act.put, sT, s0, sS]
                        refine wpAnyH_take (i := 9) (oi := { dst := some 137, op := Op.move (Operand.tmp 18), type := 32, pos := "own.go:48", after := #[{ on := 8, ground := Ground.guard }], guard := some (8, true) }) (v := ?_) rfl (by kernel_rfl) (by kernel_rfl) (by kernel_rfl) (fun _ _ _ h => h) (Or.inl ⟨by kernel_rfl, ?_⟩) (by assumption) ?_; rotate_left; (focus (intro W hSw; go_simp; try with_reducible rfl)); try simp only [Act.put, sT, s0, sS]
                        refine wpAnyH_take (i := 10) (oi := { dst := some 138, op := Op.move (Operand.tmp 19), type := 3, pos := "own.go:48", after := #[{ on := 8, ground := Ground.guard }], guard := some (8, true) }) (v := ?_) rfl (by kernel_rfl) (by kernel_rfl) (by kernel_rfl) (fun _ _ _ h => h) (Or.inl ⟨by kernel_rfl, ?_⟩) (by assumption) ?_; rotate_left; (focus (intro W hSw; go_simp; try with_reducible rfl)); try simp only [Act.put, sT, s0, sS]
                        refine wpAnyH_take (i := 11) (oi := { dst := some 139, op := Op.indexAddr 32 (Operand.tmp 137) (Operand.tmp 138), type := 0, pos := "own.go:48", after := #[{ on := 9, ground := Ground.data }, { on := 10, ground := Ground.data }, { on := 8, ground := Ground.guard }], guard := some (8, true) }) (v := ?_) rfl (by kernel_rfl) (by kernel_rfl) (by kernel_rfl) (fun _ _ _ h => h) (Or.inl ⟨by kernel_rfl, ?_⟩) (by assumption) ?_; rotate_left; (focus (intro W hSw; go_simp; try with_reducible rfl)); try simp only [Act.put, sT, s0, sS]
                        refine wpAnyH_take (i := 12) (oi := { dst := some 140, op := Op.fieldAddr 38 (Operand.tmp 139) 0, type := 0, pos := "own.go:48", after := #[{ on := 11, ground := Ground.data }, { on := 8, ground := Ground.guard }], guard := some (8, true) }) (v := ?_) rfl (by kernel_rfl) (by kernel_rfl) (by kernel_rfl) (fun _ _ _ h => h) (Or.inl ⟨by kernel_rfl, ?_⟩) (by assumption) ?_; rotate_left; (focus (intro W hSw; go_simp; try with_reducible rfl)); try simp only [Act.put, sT, s0, sS]
                        refine wpAnyH_take (i := 13) (oi := { dst := some 141, op := Op.load 3 (Operand.tmp 140), type := 3, pos := "own.go:48", after := #[{ on := 12, ground := Ground.data }, { on := 8, ground := Ground.guard }], guard := some (8, true) }) (v := ?_) rfl (by kernel_rfl) (by kernel_rfl) (by kernel_rfl) (fun _ _ _ h => h) (Or.inl ⟨by kernel_rfl, ?_⟩) (by assumption) ?_; rotate_left; (focus (intro W hSw; go_simp; try with_reducible rfl)); try simp only [Act.put, sT, s0, sS]
                        refine wpAnyH_take (i := 14) (oi := { dst := some 142, op := Op.fieldAddr 42 (Operand.tmp 22) 0, type := 0, pos := "own.go:48", after := #[{ on := 8, ground := Ground.guard }], guard := some (8, true) }) (v := ?_) rfl (by kernel_rfl) (by kernel_rfl) (by kernel_rfl) (fun _ _ _ h => h) (Or.inl ⟨by kernel_rfl, ?_⟩) (by assumption) ?_; rotate_left; (focus (intro W hSw; go_simp; try with_reducible rfl)); try simp only [Act.put, sT, s0, sS]
                        refine wpAnyH_take (i := 15) (oi := { dst := some 143, op := Op.load 3 (Operand.tmp 142), type := 3, pos := "own.go:48", after := #[{ on := 14, ground := Ground.data }, { on := 8, ground := Ground.guard }], guard := some (8, true) }) (v := ?_) rfl (by kernel_rfl) (by kernel_rfl) (by kernel_rfl) (fun _ _ _ h => h) (Or.inl ⟨by kernel_rfl, ?_⟩) (by assumption) ?_; rotate_left; (focus (intro W hSw; go_simp; try with_reducible rfl)); try simp only [Act.put, sT, s0, sS]
                        refine wpAnyH_take (i := 16) (oi := { dst := some 144, op := Op.binOp BinOp.neq 3 (Operand.tmp 141) (Operand.tmp 143) 3, type := 4, pos := "own.go:48", after := #[{ on := 13, ground := Ground.data }, { on := 15, ground := Ground.data }, { on := 8, ground := Ground.guard }], guard := some (8, true) }) (v := ?_) rfl (by kernel_rfl) (by kernel_rfl) (by kernel_rfl) (fun _ _ _ h => h) (Or.inl ⟨by kernel_rfl, ?_⟩) (by assumption) ?_; rotate_left; (focus (intro W hSw; go_simp; try with_reducible rfl)); try simp only [Act.put, sT, s0, sS]
                        refine wpAnyH_take (i := 17) (oi := { dst := some 145, op := Op.pick (Operand.tmp 136) (Operand.tmp 144) (Operand.const (Value.bool false)), type := 4, pos := "own.go:48", after := #[{ on := 8, ground := Ground.data }, { on := 16, ground := Ground.data }], guard := none }) (v := ?_) rfl (by kernel_rfl) (by kernel_rfl) (by kernel_rfl) (fun _ _ _ h => h) (Or.inl ⟨by kernel_rfl, ?_⟩) (by assumption) ?_; rotate_left; (focus (intro W hSw; go_simp; try with_reducible rfl)); try simp only [Act.put, sT, s0, sS]
                        refine wpAnyH_done (by kernel_rfl) ?_ _
                        go_wp2_with fail
                        go_roundg (gk - 1)
                        case measure => have := HM2.out; have := HLT2.out; omega
                        case rel => exact ⟨a2 + 1, by have := HM2.out; have := HLT2.out; omega, HLT2.out, by go_num, HS2.out, HPB.out _ hHeld⟩
                      have hst3 : stepT (a :: W.drop (a2 + 1)) g (i0, true) = some (r1, g1) := by
                        unfold stepR at hst
                        by_cases hg0 : 0 < g
                        · rw [if_pos hg0] at hst
                          have hai : a = i0 := by
                            by_cases h : a = i0
                            · exact h
                            · exact absurd ⟨hg0, h⟩ hgo
                          rw [List.dropWhile_cons, if_neg (by simp [hai])] at hst
                          exact hst
                        · rw [if_neg hg0] at hst
                          exact hst
                      have hst4 : a = i0 ∧ g < i0 ∧ (r1, g1) = (a :: W.drop (a2 + 1), i0) := by
                        unfold stepT at hst3
                        simp only at hst3
                        by_cases h : a = i0 ∧ g < i0
                        · rw [if_pos h] at hst3
                          injection hst3 with hst3
                          exact ⟨h.1, h.2, hst3.symm⟩
                        · rw [if_neg h] at hst3; cases hst3
                      obtain ⟨rfl, hgi, hrr⟩ := hst4
                      injection hrr with hr1 hg1
                      have hgn : ¬ a ≤ g := by omega
                      have hR1 := Lib.hid hr1
                      have hG1 := Lib.hid hg1
                      clear hst hst3 hr1 hg1 hwd hgo
                      have l1 : ∀ W', PX P W' → (loadBig 38 ⟨gy, 1, none⟩).run Try.prog W' = .ok (.agg (CC (fun _ => 0))) W' := fun W' hW => big_mid 38 (CC (fun _ => 0)) _ (fun j v hj => (((HPB.out W' hW).sr.st.get 0 rfl).cell (1 + j)).trans (by rw [Nat.add_comm 1 j, ← Array.getElem?_toList]; exact hj)) Try.underlying38 rfl (by kernel_rfl)
                      have hnge : ¬ (W.length : Int) ≤ (a2 : Int) := by omega
                      have hnge2 : ¬ W.length ≤ a2 := by omega
                      clear hc2
                      by_cases hg0 : 0 < g
                      · have hgb : decide (0 < g) = true := decide_eq_true hg0
                        go_wp2_with fail
                        refine wp_region_held_drew (S := PX P) (by kernel_rfl) hRd (fun hHeld => ?_)
                        refine wpAnyH_take (i := 0) (oi := { dst := some 128, op := Op.move (Operand.tmp 20), type := 3, pos := "own.go:48", after := #[], guard := none }) (v := ?_) rfl (by kernel_rfl) (by kernel_rfl) (by kernel_rfl) (fun _ _ _ h => h) (Or.inl ⟨by kernel_rfl, ?_⟩) (by assumption) ?_; rotate_left; (focus (intro W hSw; go_simp; try with_reducible rfl)); try simp only [Act.put, sT, s0, sS]
                        refine wpAnyH_take (i := 1) (oi := { dst := some 129, op := Op.binOp BinOp.gtr 3 (Operand.tmp 128) (Operand.const (Value.int IntKind.i64 0)) 3, type := 4, pos := "own.go:48", after := #[{ on := 0, ground := Ground.data }], guard := none }) (v := ?_) rfl (by kernel_rfl) (by kernel_rfl) (by kernel_rfl) (fun _ _ _ h => h) (Or.inl ⟨by kernel_rfl, ?_⟩) (by assumption) ?_; rotate_left; (focus (intro W hSw; go_simp; try with_reducible rfl)); try simp only [Act.put, sT, s0, sS]
                        refine wpAnyH_take (i := 2) (oi := { dst := some 130, op := Op.move (Operand.tmp 129), type := 4, pos := "own.go:48", after := #[{ on := 1, ground := Ground.data }], guard := none }) (v := ?_) rfl (by kernel_rfl) (by kernel_rfl) (by kernel_rfl) (fun _ _ _ h => h) (Or.inl ⟨by kernel_rfl, ?_⟩) (by assumption) ?_; rotate_left; (focus (intro W hSw; go_simp; try with_reducible rfl)); try simp only [Act.put, sT, s0, sS]
                        refine wpAnyH_take (i := 3) (oi := { dst := some 131, op := Op.move (Operand.tmp 19), type := 3, pos := "own.go:48", after := #[{ on := 2, ground := Ground.guard }], guard := some (2, true) }) (v := ?_) rfl (by kernel_rfl) (by kernel_rfl) (by kernel_rfl) (fun _ _ _ h => h) (Or.inl ⟨by kernel_rfl, ?_⟩) (by assumption) ?_; rotate_left; (focus (intro W hSw; go_simp; try with_reducible rfl)); try simp only [Act.put, sT, s0, sS]
                        refine wpAnyH_take (i := 4) (oi := { dst := some 132, op := Op.move (Operand.tmp 18), type := 32, pos := "own.go:48", after := #[{ on := 2, ground := Ground.guard }], guard := some (2, true) }) (v := ?_) rfl (by kernel_rfl) (by kernel_rfl) (by kernel_rfl) (fun _ _ _ h => h) (Or.inl ⟨by kernel_rfl, ?_⟩) (by assumption) ?_; rotate_left; (focus (intro W hSw; go_simp; try with_reducible rfl)); try simp only [Act.put, sT, s0, sS]
                        refine wpAnyH_take (i := 5) (oi := { dst := some 133, op := Op.call { callee := Callee.builtin Builtin.len, args := #[Operand.tmp 132], argTypes := #[32] }, type := 3, pos := "own.go:48", after := #[{ on := 4, ground := Ground.data }, { on := 2, ground := Ground.guard }], guard := some (2, true) }) (v := ?_) rfl (by kernel_rfl) (by kernel_rfl) (by kernel_rfl) (fun _ _ _ h => h) (Or.inl ⟨by kernel_rfl, ?_⟩) (by assumption) ?_; rotate_left; (focus (intro W hSw; go_simp; try with_reducible rfl)); try simp only [Act.put, sT, s0, sS]
                        refine wpAnyH_take (i := 6) (oi := { dst := some 134, op := Op.binOp BinOp.lss 3 (Operand.tmp 131) (Operand.tmp 133) 3, type := 4, pos := "own.go:48", after := #[{ on := 3, ground := Ground.data }, { on := 5, ground := Ground.data }, { on := 2, ground := Ground.guard }], guard := some (2, true) }) (v := ?_) rfl (by kernel_rfl) (by kernel_rfl) (by kernel_rfl) (fun _ _ _ h => h) (Or.inl ⟨by kernel_rfl, ?_⟩) (by assumption) ?_; rotate_left; (focus (intro W hSw; go_simp; try with_reducible rfl)); try simp only [Act.put, sT, s0, sS]
                        refine wpAnyH_take (i := 7) (oi := { dst := some 135, op := Op.pick (Operand.tmp 130) (Operand.tmp 134) (Operand.const (Value.bool false)), type := 4, pos := "own.go:48", after := #[{ on := 2, ground := Ground.data }, { on := 6, ground := Ground.data }], guard := none }) (v := ?_) rfl (by kernel_rfl) (by kernel_rfl) (by kernel_rfl) (fun _ _ _ h => h) (Or.inl ⟨by kernel_rfl, ?_⟩) (by assumption) ?_; rotate_left; (focus (intro W hSw; go_simp; try with_reducible rfl)); try simp only [Act.put, sT, s0, sS]
                        refine wpAnyH_take (i := 8) (oi := { dst := some 136, op := Op.move (Operand.tmp 135), type := 4, pos := "own.go:48", after := #[{ on := 7, ground := Ground.data }, { on := 2, ground := Ground.chain }], guard := none }) (v := ?_) rfl (by kernel_rfl) (by kernel_rfl) (by kernel_rfl) (fun _ _ _ h => h) (Or.inl ⟨by kernel_rfl, ?_⟩) (by assumption) ?_; rotate_left; (focus (intro W hSw; go_simp; try with_reducible rfl)); try simp only [Act.put, sT, s0, sS]
                        refine wpAnyH_take (i := 9) (oi := { dst := some 137, op := Op.move (Operand.tmp 18), type := 32, pos := "own.go:48", after := #[{ on := 8, ground := Ground.guard }], guard := some (8, true) }) (v := ?_) rfl (by kernel_rfl) (by kernel_rfl) (by kernel_rfl) (fun _ _ _ h => h) (Or.inl ⟨by kernel_rfl, ?_⟩) (by assumption) ?_; rotate_left; (focus (intro W hSw; go_simp; try with_reducible rfl)); try simp only [Act.put, sT, s0, sS]
                        refine wpAnyH_take (i := 10) (oi := { dst := some 138, op := Op.move (Operand.tmp 19), type := 3, pos := "own.go:48", after := #[{ on := 8, ground := Ground.guard }], guard := some (8, true) }) (v := ?_) rfl (by kernel_rfl) (by kernel_rfl) (by kernel_rfl) (fun _ _ _ h => h) (Or.inl ⟨by kernel_rfl, ?_⟩) (by assumption) ?_; rotate_left; (focus (intro W hSw; go_simp; try with_reducible rfl)); try simp only [Act.put, sT, s0, sS]
                        refine wpAnyH_take (i := 11) (oi := { dst := some 139, op := Op.indexAddr 32 (Operand.tmp 137) (Operand.tmp 138), type := 0, pos := "own.go:48", after := #[{ on := 9, ground := Ground.data }, { on := 10, ground := Ground.data }, { on := 8, ground := Ground.guard }], guard := some (8, true) }) (v := ?_) rfl (by kernel_rfl) (by kernel_rfl) (by kernel_rfl) (fun _ _ _ h => h) (Or.inl ⟨by kernel_rfl, ?_⟩) (by assumption) ?_; rotate_left; (focus (intro W hSw; go_simp; try with_reducible rfl)); try simp only [Act.put, sT, s0, sS]
                        refine wpAnyH_take (i := 12) (oi := { dst := some 140, op := Op.fieldAddr 38 (Operand.tmp 139) 0, type := 0, pos := "own.go:48", after := #[{ on := 11, ground := Ground.data }, { on := 8, ground := Ground.guard }], guard := some (8, true) }) (v := ?_) rfl (by kernel_rfl) (by kernel_rfl) (by kernel_rfl) (fun _ _ _ h => h) (Or.inl ⟨by kernel_rfl, ?_⟩) (by assumption) ?_; rotate_left; (focus (intro W hSw; go_simp; try with_reducible rfl)); try simp only [Act.put, sT, s0, sS]
                        refine wpAnyH_take (i := 13) (oi := { dst := some 141, op := Op.load 3 (Operand.tmp 140), type := 3, pos := "own.go:48", after := #[{ on := 12, ground := Ground.data }, { on := 8, ground := Ground.guard }], guard := some (8, true) }) (v := ?_) rfl (by kernel_rfl) (by kernel_rfl) (by kernel_rfl) (fun _ _ _ h => h) (Or.inl ⟨by kernel_rfl, ?_⟩) (by assumption) ?_; rotate_left; (focus (intro W hSw; go_simp; try with_reducible rfl)); try simp only [Act.put, sT, s0, sS]
                        refine wpAnyH_take (i := 14) (oi := { dst := some 142, op := Op.fieldAddr 42 (Operand.tmp 22) 0, type := 0, pos := "own.go:48", after := #[{ on := 8, ground := Ground.guard }], guard := some (8, true) }) (v := ?_) rfl (by kernel_rfl) (by kernel_rfl) (by kernel_rfl) (fun _ _ _ h => h) (Or.inl ⟨by kernel_rfl, ?_⟩) (by assumption) ?_; rotate_left; (focus (intro W hSw; go_simp; try with_reducible rfl)); try simp only [Act.put, sT, s0, sS]
                        refine wpAnyH_take (i := 15) (oi := { dst := some 143, op := Op.load 3 (Operand.tmp 142), type := 3, pos := "own.go:48", after := #[{ on := 14, ground := Ground.data }, { on := 8, ground := Ground.guard }], guard := some (8, true) }) (v := ?_) rfl (by kernel_rfl) (by kernel_rfl) (by kernel_rfl) (fun _ _ _ h => h) (Or.inl ⟨by kernel_rfl, ?_⟩) (by assumption) ?_; rotate_left; (focus (intro W hSw; go_simp; try with_reducible rfl)); try simp only [Act.put, sT, s0, sS]
                        refine wpAnyH_take (i := 16) (oi := { dst := some 144, op := Op.binOp BinOp.neq 3 (Operand.tmp 141) (Operand.tmp 143) 3, type := 4, pos := "own.go:48", after := #[{ on := 13, ground := Ground.data }, { on := 15, ground := Ground.data }, { on := 8, ground := Ground.guard }], guard := some (8, true) }) (v := ?_) rfl (by kernel_rfl) (by kernel_rfl) (by kernel_rfl) (fun _ _ _ h => h) (Or.inl ⟨by kernel_rfl, ?_⟩) (by assumption) ?_; rotate_left; (focus (intro W hSw; go_simp; try with_reducible rfl)); try simp only [Act.put, sT, s0, sS]
                        refine wpAnyH_take (i := 17) (oi := { dst := some 145, op := Op.pick (Operand.tmp 136) (Operand.tmp 144) (Operand.const (Value.bool false)), type := 4, pos := "own.go:48", after := #[{ on := 8, ground := Ground.data }, { on := 16, ground := Ground.data }], guard := none }) (v := ?_) rfl (by kernel_rfl) (by kernel_rfl) (by kernel_rfl) (fun _ _ _ h => h) (Or.inl ⟨by kernel_rfl, ?_⟩) (by assumption) ?_; rotate_left; (focus (intro W hSw; go_simp; try with_reducible rfl)); try simp only [Act.put, sT, s0, sS]
                        refine wpAnyH_done (by kernel_rfl) ?_ _
                        go_wp2_with fail
                        have hRe := HPD.out _ hHeld
                        refine wp_region_held_drew (S := PX P) (by kernel_rfl) hRe (fun hHeld => ?_)
                        refine wpAnyH_take (i := 0) (oi := { dst := some 152, op := Op.move (Operand.tmp 10), type := 4, pos := "own.go:53", after := #[], guard := none }) (v := ?_) rfl (by kernel_rfl) (by kernel_rfl) (by kernel_rfl) (fun _ _ _ h => h) (Or.inl ⟨by kernel_rfl, ?_⟩) (by assumption) ?_; rotate_left; (focus (intro W hSw; go_simp; try with_reducible rfl)); try simp only [Act.put, sT, s0, sS]
                        refine wpAnyH_take (i := 1) (oi := { dst := some 153, op := Op.unOp UnOp.not 4 (Operand.tmp 152), type := 4, pos := "own.go:53", after := #[{ on := 0, ground := Ground.data }], guard := none }) (v := ?_) rfl (by kernel_rfl) (by kernel_rfl) (by kernel_rfl) (fun _ _ _ h => h) (Or.inl ⟨by kernel_rfl, ?_⟩) (by assumption) ?_; rotate_left; (focus (intro W hSw; go_simp; try with_reducible rfl)); try simp only [Act.put, sT, s0, sS]
                        refine wpAnyH_take (i := 2) (oi := { dst := some 154, op := Op.move (Operand.tmp 153), type := 4, pos := "own.go:53", after := #[{ on := 1, ground := Ground.data }], guard := none }) (v := ?_) rfl (by kernel_rfl) (by kernel_rfl) (by kernel_rfl) (fun _ _ _ h => h) (Or.inl ⟨by kernel_rfl, ?_⟩) (by assumption) ?_; rotate_left; (focus (intro W hSw; go_simp; try with_reducible rfl)); try simp only [Act.put, sT, s0, sS]
                        refine wpAnyH_take (i := 3) (oi := { dst := some 155, op := Op.move (Operand.tmp 19), type := 3, pos := "own.go:53", after := #[{ on := 2, ground := Ground.guard }], guard := some (2, false) }) (v := ?_) rfl (by kernel_rfl) (by kernel_rfl) (by kernel_rfl) (fun _ _ _ h => h) (Or.inl ⟨by kernel_rfl, ?_⟩) (by assumption) ?_; rotate_left; (focus (intro W hSw; go_simp; try with_reducible rfl)); try simp only [Act.put, sT, s0, sS]
                        refine wpAnyH_take (i := 4) (oi := { dst := some 156, op := Op.move (Operand.tmp 18), type := 32, pos := "own.go:53", after := #[{ on := 2, ground := Ground.guard }], guard := some (2, false) }) (v := ?_) rfl (by kernel_rfl) (by kernel_rfl) (by kernel_rfl) (fun _ _ _ h => h) (Or.inl ⟨by kernel_rfl, ?_⟩) (by assumption) ?_; rotate_left; (focus (intro W hSw; go_simp; try with_reducible rfl)); try simp only [Act.put, sT, s0, sS]
                        refine wpAnyH_take (i := 5) (oi := { dst := some 157, op := Op.call { callee := Callee.builtin Builtin.len, args := #[Operand.tmp 156], argTypes := #[32] }, type := 3, pos := "own.go:53", after := #[{ on := 4, ground := Ground.data }, { on := 2, ground := Ground.guard }], guard := some (2, false) }) (v := ?_) rfl (by kernel_rfl) (by kernel_rfl) (by kernel_rfl) (fun _ _ _ h => h) (Or.inl ⟨by kernel_rfl, ?_⟩) (by assumption) ?_; rotate_left; (focus (intro W hSw; go_simp; try with_reducible rfl)); try simp only [Act.put, sT, s0, sS]
                        refine wpAnyH_take (i := 6) (oi := { dst := some 158, op := Op.binOp BinOp.geq 3 (Operand.tmp 155) (Operand.tmp 157) 3, type := 4, pos := "own.go:53", after := #[{ on := 3, ground := Ground.data }, { on := 5, ground := Ground.data }, { on := 2, ground := Ground.guard }], guard := some (2, false) }) (v := ?_) rfl (by kernel_rfl) (by kernel_rfl) (by kernel_rfl) (fun _ _ _ h => h) (Or.inl ⟨by kernel_rfl, ?_⟩) (by assumption) ?_; rotate_left; (focus (intro W hSw; go_simp; try with_reducible rfl)); try simp only [Act.put, sT, s0, sS]
                        refine wpAnyH_take (i := 7) (oi := { dst := some 159, op := Op.pick (Operand.tmp 154) (Operand.const (Value.bool true)) (Operand.tmp 158), type := 4, pos := "own.go:53", after := #[{ on := 2, ground := Ground.data }, { on := 6, ground := Ground.data }], guard := none }) (v := ?_) rfl (by kernel_rfl) (by kernel_rfl) (by kernel_rfl) (fun _ _ _ h => h) (Or.inl ⟨by kernel_rfl, ?_⟩) (by assumption) ?_; rotate_left; (focus (intro W hSw; go_simp; try with_reducible rfl)); try simp only [Act.put, sT, s0, sS]
                        refine wpAnyH_take (i := 8) (oi := { dst := some 160, op := Op.move (Operand.tmp 159), type := 4, pos := "own.go:53", after := #[{ on := 7, ground := Ground.data }, { on := 2, ground := Ground.chain }], guard := none }) (v := ?_) rfl (by kernel_rfl) (by kernel_rfl) (by kernel_rfl) (fun _ _ _ h => h) (Or.inl ⟨by kernel_rfl, ?_⟩) (by assumption) ?_; rotate_left; (focus (intro W hSw; go_simp; try with_reducible rfl)); try simp only [Act.put, sT, s0, sS]
                        refine wpAnyH_take (i := 9) (oi := { dst := some 161, op := Op.move (Operand.tmp 18), type := 32, pos := "own.go:53", after := #[{ on := 8, ground := Ground.guard }], guard := some (8, false) }) (v := ?_) rfl (by kernel_rfl) (by kernel_rfl) (by kernel_rfl) (fun _ _ _ h => h) (Or.inl ⟨by kernel_rfl, ?_⟩) (by assumption) ?_; rotate_left; (focus (intro W hSw; go_simp; try with_reducible rfl)); try simp only [Act.put, sT, s0, sS]
                        refine wpAnyH_take (i := 10) (oi := { dst := some 162, op := Op.move (Operand.tmp 19), type := 3, pos := "own.go:53", after := #[{ on := 8, ground := Ground.guard }], guard := some (8, false) }) (v := ?_) rfl (by kernel_rfl) (by kernel_rfl) (by kernel_rfl) (fun _ _ _ h => h) (Or.inl ⟨by kernel_rfl, ?_⟩) (by assumption) ?_; rotate_left; (focus (intro W hSw; go_simp; try with_reducible rfl)); try simp only [Act.put, sT, s0, sS]
                        refine wpAnyH_take (i := 11) (oi := { dst := some 163, op := Op.indexAddr 32 (Operand.tmp 161) (Operand.tmp 162), type := 0, pos := "own.go:53", after := #[{ on := 9, ground := Ground.data }, { on := 10, ground := Ground.data }, { on := 8, ground := Ground.guard }], guard := some (8, false) }) (v := ?_) rfl (by kernel_rfl) (by kernel_rfl) (by kernel_rfl) (fun _ _ _ h => h) (Or.inl ⟨by kernel_rfl, ?_⟩) (by assumption) ?_; rotate_left; (focus (intro W hSw; go_simp; try with_reducible rfl)); try simp only [Act.put, sT, s0, sS]
                        refine wpAnyH_take (i := 12) (oi := { dst := some 164, op := Op.fieldAddr 38 (Operand.tmp 163) 0, type := 0, pos := "own.go:53", after := #[{ on := 11, ground := Ground.data }, { on := 8, ground := Ground.guard }], guard := some (8, false) }) (v := ?_) rfl (by kernel_rfl) (by kernel_rfl) (by kernel_rfl) (fun _ _ _ h => h) (Or.inl ⟨by kernel_rfl, ?_⟩) (by assumption) ?_; rotate_left; (focus (intro W hSw; go_simp; try with_reducible rfl)); try simp only [Act.put, sT, s0, sS]
                        refine wpAnyH_take (i := 13) (oi := { dst := some 165, op := Op.load 3 (Operand.tmp 164), type := 3, pos := "own.go:53", after := #[{ on := 12, ground := Ground.data }, { on := 8, ground := Ground.guard }], guard := some (8, false) }) (v := ?_) rfl (by kernel_rfl) (by kernel_rfl) (by kernel_rfl) (fun _ _ _ h => h) (Or.inl ⟨by kernel_rfl, ?_⟩) (by assumption) ?_; rotate_left; (focus (intro W hSw; go_simp; try with_reducible rfl)); try simp only [Act.put, sT, s0, sS]
                        refine wpAnyH_take (i := 14) (oi := { dst := some 166, op := Op.fieldAddr 42 (Operand.tmp 22) 0, type := 0, pos := "own.go:53", after := #[{ on := 8, ground := Ground.guard }], guard := some (8, false) }) (v := ?_) rfl (by kernel_rfl) (by kernel_rfl) (by kernel_rfl) (fun _ _ _ h => h) (Or.inl ⟨by kernel_rfl, ?_⟩) (by assumption) ?_; rotate_left; (focus (intro W hSw; go_simp; try with_reducible rfl)); try simp only [Act.put, sT, s0, sS]
                        refine wpAnyH_take (i := 15) (oi := { dst := some 167, op := Op.load 3 (Operand.tmp 166), type := 3, pos := "own.go:53", after := #[{ on := 14, ground := Ground.data }, { on := 8, ground := Ground.guard }], guard := some (8, false) }) (v := ?_) rfl (by kernel_rfl) (by kernel_rfl) (by kernel_rfl) (fun _ _ _ h => h) (Or.inl ⟨by kernel_rfl, ?_⟩) (by assumption) ?_; rotate_left; (focus (intro W hSw; go_simp; try with_reducible rfl)); try simp only [Act.put, sT, s0, sS]
                        refine wpAnyH_take (i := 16) (oi := { dst := some 168, op := Op.binOp BinOp.neq 3 (Operand.tmp 165) (Operand.tmp 167) 3, type := 4, pos := "own.go:53", after := #[{ on := 13, ground := Ground.data }, { on := 15, ground := Ground.data }, { on := 8, ground := Ground.guard }], guard := some (8, false) }) (v := ?_) rfl (by kernel_rfl) (by kernel_rfl) (by kernel_rfl) (fun _ _ _ h => h) (Or.inl ⟨by kernel_rfl, ?_⟩) (by assumption) ?_; rotate_left; (focus (intro W hSw; go_simp; try with_reducible rfl)); try simp only [Act.put, sT, s0, sS]
                        refine wpAnyH_take (i := 17) (oi := { dst := some 169, op := Op.pick (Operand.tmp 160) (Operand.const (Value.bool true)) (Operand.tmp 168), type := 4, pos := "own.go:53", after := #[{ on := 8, ground := Ground.data }, { on := 16, ground := Ground.data }], guard := none }) (v := ?_) rfl (by kernel_rfl) (by kernel_rfl) (by kernel_rfl) (fun _ _ _ h => h) (Or.inl ⟨by kernel_rfl, ?_⟩) (by assumption) ?_; rotate_left; (focus (intro W hSw; go_simp; try with_reducible rfl)); try simp only [Act.put, sT, s0, sS]
                        refine wpAnyH_take (i := 18) (oi := { dst := some 170, op := Op.move (Operand.tmp 169), type := 4, pos := "own.go:53", after := #[{ on := 17, ground := Ground.data }, { on := 8, ground := Ground.chain }], guard := none }) (v := ?_) rfl (by kernel_rfl) (by kernel_rfl) (by kernel_rfl) (fun _ _ _ h => h) (Or.inl ⟨by kernel_rfl, ?_⟩) (by assumption) ?_; rotate_left; (focus (intro W hSw; go_simp; try with_reducible rfl)); try simp only [Act.put, sT, s0, sS]
                        refine wpAnyH_take (i := 19) (oi := { dst := some 171, op := Op.fieldAddr 42 (Operand.tmp 22) 0, type := 0, pos := "own.go:53", after := #[{ on := 18, ground := Ground.guard }], guard := some (18, false) }) (v := ?_) rfl (by kernel_rfl) (by kernel_rfl) (by kernel_rfl) (fun _ _ _ h => h) (Or.inl ⟨by kernel_rfl, ?_⟩) (by assumption) ?_; rotate_left; (focus (intro W hSw; go_simp; try with_reducible rfl)); try simp only [Act.put, sT, s0, sS]
                        refine wpAnyH_take (i := 20) (oi := { dst := some 172, op := Op.load 3 (Operand.tmp 171), type := 3, pos := "own.go:53", after := #[{ on := 19, ground := Ground.data }, { on := 18, ground := Ground.guard }], guard := some (18, false) }) (v := ?_) rfl (by kernel_rfl) (by kernel_rfl) (by kernel_rfl) (fun _ _ _ h => h) (Or.inl ⟨by kernel_rfl, ?_⟩) (by assumption) ?_; rotate_left; (focus (intro W hSw; go_simp; try with_reducible rfl)); try simp only [Act.put, sT, s0, sS]
                        refine wpAnyH_take (i := 21) (oi := { dst := some 173, op := Op.move (Operand.tmp 20), type := 3, pos := "own.go:53", after := #[{ on := 18, ground := Ground.guard }], guard := some (18, false) }) (v := ?_) rfl (by kernel_rfl) (by kernel_rfl) (by kernel_rfl) (fun _ _ _ h => h) (Or.inl ⟨by kernel_rfl, ?_⟩) (by assumption) ?_; rotate_left; (focus (intro W hSw; go_simp; try with_reducible rfl)); try simp only [Act.put, sT, s0, sS]
                        refine wpAnyH_take (i := 22) (oi := { dst := some 174, op := Op.binOp BinOp.leq 3 (Operand.tmp 172) (Operand.tmp 173) 3, type := 4, pos := "own.go:53", after := #[{ on := 20, ground := Ground.data }, { on := 21, ground := Ground.data }, { on := 18, ground := Ground.guard }], guard := some (18, false) }) (v := ?_) rfl (by kernel_rfl) (by kernel_rfl) (by kernel_rfl) (fun _ _ _ h => h) (Or.inl ⟨by kernel_rfl, ?_⟩) (by assumption) ?_; rotate_left; (focus (intro W hSw; go_simp; try with_reducible rfl)); try simp only [Act.put, sT, s0, sS]
                        refine wpAnyH_take (i := 23) (oi := { dst := some 175, op := Op.pick (Operand.tmp 170) (Operand.const (Value.bool true)) (Operand.tmp 174), type := 4, pos := "own.go:53", after := #[{ on := 18, ground := Ground.data }, { on := 22, ground := Ground.data }], guard := none }) (v := ?_) rfl (by kernel_rfl) (by kernel_rfl) (by kernel_rfl) (fun _ _ _ h => h) (Or.inl ⟨by kernel_rfl, ?_⟩) (by assumption) ?_; rotate_left; (focus (intro W hSw; go_simp; try with_reducible rfl)); try simp only [Act.put, sT, s0, sS]
                        refine wpAnyH_done (by kernel_rfl) ?_ _
                        go_wp2_with fail
                        go_roundg (t.length - (i + 1))
                        case measure => have := HI0.out; have := HLT.out; omega
                        case rel => exact ⟨i + 1, a2, a, by have := HI0.out; have := HLT.out; omega, by go_num, rfl, rfl, HA2.out, by have h := HRN.out; rw [hR1.out, hG1.out] at h; rw [HWD.out]; exact h, (HPB.out _ hHeld).sub (List.sublist_cons_self _ _)⟩
                      · have hgb : decide (0 < g) = false := decide_eq_false (by omega)
                        go_wp2_with fail
                        refine wp_region_held_drew (S := PX P) (by kernel_rfl) hRd (fun hHeld => ?_)
                        refine wpAnyH_take (i := 0) (oi := { dst := some 128, op := Op.move (Operand.tmp 20), type := 3, pos := "own.go:48", after := #[], guard := none }) (v := ?_) rfl (by kernel_rfl) (by kernel_rfl) (by kernel_rfl) (fun _ _ _ h => h) (Or.inl ⟨by kernel_rfl, ?_⟩) (by assumption) ?_; rotate_left; (focus (intro W hSw; go_simp; try with_reducible rfl)); try simp only [Act.put, sT, s0, sS]
                        refine wpAnyH_take (i := 1) (oi := { dst := some 129, op := Op.binOp BinOp.gtr 3 (Operand.tmp 128) (Operand.const (Value.int IntKind.i64 0)) 3, type := 4, pos := "own.go:48", after := #[{ on := 0, ground := Ground.data }], guard := none }) (v := ?_) rfl (by kernel_rfl) (by kernel_rfl) (by kernel_rfl) (fun _ _ _ h => h) (Or.inl ⟨by kernel_rfl, ?_⟩) (by assumption) ?_; rotate_left; (focus (intro W hSw; go_simp; try with_reducible rfl)); try simp only [Act.put, sT, s0, sS]
                        refine wpAnyH_take (i := 2) (oi := { dst := some 130, op := Op.move (Operand.tmp 129), type := 4, pos := "own.go:48", after := #[{ on := 1, ground := Ground.data }], guard := none }) (v := ?_) rfl (by kernel_rfl) (by kernel_rfl) (by kernel_rfl) (fun _ _ _ h => h) (Or.inl ⟨by kernel_rfl, ?_⟩) (by assumption) ?_; rotate_left; (focus (intro W hSw; go_simp; try with_reducible rfl)); try simp only [Act.put, sT, s0, sS]
                        refine wpAnyH_take (i := 3) (oi := { dst := some 131, op := Op.move (Operand.tmp 19), type := 3, pos := "own.go:48", after := #[{ on := 2, ground := Ground.guard }], guard := some (2, true) }) (v := undef) rfl (by kernel_rfl) (by kernel_rfl) (by kernel_rfl) (fun _ _ _ h => h) (Or.inr ⟨by kernel_rfl, rfl⟩) (by assumption) ?_; try simp only [Act.put, sT, s0, sS]
                        refine wpAnyH_take (i := 4) (oi := { dst := some 132, op := Op.move (Operand.tmp 18), type := 32, pos := "own.go:48", after := #[{ on := 2, ground := Ground.guard }], guard := some (2, true) }) (v := undef) rfl (by kernel_rfl) (by kernel_rfl) (by kernel_rfl) (fun _ _ _ h => h) (Or.inr ⟨by kernel_rfl, rfl⟩) (by assumption) ?_; try simp only [Act.put, sT, s0, sS]
                        refine wpAnyH_take (i := 5) (oi := { dst := some 133, op := Op.call { callee := Callee.builtin Builtin.len, args := #[Operand.tmp 132], argTypes := #[32] }, type := 3, pos := "own.go:48", after := #[{ on := 4, ground := Ground.data }, { on := 2, ground := Ground.guard }], guard := some (2, true) }) (v := undef) rfl (by kernel_rfl) (by kernel_rfl) (by kernel_rfl) (fun _ _ _ h => h) (Or.inr ⟨by kernel_rfl, rfl⟩) (by assumption) ?_; try simp only [Act.put, sT, s0, sS]
                        refine wpAnyH_take (i := 6) (oi := { dst := some 134, op := Op.binOp BinOp.lss 3 (Operand.tmp 131) (Operand.tmp 133) 3, type := 4, pos := "own.go:48", after := #[{ on := 3, ground := Ground.data }, { on := 5, ground := Ground.data }, { on := 2, ground := Ground.guard }], guard := some (2, true) }) (v := undef) rfl (by kernel_rfl) (by kernel_rfl) (by kernel_rfl) (fun _ _ _ h => h) (Or.inr ⟨by kernel_rfl, rfl⟩) (by assumption) ?_; try simp only [Act.put, sT, s0, sS]
                        refine wpAnyH_take (i := 7) (oi := { dst := some 135, op := Op.pick (Operand.tmp 130) (Operand.tmp 134) (Operand.const (Value.bool false)), type := 4, pos := "own.go:48", after := #[{ on := 2, ground := Ground.data }, { on := 6, ground := Ground.data }], guard := none }) (v := ?_) rfl (by kernel_rfl) (by kernel_rfl) (by kernel_rfl) (fun _ _ _ h => h) (Or.inl ⟨by kernel_rfl, ?_⟩) (by assumption) ?_; rotate_left; (focus (intro W hSw; go_simp; try with_reducible rfl)); try simp only [Act.put, sT, s0, sS]
                        refine wpAnyH_take (i := 8) (oi := { dst := some 136, op := Op.move (Operand.tmp 135), type := 4, pos := "own.go:48", after := #[{ on := 7, ground := Ground.data }, { on := 2, ground := Ground.chain }], guard := none }) (v := ?_) rfl (by kernel_rfl) (by kernel_rfl) (by kernel_rfl) (fun _ _ _ h => h) (Or.inl ⟨by kernel_rfl, ?_⟩) (by assumption) ?_; rotate_left; (focus (intro W hSw; go_simp; try with_reducible rfl)); try simp only [Act.put, sT, s0, sS]
                        refine wpAnyH_take (i := 9) (oi := { dst := some 137, op := Op.move (Operand.tmp 18), type := 32, pos := "own.go:48", after := #[{ on := 8, ground := Ground.guard }], guard := some (8, true) }) (v := undef) rfl (by kernel_rfl) (by kernel_rfl) (by kernel_rfl) (fun _ _ _ h => h) (Or.inr ⟨by kernel_rfl, rfl⟩) (by assumption) ?_; try simp only [Act.put, sT, s0, sS]
                        refine wpAnyH_take (i := 10) (oi := { dst := some 138, op := Op.move (Operand.tmp 19), type := 3, pos := "own.go:48", after := #[{ on := 8, ground := Ground.guard }], guard := some (8, true) }) (v := undef) rfl (by kernel_rfl) (by kernel_rfl) (by kernel_rfl) (fun _ _ _ h => h) (Or.inr ⟨by kernel_rfl, rfl⟩) (by assumption) ?_; try simp only [Act.put, sT, s0, sS]
                        refine wpAnyH_take (i := 11) (oi := { dst := some 139, op := Op.indexAddr 32 (Operand.tmp 137) (Operand.tmp 138), type := 0, pos := "own.go:48", after := #[{ on := 9, ground := Ground.data }, { on := 10, ground := Ground.data }, { on := 8, ground := Ground.guard }], guard := some (8, true) }) (v := undef) rfl (by kernel_rfl) (by kernel_rfl) (by kernel_rfl) (fun _ _ _ h => h) (Or.inr ⟨by kernel_rfl, rfl⟩) (by assumption) ?_; try simp only [Act.put, sT, s0, sS]
                        refine wpAnyH_take (i := 12) (oi := { dst := some 140, op := Op.fieldAddr 38 (Operand.tmp 139) 0, type := 0, pos := "own.go:48", after := #[{ on := 11, ground := Ground.data }, { on := 8, ground := Ground.guard }], guard := some (8, true) }) (v := undef) rfl (by kernel_rfl) (by kernel_rfl) (by kernel_rfl) (fun _ _ _ h => h) (Or.inr ⟨by kernel_rfl, rfl⟩) (by assumption) ?_; try simp only [Act.put, sT, s0, sS]
                        refine wpAnyH_take (i := 13) (oi := { dst := some 141, op := Op.load 3 (Operand.tmp 140), type := 3, pos := "own.go:48", after := #[{ on := 12, ground := Ground.data }, { on := 8, ground := Ground.guard }], guard := some (8, true) }) (v := undef) rfl (by kernel_rfl) (by kernel_rfl) (by kernel_rfl) (fun _ _ _ h => h) (Or.inr ⟨by kernel_rfl, rfl⟩) (by assumption) ?_; try simp only [Act.put, sT, s0, sS]
                        refine wpAnyH_take (i := 14) (oi := { dst := some 142, op := Op.fieldAddr 42 (Operand.tmp 22) 0, type := 0, pos := "own.go:48", after := #[{ on := 8, ground := Ground.guard }], guard := some (8, true) }) (v := undef) rfl (by kernel_rfl) (by kernel_rfl) (by kernel_rfl) (fun _ _ _ h => h) (Or.inr ⟨by kernel_rfl, rfl⟩) (by assumption) ?_; try simp only [Act.put, sT, s0, sS]
                        refine wpAnyH_take (i := 15) (oi := { dst := some 143, op := Op.load 3 (Operand.tmp 142), type := 3, pos := "own.go:48", after := #[{ on := 14, ground := Ground.data }, { on := 8, ground := Ground.guard }], guard := some (8, true) }) (v := undef) rfl (by kernel_rfl) (by kernel_rfl) (by kernel_rfl) (fun _ _ _ h => h) (Or.inr ⟨by kernel_rfl, rfl⟩) (by assumption) ?_; try simp only [Act.put, sT, s0, sS]
                        refine wpAnyH_take (i := 16) (oi := { dst := some 144, op := Op.binOp BinOp.neq 3 (Operand.tmp 141) (Operand.tmp 143) 3, type := 4, pos := "own.go:48", after := #[{ on := 13, ground := Ground.data }, { on := 15, ground := Ground.data }, { on := 8, ground := Ground.guard }], guard := some (8, true) }) (v := undef) rfl (by kernel_rfl) (by kernel_rfl) (by kernel_rfl) (fun _ _ _ h => h) (Or.inr ⟨by kernel_rfl, rfl⟩) (by assumption) ?_; try simp only [Act.put, sT, s0, sS]
                        refine wpAnyH_take (i := 17) (oi := { dst := some 145, op := Op.pick (Operand.tmp 136) (Operand.tmp 144) (Operand.const (Value.bool false)), type := 4, pos := "own.go:48", after := #[{ on := 8, ground := Ground.data }, { on := 16, ground := Ground.data }], guard := none }) (v := ?_) rfl (by kernel_rfl) (by kernel_rfl) (by kernel_rfl) (fun _ _ _ h => h) (Or.inl ⟨by kernel_rfl, ?_⟩) (by assumption) ?_; rotate_left; (focus (intro W hSw; go_simp; try with_reducible rfl)); try simp only [Act.put, sT, s0, sS]
                        refine wpAnyH_done (by kernel_rfl) ?_ _
                        go_wp2_with fail
                        have hRe := HPD.out _ hHeld
                        refine wp_region_held_drew (S := PX P) (by kernel_rfl) hRe (fun hHeld => ?_)
                        refine wpAnyH_take (i := 0) (oi := { dst := some 152, op := Op.move (Operand.tmp 10), type := 4, pos := "own.go:53", after := #[], guard := none }) (v := ?_) rfl (by kernel_rfl) (by kernel_rfl) (by kernel_rfl) (fun _ _ _ h => h) (Or.inl ⟨by kernel_rfl, ?_⟩) (by assumption) ?_; rotate_left; (focus (intro W hSw; go_simp; try with_reducible rfl)); try simp only [Act.put, sT, s0, sS]
                        refine wpAnyH_take (i := 1) (oi := { dst := some 153, op := Op.unOp UnOp.not 4 (Operand.tmp 152), type := 4, pos := "own.go:53", after := #[{ on := 0, ground := Ground.data }], guard := none }) (v := ?_) rfl (by kernel_rfl) (by kernel_rfl) (by kernel_rfl) (fun _ _ _ h => h) (Or.inl ⟨by kernel_rfl, ?_⟩) (by assumption) ?_; rotate_left; (focus (intro W hSw; go_simp; try with_reducible rfl)); try simp only [Act.put, sT, s0, sS]
                        refine wpAnyH_take (i := 2) (oi := { dst := some 154, op := Op.move (Operand.tmp 153), type := 4, pos := "own.go:53", after := #[{ on := 1, ground := Ground.data }], guard := none }) (v := ?_) rfl (by kernel_rfl) (by kernel_rfl) (by kernel_rfl) (fun _ _ _ h => h) (Or.inl ⟨by kernel_rfl, ?_⟩) (by assumption) ?_; rotate_left; (focus (intro W hSw; go_simp; try with_reducible rfl)); try simp only [Act.put, sT, s0, sS]
                        refine wpAnyH_take (i := 3) (oi := { dst := some 155, op := Op.move (Operand.tmp 19), type := 3, pos := "own.go:53", after := #[{ on := 2, ground := Ground.guard }], guard := some (2, false) }) (v := ?_) rfl (by kernel_rfl) (by kernel_rfl) (by kernel_rfl) (fun _ _ _ h => h) (Or.inl ⟨by kernel_rfl, ?_⟩) (by assumption) ?_; rotate_left; (focus (intro W hSw; go_simp; try with_reducible rfl)); try simp only [Act.put, sT, s0, sS]
                        refine wpAnyH_take (i := 4) (oi := { dst := some 156, op := Op.move (Operand.tmp 18), type := 32, pos := "own.go:53", after := #[{ on := 2, ground := Ground.guard }], guard := some (2, false) }) (v := ?_) rfl (by kernel_rfl) (by kernel_rfl) (by kernel_rfl) (fun _ _ _ h => h) (Or.inl ⟨by kernel_rfl, ?_⟩) (by assumption) ?_; rotate_left; (focus (intro W hSw; go_simp; try with_reducible rfl)); try simp only [Act.put, sT, s0, sS]
                        refine wpAnyH_take (i := 5) (oi := { dst := some 157, op := Op.call { callee := Callee.builtin Builtin.len, args := #[Operand.tmp 156], argTypes := #[32] }, type := 3, pos := "own.go:53", after := #[{ on := 4, ground := Ground.data }, { on := 2, ground := Ground.guard }], guard := some (2, false) }) (v := ?_) rfl (by kernel_rfl) (by kernel_rfl) (by kernel_rfl) (fun _ _ _ h => h) (Or.inl ⟨by kernel_rfl, ?_⟩) (by assumption) ?_; rotate_left; (focus (intro W hSw; go_simp; try with_reducible rfl)); try simp only [Act.put, sT, s0, sS]
                        refine wpAnyH_take (i := 6) (oi := { dst := some 158, op := Op.binOp BinOp.geq 3 (Operand.tmp 155) (Operand.tmp 157) 3, type := 4, pos := "own.go:53", after := #[{ on := 3, ground := Ground.data }, { on := 5, ground := Ground.data }, { on := 2, ground := Ground.guard }], guard := some (2, false) }) (v := ?_) rfl (by kernel_rfl) (by kernel_rfl) (by kernel_rfl) (fun _ _ _ h => h) (Or.inl ⟨by kernel_rfl, ?_⟩) (by assumption) ?_; rotate_left; (focus (intro W hSw; go_simp; try with_reducible rfl)); try simp only [Act.put, sT, s0, sS]
                        refine wpAnyH_take (i := 7) (oi := { dst := some 159, op := Op.pick (Operand.tmp 154) (Operand.const (Value.bool true)) (Operand.tmp 158), type := 4, pos := "own.go:53", after := #[{ on := 2, ground := Ground.data }, { on := 6, ground := Ground.data }], guard := none }) (v := ?_) rfl (by kernel_rfl) (by kernel_rfl) (by kernel_rfl) (fun _ _ _ h => h) (Or.inl ⟨by kernel_rfl, ?_⟩) (by assumption) ?_; rotate_left; (focus (intro W hSw; go_simp; try with_reducible rfl)); try simp only [Act.put, sT, s0, sS]
                        refine wpAnyH_take (i := 8) (oi := { dst := some 160, op := Op.move (Operand.tmp 159), type := 4, pos := "own.go:53", after := #[{ on := 7, ground := Ground.data }, { on := 2, ground := Ground.chain }], guard := none }) (v := ?_) rfl (by kernel_rfl) (by kernel_rfl) (by kernel_rfl) (fun _ _ _ h => h) (Or.inl ⟨by kernel_rfl, ?_⟩) (by assumption) ?_; rotate_left; (focus (intro W hSw; go_simp; try with_reducible rfl)); try simp only [Act.put, sT, s0, sS]
                        refine wpAnyH_take (i := 9) (oi := { dst := some 161, op := Op.move (Operand.tmp 18), type := 32, pos := "own.go:53", after := #[{ on := 8, ground := Ground.guard }], guard := some (8, false) }) (v := ?_) rfl (by kernel_rfl) (by kernel_rfl) (by kernel_rfl) (fun _ _ _ h => h) (Or.inl ⟨by kernel_rfl, ?_⟩) (by assumption) ?_; rotate_left; (focus (intro W hSw; go_simp; try with_reducible rfl)); try simp only [Act.put, sT, s0, sS]
                        refine wpAnyH_take (i := 10) (oi := { dst := some 162, op := Op.move (Operand.tmp 19), type := 3, pos := "own.go:53", after := #[{ on := 8, ground := Ground.guard }], guard := some (8, false) }) (v := ?_) rfl (by kernel_rfl) (by kernel_rfl) (by kernel_rfl) (fun _ _ _ h => h) (Or.inl ⟨by kernel_rfl, ?_⟩) (by assumption) ?_; rotate_left; (focus (intro W hSw; go_simp; try with_reducible rfl)); try simp only [Act.put, sT, s0, sS]
                        refine wpAnyH_take (i := 11) (oi := { dst := some 163, op := Op.indexAddr 32 (Operand.tmp 161) (Operand.tmp 162), type := 0, pos := "own.go:53", after := #[{ on := 9, ground := Ground.data }, { on := 10, ground := Ground.data }, { on := 8, ground := Ground.guard }], guard := some (8, false) }) (v := ?_) rfl (by kernel_rfl) (by kernel_rfl) (by kernel_rfl) (fun _ _ _ h => h) (Or.inl ⟨by kernel_rfl, ?_⟩) (by assumption) ?_; rotate_left; (focus (intro W hSw; go_simp; try with_reducible rfl)); try simp only [Act.put, sT, s0, sS]
                        refine wpAnyH_take (i := 12) (oi := { dst := some 164, op := Op.fieldAddr 38 (Operand.tmp 163) 0, type := 0, pos := "own.go:53", after := #[{ on := 11, ground := Ground.data }, { on := 8, ground := Ground.guard }], guard := some (8, false) }) (v := ?_) rfl (by kernel_rfl) (by kernel_rfl) (by kernel_rfl) (fun _ _ _ h => h) (Or.inl ⟨by kernel_rfl, ?_⟩) (by assumption) ?_; rotate_left; (focus (intro W hSw; go_simp; try with_reducible rfl)); try simp only [Act.put, sT, s0, sS]
                        refine wpAnyH_take (i := 13) (oi := { dst := some 165, op := Op.load 3 (Operand.tmp 164), type := 3, pos := "own.go:53", after := #[{ on := 12, ground := Ground.data }, { on := 8, ground := Ground.guard }], guard := some (8, false) }) (v := ?_) rfl (by kernel_rfl) (by kernel_rfl) (by kernel_rfl) (fun _ _ _ h => h) (Or.inl ⟨by kernel_rfl, ?_⟩) (by assumption) ?_; rotate_left; (focus (intro W hSw; go_simp; try with_reducible rfl)); try simp only [Act.put, sT, s0, sS]
                        refine wpAnyH_take (i := 14) (oi := { dst := some 166, op := Op.fieldAddr 42 (Operand.tmp 22) 0, type := 0, pos := "own.go:53", after := #[{ on := 8, ground := Ground.guard }], guard := some (8, false) }) (v := ?_) rfl (by kernel_rfl) (by kernel_rfl) (by kernel_rfl) (fun _ _ _ h => h) (Or.inl ⟨by kernel_rfl, ?_⟩) (by assumption) ?_; rotate_left; (focus (intro W hSw; go_simp; try with_reducible rfl)); try simp only [Act.put, sT, s0, sS]
                        refine wpAnyH_take (i := 15) (oi := { dst := some 167, op := Op.load 3 (Operand.tmp 166), type := 3, pos := "own.go:53", after := #[{ on := 14, ground := Ground.data }, { on := 8, ground := Ground.guard }], guard := some (8, false) }) (v := ?_) rfl (by kernel_rfl) (by kernel_rfl) (by kernel_rfl) (fun _ _ _ h => h) (Or.inl ⟨by kernel_rfl, ?_⟩) (by assumption) ?_; rotate_left; (focus (intro W hSw; go_simp; try with_reducible rfl)); try simp only [Act.put, sT, s0, sS]
                        refine wpAnyH_take (i := 16) (oi := { dst := some 168, op := Op.binOp BinOp.neq 3 (Operand.tmp 165) (Operand.tmp 167) 3, type := 4, pos := "own.go:53", after := #[{ on := 13, ground := Ground.data }, { on := 15, ground := Ground.data }, { on := 8, ground := Ground.guard }], guard := some (8, false) }) (v := ?_) rfl (by kernel_rfl) (by kernel_rfl) (by kernel_rfl) (fun _ _ _ h => h) (Or.inl ⟨by kernel_rfl, ?_⟩) (by assumption) ?_; rotate_left; (focus (intro W hSw; go_simp; try with_reducible rfl)); try simp only [Act.put, sT, s0, sS]
                        refine wpAnyH_take (i := 17) (oi := { dst := some 169, op := Op.pick (Operand.tmp 160) (Operand.const (Value.bool true)) (Operand.tmp 168), type := 4, pos := "own.go:53", after := #[{ on := 8, ground := Ground.data }, { on := 16, ground := Ground.data }], guard := none }) (v := ?_) rfl (by kernel_rfl) (by kernel_rfl) (by kernel_rfl) (fun _ _ _ h => h) (Or.inl ⟨by kernel_rfl, ?_⟩) (by assumption) ?_; rotate_left; (focus (intro W hSw; go_simp; try with_reducible rfl)); try simp only [Act.put, sT, s0, sS]
                        refine wpAnyH_take (i := 18) (oi := { dst := some 170, op := Op.move (Operand.tmp 169), type := 4, pos := "own.go:53", after := #[{ on := 17, ground := Ground.data }, { on := 8, ground := Ground.chain }], guard := none }) (v := ?_) rfl (by kernel_rfl) (by kernel_rfl) (by kernel_rfl) (fun _ _ _ h => h) (Or.inl ⟨by kernel_rfl, ?_⟩) (by assumption) ?_; rotate_left; (focus (intro W hSw; go_simp; try with_reducible rfl)); try simp only [Act.put, sT, s0, sS]
                        refine wpAnyH_take (i := 19) (oi := { dst := some 171, op := Op.fieldAddr 42 (Operand.tmp 22) 0, type := 0, pos := "own.go:53", after := #[{ on := 18, ground := Ground.guard }], guard := some (18, false) }) (v := ?_) rfl (by kernel_rfl) (by kernel_rfl) (by kernel_rfl) (fun _ _ _ h => h) (Or.inl ⟨by kernel_rfl, ?_⟩) (by assumption) ?_; rotate_left; (focus (intro W hSw; go_simp; try with_reducible rfl)); try simp only [Act.put, sT, s0, sS]
                        refine wpAnyH_take (i := 20) (oi := { dst := some 172, op := Op.load 3 (Operand.tmp 171), type := 3, pos := "own.go:53", after := #[{ on := 19, ground := Ground.data }, { on := 18, ground := Ground.guard }], guard := some (18, false) }) (v := ?_) rfl (by kernel_rfl) (by kernel_rfl) (by kernel_rfl) (fun _ _ _ h => h) (Or.inl ⟨by kernel_rfl, ?_⟩) (by assumption) ?_; rotate_left; (focus (intro W hSw; go_simp; try with_reducible rfl)); try simp only [Act.put, sT, s0, sS]
                        refine wpAnyH_take (i := 21) (oi := { dst := some 173, op := Op.move (Operand.tmp 20), type := 3, pos := "own.go:53", after := #[{ on := 18, ground := Ground.guard }], guard := some (18, false) }) (v := ?_) rfl (by kernel_rfl) (by kernel_rfl) (by kernel_rfl) (fun _ _ _ h => h) (Or.inl ⟨by kernel_rfl, ?_⟩) (by assumption) ?_; rotate_left; (focus (intro W hSw; go_simp; try with_reducible rfl)); try simp only [Act.put, sT, s0, sS]
                        refine wpAnyH_take (i := 22) (oi := { dst := some 174, op := Op.binOp BinOp.leq 3 (Operand.tmp 172) (Operand.tmp 173) 3, type := 4, pos := "own.go:53", after := #[{ on := 20, ground := Ground.data }, { on := 21, ground := Ground.data }, { on := 18, ground := Ground.guard }], guard := some (18, false) }) (v := ?_) rfl (by kernel_rfl) (by kernel_rfl) (by kernel_rfl) (fun _ _ _ h => h) (Or.inl ⟨by kernel_rfl, ?_⟩) (by assumption) ?_; rotate_left; (focus (intro W hSw; go_simp; try with_reducible rfl)); try simp only [Act.put, sT, s0, sS]
                        refine wpAnyH_take (i := 23) (oi := { dst := some 175, op := Op.pick (Operand.tmp 170) (Operand.const (Value.bool true)) (Operand.tmp 174), type := 4, pos := "own.go:53", after := #[{ on := 18, ground := Ground.data }, { on := 22, ground := Ground.data }], guard := none }) (v := ?_) rfl (by kernel_rfl) (by kernel_rfl) (by kernel_rfl) (fun _ _ _ h => h) (Or.inl ⟨by kernel_rfl, ?_⟩) (by assumption) ?_; rotate_left; (focus (intro W hSw; go_simp; try with_reducible rfl)); try simp only [Act.put, sT, s0, sS]
                        refine wpAnyH_done (by kernel_rfl) ?_ _
                        go_wp2_with fail
                        go_roundg (t.length - (i + 1))
                        case measure => have := HI0.out; have := HLT.out; omega
                        case rel => exact ⟨i + 1, a2, a, by have := HI0.out; have := HLT.out; omega, by go_num, rfl, rfl, HA2.out, by have h := HRN.out; rw [hR1.out, hG1.out] at h; rw [HWD.out]; exact h, (HPB.out _ hHeld).sub (List.sublist_cons_self _ _)⟩
              have hnt : ¬ (i : Int) < (t.length : Int) := by omega
              have hie : t.drop i = [] := List.drop_eq_nil_of_le (by omega)
              rw [hie, run] at hrun
              injection hrun with hrun
              injection hrun with hr1 hg1
              subst hg1
              obtain ⟨P, hPd⟩ : ∃ P : World → Prop, P = fun W' => RG KN w ((gf, 57, FC gr true kd n (m : Int) 0) :: [(w.heap.size + 1, 26, (#[.int .i64 kd, .int .i64 n] : Array Value)), (w.heap.size, 24, cfgCells c s)]) [⟨.slice pw (W.map chf).length cw, 38, 11, (W.map chf).length, KC.flat (W.map chf)⟩, ⟨.slice pt (t.map toE).length ct, 42, 12, (t.map toE).length, KN.flat (t.map toE)⟩, ⟨.slice pa (aQ 0 m).length ca, 38, 11, (aQ 0 m).length, KC.flat (aQ 0 m)⟩] gr room ([] : List (Int × (Nat → Int))) W' := ⟨_, rfl⟩
              have HPB : RowKit.Hid (∀ W', PX P W' → RG KN w ((gf, 57, FC gr true kd n (m : Int) 0) :: [(w.heap.size + 1, 26, (#[.int .i64 kd, .int .i64 n] : Array Value)), (w.heap.size, 24, cfgCells c s)]) [⟨.slice pw (W.map chf).length cw, 38, 11, (W.map chf).length, KC.flat (W.map chf)⟩, ⟨.slice pt (t.map toE).length ct, 42, 12, (t.map toE).length, KN.flat (t.map toE)⟩, ⟨.slice pa (aQ 0 m).length ca, 38, 11, (aQ 0 m).length, KC.flat (aQ 0 m)⟩] gr room ([] : List (Int × (Nat → Int))) W') := by show ∀ W', P W' → _; rw [hPd]; exact fun _ h => h
              have hRe : PX P wr.drew := by show P wr.drew; rw [hPd]; exact hR.drewN 1
              have hRp : PX P wr := by show P wr; rw [hPd]; exact hR
              clear hPd hR hie hlt
              have HPR := Lib.hid hRp
              clear hRe hRp
              by_cases hg0 : 0 < g
              · clear hr1 ha1
                go_wp2_with fail
                go_ret
                exact ⟨rfl, (HPB.out _ HPR.out).sr.below⟩
              · have hrn := HGR.out (by omega)
                rw [hrn] at hr1
                have hae : a1 = W.length := by
                  have h := congrArg List.length hr1
                  rw [List.length_drop] at h
                  simp at h
                  omega
                have hazz : (a1 : Int) = (W.length : Int) := by omega
                subst hae
                clear hr1 ha1
                go_wp2_with (go_at_call 12; refine (lost_any (HPB.out _ HPR.out)).mono ?_; rintro e w9 ⟨rfl, rfl⟩)
                go_ret
                exact ⟨rfl, (HPB.out _ HPR.out).sr.below⟩
end Go.Proofs.Ytjfpmolnipiphaa
