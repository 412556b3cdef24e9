-- PRINTED BY print.sh 35421559b90ae4d0a3588c463048766b98c2df88dd9212a6774a882060cdf62d: not written by this session
import Derived.Test.YtnikhfcjnimbdaaPTokenBitsx0
import Derived.Test.YtnikhfcjnimbdaaPTokenBitsx1
namespace Go.Proofs.Ytnikhfcjnimbdaa.PTokenBits
open Go.RowKit Go.Proofs.YtnikhfcjnimbdaaW.PrintWords Go.Proofs.YtnikhfcjnimbdaaW.PrintLast Go.Proofs.YtnikhfcjnimbdaaW.PrintMore
attribute [local go_sem] max2_int min2_int max_two min_two max_three min_three max_four min_four   -- for this text's walks alone
set_option linter.unusedVariables false
set_option linter.unusedSimpArgs false

/-! ### hoistwaylaw12_TokenBits: function 5 -/
mutual
def hoistwaylaw12_TokenBits.j0 : Nat → Int → Int → Int → Int → Int → Int → Bool → Option (Bool)
  | 0, _, _, _, _, _, _, _ => none
  | k + 1, x0, x1, x2, x4, x11, x12, x42 => if x42 = true then (some false) else ((token_Is.f k x0 x12 x2 x11).bind fun t123 => (if t123 = true then (if x12 < 1 then (hoistwaylaw12_TokenBits.j1 k x0 x1 x2 x4 true) else (hoistwaylaw12_TokenBits.j1 k x0 x1 x2 x4 (decide (x12 > 1073741824)))) else (hoistwaylaw12_TokenBits.j1 k x0 x1 x2 x4 false)))
def hoistwaylaw12_TokenBits.j1 : Nat → Int → Int → Int → Int → Bool → Option (Bool)
  | 0, _, _, _, _, _ => none
  | k + 1, x0, x1, x2, x4, x55 => if x55 = true then (some false) else ((token_Of.f k x0 ((x1) % 256) x2).bind fun t124 => ((token_Of.f k x0 (wrap64 (x4)) x2).bind fun t125 => (some ((t124 == t125) == (((x1) % 256) == (wrap64 (x4)))))))
end
def hoistwaylaw12_TokenBits.f (k : Nat) (a0 : Int) (a1 : Int) (a2 : Int) (a3 : Int) (a4 : Int) : Option (Bool) := (hoistwaylaw12_awake.f k).bind fun t118 => (if t118 = true then ((token_Of.f k a0 a1 a2).bind fun t119 => ((token_Of.f k a0 (wrap64 (a1 + (wrap64 (4294967296 * (wrap64 (Int.tmod (IntKind.u64.wrap (a3)) 1000)))))) a2).bind fun t120 => (if t120 = t119 then ((token_Pass.f k a0 (wrap64 (a1 + (wrap64 (4294967296 * (wrap64 (Int.tmod (IntKind.u64.wrap (a3)) 1000))))))).bind fun t121 => ((token_Pass.f k a0 a1).bind fun t122 => (hoistwaylaw12_TokenBits.j0 k a0 a1 a2 a4 t119 (wrap64 (a1 + (wrap64 (4294967296 * (wrap64 (Int.tmod (IntKind.u64.wrap (a3)) 1000)))))) (t121 != t122)))) else (hoistwaylaw12_TokenBits.j0 k a0 a1 a2 a4 t119 (wrap64 (a1 + (wrap64 (4294967296 * (wrap64 (Int.tmod (IntKind.u64.wrap (a3)) 1000)))))) true)))) else (some false))
theorem hoistwaylaw12_TokenBits.mono_l : ∀ k, (∀ y0 y1 y2 y3 y4 y5 y6, LeO (hoistwaylaw12_TokenBits.j0 k y0 y1 y2 y3 y4 y5 y6) (hoistwaylaw12_TokenBits.j0 (k + 1) y0 y1 y2 y3 y4 y5 y6)) ∧ (∀ y0 y1 y2 y3 y4, LeO (hoistwaylaw12_TokenBits.j1 k y0 y1 y2 y3 y4) (hoistwaylaw12_TokenBits.j1 (k + 1) y0 y1 y2 y3 y4))
  | 0 => ⟨fun _ _ _ _ _ _ _ r h => by simp [hoistwaylaw12_TokenBits.j0] at h, fun _ _ _ _ _ r h => by simp [hoistwaylaw12_TokenBits.j1] at h⟩
  | k + 1 => by
    obtain ⟨ih0, ih1⟩ := hoistwaylaw12_TokenBits.mono_l k
    refine ⟨?_, ?_⟩
    · intro y0 y1 y2 y3 y4 y5 y6
      unfold hoistwaylaw12_TokenBits.j0
      repeat' first
      | (with_reducible exact ih0 _ _ _ _ _ _ _)
      | (with_reducible exact ih1 _ _ _ _ _)
      | (with_reducible exact hoistwaylaw12_awake.mono _)
      | (with_reducible exact token_Is.mono _ _ _ _ _)
      | (with_reducible exact token_Of.mono _ _ _ _)
      | (with_reducible exact token_Pass.mono _ _ _)
      | (with_reducible exact LeO.refl _)
      | (with_reducible exact LeO.none _)
      | (with_reducible refine LeO.ite ?_ ?_)
      | (with_reducible refine LeO.bind ?_ (fun _ => ?_))
      | exact ih0 _ _ _ _ _ _ _
      | exact ih1 _ _ _ _ _
      | exact hoistwaylaw12_awake.mono _
      | exact token_Is.mono _ _ _ _ _
      | exact token_Of.mono _ _ _ _
      | exact token_Pass.mono _ _ _
      | exact LeO.none _
      | refine LeO.ite ?_ ?_
      | refine LeO.bind ?_ (fun _ => ?_)
    · intro y0 y1 y2 y3 y4
      unfold hoistwaylaw12_TokenBits.j1
      repeat' first
      | (with_reducible exact ih0 _ _ _ _ _ _ _)
      | (with_reducible exact ih1 _ _ _ _ _)
      | (with_reducible exact hoistwaylaw12_awake.mono _)
      | (with_reducible exact token_Is.mono _ _ _ _ _)
      | (with_reducible exact token_Of.mono _ _ _ _)
      | (with_reducible exact token_Pass.mono _ _ _)
      | (with_reducible exact LeO.refl _)
      | (with_reducible exact LeO.none _)
      | (with_reducible refine LeO.ite ?_ ?_)
      | (with_reducible refine LeO.bind ?_ (fun _ => ?_))
      | exact ih0 _ _ _ _ _ _ _
      | exact ih1 _ _ _ _ _
      | exact hoistwaylaw12_awake.mono _
      | exact token_Is.mono _ _ _ _ _
      | exact token_Of.mono _ _ _ _
      | exact token_Pass.mono _ _ _
      | exact LeO.none _
      | refine LeO.ite ?_ ?_
      | refine LeO.bind ?_ (fun _ => ?_)
theorem hoistwaylaw12_TokenBits.mono : ∀ a0 a1 a2 a3 a4 k, LeO (hoistwaylaw12_TokenBits.f k a0 a1 a2 a3 a4) (hoistwaylaw12_TokenBits.f (k + 1) a0 a1 a2 a3 a4) := by
  intro a0 a1 a2 a3 a4 k
  obtain ⟨ih0, ih1⟩ := hoistwaylaw12_TokenBits.mono_l k
  unfold hoistwaylaw12_TokenBits.f
  repeat' first
      | (with_reducible exact ih0 _ _ _ _ _ _ _)
      | (with_reducible exact ih1 _ _ _ _ _)
      | (with_reducible exact hoistwaylaw12_awake.mono _)
      | (with_reducible exact token_Is.mono _ _ _ _ _)
      | (with_reducible exact token_Of.mono _ _ _ _)
      | (with_reducible exact token_Pass.mono _ _ _)
      | (with_reducible exact LeO.refl _)
      | (with_reducible exact LeO.none _)
      | (with_reducible refine LeO.ite ?_ ?_)
      | (with_reducible refine LeO.bind ?_ (fun _ => ?_))
      | exact ih0 _ _ _ _ _ _ _
      | exact ih1 _ _ _ _ _
      | exact hoistwaylaw12_awake.mono _
      | exact token_Is.mono _ _ _ _ _
      | exact token_Of.mono _ _ _ _
      | exact token_Pass.mono _ _ _
      | exact LeO.none _
      | refine LeO.ite ?_ ?_
      | refine LeO.bind ?_ (fun _ => ?_)
set_option maxHeartbeats 8000000 in
set_option maxRecDepth 100000 in
theorem hoistwaylaw12_TokenBits.calls (k : Nat) (a0 : Int) (a1 : Int) (a2 : Int) (a3 : Int) (a4 : Int) (r : Bool) (w : World) (h : hoistwaylaw12_TokenBits.f k a0 a1 a2 a3 a4 = some r) :
    Calls Try.prog 5 #[.int .u32 a0, .int .i64 a1, .int .i64 a2, .int .i64 a3, .int .u8 a4] w fun e w' => e = .returned (.bool r) ∧ Drawn0 w w' := by
  have H : ((hoistwaylaw12_awake.f k).bind fun t118 => (if t118 = true then ((token_Of.f k a0 a1 a2).bind fun t119 => ((token_Of.f k a0 (wrap64 (a1 + (wrap64 (4294967296 * (wrap64 (Int.tmod (IntKind.u64.wrap (a3)) 1000)))))) a2).bind fun t120 => (if t120 = t119 then ((token_Pass.f k a0 (wrap64 (a1 + (wrap64 (4294967296 * (wrap64 (Int.tmod (IntKind.u64.wrap (a3)) 1000))))))).bind fun t121 => ((token_Pass.f k a0 a1).bind fun t122 => (hoistwaylaw12_TokenBits.j0 k a0 a1 a2 a4 t119 (wrap64 (a1 + (wrap64 (4294967296 * (wrap64 (Int.tmod (IntKind.u64.wrap (a3)) 1000)))))) (t121 != t122)))) else (hoistwaylaw12_TokenBits.j0 k a0 a1 a2 a4 t119 (wrap64 (a1 + (wrap64 (4294967296 * (wrap64 (Int.tmod (IntKind.u64.wrap (a3)) 1000)))))) true)))) else (some false))) = some r := h
  clear h
  replace H := Option.bind_eq_some_iff.mp H
  obtain ⟨t118, A60, H⟩ := H
  replace H : (if t118 = true then ((token_Of.f k a0 a1 a2).bind fun t119 => ((token_Of.f k a0 (wrap64 (a1 + (wrap64 (4294967296 * (wrap64 (Int.tmod (IntKind.u64.wrap (a3)) 1000)))))) a2).bind fun t120 => (if t120 = t119 then ((token_Pass.f k a0 (wrap64 (a1 + (wrap64 (4294967296 * (wrap64 (Int.tmod (IntKind.u64.wrap (a3)) 1000))))))).bind fun t121 => ((token_Pass.f k a0 a1).bind fun t122 => (hoistwaylaw12_TokenBits.j0 k a0 a1 a2 a4 t119 (wrap64 (a1 + (wrap64 (4294967296 * (wrap64 (Int.tmod (IntKind.u64.wrap (a3)) 1000)))))) (t121 != t122)))) else (hoistwaylaw12_TokenBits.j0 k a0 a1 a2 a4 t119 (wrap64 (a1 + (wrap64 (4294967296 * (wrap64 (Int.tmod (IntKind.u64.wrap (a3)) 1000)))))) true)))) else (some false)) = some r := H
  have A6 := Aside0.mk A60
  clear A60
  by_cases c7 : t118 = true
  · subst c7
    have H1 : ((token_Of.f k a0 a1 a2).bind fun t119 => ((token_Of.f k a0 (wrap64 (a1 + (wrap64 (4294967296 * (wrap64 (Int.tmod (IntKind.u64.wrap (a3)) 1000)))))) a2).bind fun t120 => (if t120 = t119 then ((token_Pass.f k a0 (wrap64 (a1 + (wrap64 (4294967296 * (wrap64 (Int.tmod (IntKind.u64.wrap (a3)) 1000))))))).bind fun t121 => ((token_Pass.f k a0 a1).bind fun t122 => (hoistwaylaw12_TokenBits.j0 k a0 a1 a2 a4 t119 (wrap64 (a1 + (wrap64 (4294967296 * (wrap64 (Int.tmod (IntKind.u64.wrap (a3)) 1000)))))) (t121 != t122)))) else (hoistwaylaw12_TokenBits.j0 k a0 a1 a2 a4 t119 (wrap64 (a1 + (wrap64 (4294967296 * (wrap64 (Int.tmod (IntKind.u64.wrap (a3)) 1000)))))) true)))) = some r := by rw [if_pos rfl] at H; exact H
    clear H
    have H := H1
    clear H1
    replace H := Option.bind_eq_some_iff.mp H
    obtain ⟨t119, A80, H⟩ := H
    replace H : ((token_Of.f k a0 (wrap64 (a1 + (wrap64 (4294967296 * (wrap64 (Int.tmod (IntKind.u64.wrap (a3)) 1000)))))) a2).bind fun t120 => (if t120 = t119 then ((token_Pass.f k a0 (wrap64 (a1 + (wrap64 (4294967296 * (wrap64 (Int.tmod (IntKind.u64.wrap (a3)) 1000))))))).bind fun t121 => ((token_Pass.f k a0 a1).bind fun t122 => (hoistwaylaw12_TokenBits.j0 k a0 a1 a2 a4 t119 (wrap64 (a1 + (wrap64 (4294967296 * (wrap64 (Int.tmod (IntKind.u64.wrap (a3)) 1000)))))) (t121 != t122)))) else (hoistwaylaw12_TokenBits.j0 k a0 a1 a2 a4 t119 (wrap64 (a1 + (wrap64 (4294967296 * (wrap64 (Int.tmod (IntKind.u64.wrap (a3)) 1000)))))) true))) = some r := H
    have A8 := Aside0.mk A80
    clear A80
    have HC9 := Aside0.mk H
    clear H
    go_enter Try.func5, Try.ntmps5
    go_upto_region 5 with (first | ((with_reducible refine gate_callee (f := 6) rfl ?_); refine goesL_ (some 15) rfl rfl Try.func6 (by kernel_rfl) rfl #[] rfl (by (try simp only [List.map_toArray, List.map_cons, List.map_nil]); first | done | rfl | (simp only [List.length_drop, List.length_take]; rfl)) ?_; (with_reducible refine (hoistwaylaw12_awake.calls k  true _ A6.out).mono ?_); rintro e w' ⟨rfl, ⟨nd, rfl⟩⟩; refine ⟨_, rfl, ?_⟩) | ((with_reducible refine gate_callee (f := 8) rfl ?_); refine goesL_ (some 20) rfl rfl Try.func8 (by kernel_rfl) rfl #[.int .u32 a0, .int .i64 a1, .int .i64 a2] rfl (by (try simp only [List.map_toArray, List.map_cons, List.map_nil]); first | done | rfl | (simp only [List.length_drop, List.length_take]; rfl)) ?_; (with_reducible refine (token_Of.calls k a0 a1 a2 t119 _ A8.out).mono ?_); rintro e w' ⟨rfl, ⟨nd, rfl⟩⟩; refine ⟨_, rfl, ?_⟩))
    (try simp only [Act.put, List.setIfInBounds_toArray, List.set_cons_zero, List.set_cons_succ])
    go_cut [42] (fun v42 wc => ∃ (kq : Nat) (x42_8 : Bool), v42 = .bool x42_8 ∧ Aside0 (hoistwaylaw12_TokenBits.j0 kq a0 a1 a2 a4 t119 (wrap64 (a1 + (wrap64 (4294967296 * (wrap64 (Int.tmod (IntKind.u64.wrap (a3)) 1000)))))) x42_8 = some r) ∧ Aside0 (kq ≤ k) ∧ Drawn0 w wc)
    case first =>
      have H := HC9.out
      clear HC9
      replace H := Option.bind_eq_some_iff.mp H
      obtain ⟨t120, A100, H⟩ := H
      replace H : (if t120 = t119 then ((token_Pass.f k a0 (wrap64 (a1 + (wrap64 (4294967296 * (wrap64 (Int.tmod (IntKind.u64.wrap (a3)) 1000))))))).bind fun t121 => ((token_Pass.f k a0 a1).bind fun t122 => (hoistwaylaw12_TokenBits.j0 k a0 a1 a2 a4 t119 (wrap64 (a1 + (wrap64 (4294967296 * (wrap64 (Int.tmod (IntKind.u64.wrap (a3)) 1000)))))) (t121 != t122)))) else (hoistwaylaw12_TokenBits.j0 k a0 a1 a2 a4 t119 (wrap64 (a1 + (wrap64 (4294967296 * (wrap64 (Int.tmod (IntKind.u64.wrap (a3)) 1000)))))) true)) = some r := H
      have A10 := Aside0.mk A100
      clear A100
      by_cases c11 : t120 = t119
      · rw [if_pos c11] at H
        have c11b0 : (t120 == t119) = true := beq_iff_eq.mpr c11
        have c11b1 : (t120 != t119) = false := bne_eq_false_iff_eq.mpr c11
        clear c11
        (first | rw [c11b0] | (simp only [i64_w, i32_w]; rw [c11b0]) | skip)
        replace H := Option.bind_eq_some_iff.mp H
        obtain ⟨t121, A120, H⟩ := H
        replace H : ((token_Pass.f k a0 a1).bind fun t122 => (hoistwaylaw12_TokenBits.j0 k a0 a1 a2 a4 t119 (wrap64 (a1 + (wrap64 (4294967296 * (wrap64 (Int.tmod (IntKind.u64.wrap (a3)) 1000)))))) (t121 != t122))) = some r := H
        have A12 := Aside0.mk A120
        clear A120
        replace H := Option.bind_eq_some_iff.mp H
        obtain ⟨t122, A130, H⟩ := H
        replace H : (hoistwaylaw12_TokenBits.j0 k a0 a1 a2 a4 t119 (wrap64 (a1 + (wrap64 (4294967296 * (wrap64 (Int.tmod (IntKind.u64.wrap (a3)) 1000)))))) (t121 != t122)) = some r := H
        have A13 := Aside0.mk A130
        clear A130
        have H' := Aside0.mk H
        clear H
        go_wp2_with (first | ((with_reducible refine gate_callee (f := 8) rfl ?_); refine goesL_ (some 31) rfl rfl Try.func8 (by kernel_rfl) rfl #[.int .u32 a0, .int .i64 (wrap64 (a1 + (wrap64 (4294967296 * (wrap64 (Int.tmod (IntKind.u64.wrap (a3)) 1000)))))), .int .i64 a2] rfl (by (try simp only [List.map_toArray, List.map_cons, List.map_nil]); first | done | rfl | (simp only [List.length_drop, List.length_take]; rfl)) ?_; (with_reducible refine (token_Of.calls k a0 (wrap64 (a1 + (wrap64 (4294967296 * (wrap64 (Int.tmod (IntKind.u64.wrap (a3)) 1000)))))) a2 t120 _ A10.out).mono ?_); rintro e w' ⟨rfl, ⟨nd, rfl⟩⟩; refine ⟨_, rfl, ?_⟩) | (go_at_call 9; (with_reducible refine (token_Pass.calls k a0 (wrap64 (a1 + (wrap64 (4294967296 * (wrap64 (Int.tmod (IntKind.u64.wrap (a3)) 1000)))))) t121 _ A12.out).mono ?_); rintro e w' ⟨rfl, ⟨nd, rfl⟩⟩) | (go_at_call 9; (with_reducible refine (token_Pass.calls k a0 a1 t122 _ A13.out).mono ?_); rintro e w' ⟨rfl, ⟨nd, rfl⟩⟩))
        go_meet
        case rel => exact ⟨_, ((t121 != t122)), (by first | rfl | (simp; done) | (simp [*]; done)), H', ⟨by first | omega | exact Nat.le_refl _⟩, by repeat (first | exact Drawn0.refl _ | apply Drawn0.step)⟩
      · rw [if_neg c11] at H
        have c11b0 : (t120 == t119) = false := beq_eq_false_iff_ne.mpr c11
        have c11b1 : (t120 != t119) = true := bne_iff_ne.mpr c11
        (first | rw [c11b0] | (simp only [i64_w, i32_w]; rw [c11b0]) | skip)
        have H' := Aside0.mk H
        clear H
        go_wp2_with (first | ((with_reducible refine gate_callee (f := 8) rfl ?_); refine goesL_ (some 31) rfl rfl Try.func8 (by kernel_rfl) rfl #[.int .u32 a0, .int .i64 (wrap64 (a1 + (wrap64 (4294967296 * (wrap64 (Int.tmod (IntKind.u64.wrap (a3)) 1000)))))), .int .i64 a2] rfl (by (try simp only [List.map_toArray, List.map_cons, List.map_nil]); first | done | rfl | (simp only [List.length_drop, List.length_take]; rfl)) ?_; (with_reducible refine (token_Of.calls k a0 (wrap64 (a1 + (wrap64 (4294967296 * (wrap64 (Int.tmod (IntKind.u64.wrap (a3)) 1000)))))) a2 t120 _ A10.out).mono ?_); rintro e w' ⟨rfl, ⟨nd, rfl⟩⟩; refine ⟨_, rfl, ?_⟩))
        go_meet
        case rel => exact ⟨_, (true), (by first | rfl | (simp; done) | (simp [*]; done)), H', ⟨by first | omega | exact Nat.le_refl _⟩, by repeat (first | exact Drawn0.refl _ | apply Drawn0.step)⟩
    case rest =>
      clear HC9
      try clear c1
      try clear p2
      try clear c5
      try clear c6
      try clear p6
      try clear c7
      try clear c8
      try clear c11
      try clear c11b0
      try clear c11b1
      obtain ⟨kq, x42_8, rfl, HA, HJ8, ⟨mc8, rfl⟩⟩ := hcut
      cases kq with
      | zero => exact absurd HA.out (by simp [hoistwaylaw12_TokenBits.j0])
      | succ kj8 =>
        have H := HA.out
        clear HA
        simp only [hoistwaylaw12_TokenBits.j0] at H
        by_cases c14 : x42_8 = true
        · subst c14
          have H1 : (some false) = some r := by rw [if_pos rfl] at H; exact H
          clear H
          have H := H1
          clear H1
          obtain rfl := Option.some.inj H
          go_wp2
          go_ret
          exact ⟨by first | rfl | (simp; done) | (simp [*]; done), by repeat (first | exact Drawn0.refl _ | apply Drawn0.step)⟩
        · replace c14 := Bool.eq_false_iff.mpr c14
          subst c14
          have H1 : ((token_Is.f kj8 a0 (wrap64 (a1 + (wrap64 (4294967296 * (wrap64 (Int.tmod (IntKind.u64.wrap (a3)) 1000)))))) a2 t119).bind fun t123 => (if t123 = true then (if (wrap64 (a1 + (wrap64 (4294967296 * (wrap64 (Int.tmod (IntKind.u64.wrap (a3)) 1000)))))) < 1 then (hoistwaylaw12_TokenBits.j1 kj8 a0 a1 a2 a4 true) else (hoistwaylaw12_TokenBits.j1 kj8 a0 a1 a2 a4 (decide ((wrap64 (a1 + (wrap64 (4294967296 * (wrap64 (Int.tmod (IntKind.u64.wrap (a3)) 1000)))))) > 1073741824)))) else (hoistwaylaw12_TokenBits.j1 kj8 a0 a1 a2 a4 false))) = some r := by rw [if_neg (show ¬ (false = true) by decide)] at H; exact H
          clear H
          have H := H1
          clear H1
          have HC15 := Aside0.mk H
          clear H
          go_upto_region 7 with (fail)
          go_cut [55] (fun v55 wc => ∃ (kq : Nat) (x55_14 : Bool), v55 = .bool x55_14 ∧ Aside0 (hoistwaylaw12_TokenBits.j1 kq a0 a1 a2 a4 x55_14 = some r) ∧ Aside0 (kq ≤ kj8) ∧ Drawn0 w wc)
          case first =>
            have H := HC15.out
            clear HC15
            replace H := Option.bind_eq_some_iff.mp H
            obtain ⟨t123, A160, H⟩ := H
            replace H : (if t123 = true then (if (wrap64 (a1 + (wrap64 (4294967296 * (wrap64 (Int.tmod (IntKind.u64.wrap (a3)) 1000)))))) < 1 then (hoistwaylaw12_TokenBits.j1 kj8 a0 a1 a2 a4 true) else (hoistwaylaw12_TokenBits.j1 kj8 a0 a1 a2 a4 (decide ((wrap64 (a1 + (wrap64 (4294967296 * (wrap64 (Int.tmod (IntKind.u64.wrap (a3)) 1000)))))) > 1073741824)))) else (hoistwaylaw12_TokenBits.j1 kj8 a0 a1 a2 a4 false)) = some r := H
            have A16 := Aside0.mk A160
            clear A160
            by_cases c17 : t123 = true
            · subst c17
              have H1 : (if (wrap64 (a1 + (wrap64 (4294967296 * (wrap64 (Int.tmod (IntKind.u64.wrap (a3)) 1000)))))) < 1 then (hoistwaylaw12_TokenBits.j1 kj8 a0 a1 a2 a4 true) else (hoistwaylaw12_TokenBits.j1 kj8 a0 a1 a2 a4 (decide ((wrap64 (a1 + (wrap64 (4294967296 * (wrap64 (Int.tmod (IntKind.u64.wrap (a3)) 1000)))))) > 1073741824)))) = some r := by rw [if_pos rfl] at H; exact H
              clear H
              have H := H1
              clear H1
              by_cases c18 : (wrap64 (a1 + (wrap64 (4294967296 * (wrap64 (Int.tmod (IntKind.u64.wrap (a3)) 1000)))))) < 1
              · rw [if_pos c18] at H
                have c18b0 : decide ((wrap64 (a1 + (wrap64 (4294967296 * (wrap64 (Int.tmod (IntKind.u64.wrap (a3)) 1000)))))) < 1) = true := decide_eq_true c18
                clear c18
                (first | rw [c18b0] | (simp only [i64_w, i32_w]; rw [c18b0]) | skip)
                have H' := Aside0.mk H
                clear H
                go_wp2_with (first | ((with_reducible refine gate_callee (f := 10) rfl ?_); refine goesL_ (some 47) rfl rfl Try.func10 (by kernel_rfl) rfl #[.int .u32 a0, .int .i64 (wrap64 (a1 + (wrap64 (4294967296 * (wrap64 (Int.tmod (IntKind.u64.wrap (a3)) 1000)))))), .int .i64 a2, .int .u32 t119] rfl (by (try simp only [List.map_toArray, List.map_cons, List.map_nil]); first | done | rfl | (simp only [List.length_drop, List.length_take]; rfl)) ?_; (with_reducible refine (token_Is.calls kj8 a0 (wrap64 (a1 + (wrap64 (4294967296 * (wrap64 (Int.tmod (IntKind.u64.wrap (a3)) 1000)))))) a2 t119 true _ A16.out).mono ?_); rintro e w' ⟨rfl, ⟨nd, rfl⟩⟩; refine ⟨_, rfl, ?_⟩))
                go_meet
                case rel => exact ⟨_, (true), (by first | rfl | (simp; done) | (simp [*]; done)), H', ⟨by have := HJ8.out; first | omega | exact Nat.le_refl _⟩, by repeat (first | exact Drawn0.refl _ | apply Drawn0.step)⟩
              · rw [if_neg c18] at H
                have c18b0 : decide ((wrap64 (a1 + (wrap64 (4294967296 * (wrap64 (Int.tmod (IntKind.u64.wrap (a3)) 1000)))))) < 1) = false := decide_eq_false c18
                clear c18
                (first | rw [c18b0] | (simp only [i64_w, i32_w]; rw [c18b0]) | skip)
                have H' := Aside0.mk H
                clear H
                go_wp2_with (first | ((with_reducible refine gate_callee (f := 10) rfl ?_); refine goesL_ (some 47) rfl rfl Try.func10 (by kernel_rfl) rfl #[.int .u32 a0, .int .i64 (wrap64 (a1 + (wrap64 (4294967296 * (wrap64 (Int.tmod (IntKind.u64.wrap (a3)) 1000)))))), .int .i64 a2, .int .u32 t119] rfl (by (try simp only [List.map_toArray, List.map_cons, List.map_nil]); first | done | rfl | (simp only [List.length_drop, List.length_take]; rfl)) ?_; (with_reducible refine (token_Is.calls kj8 a0 (wrap64 (a1 + (wrap64 (4294967296 * (wrap64 (Int.tmod (IntKind.u64.wrap (a3)) 1000)))))) a2 t119 true _ A16.out).mono ?_); rintro e w' ⟨rfl, ⟨nd, rfl⟩⟩; refine ⟨_, rfl, ?_⟩))
                go_meet
                case rel => exact ⟨_, (decide ((wrap64 (a1 + (wrap64 (4294967296 * (wrap64 (Int.tmod (IntKind.u64.wrap (a3)) 1000)))))) > 1073741824)), (by first | rfl | (simp; done) | (simp [*]; done)), H', ⟨by have := HJ8.out; first | omega | exact Nat.le_refl _⟩, by repeat (first | exact Drawn0.refl _ | apply Drawn0.step)⟩
            · replace c17 := Bool.eq_false_iff.mpr c17
              subst c17
              have H1 : (hoistwaylaw12_TokenBits.j1 kj8 a0 a1 a2 a4 false) = some r := by rw [if_neg (show ¬ (false = true) by decide)] at H; exact H
              clear H
              have H := H1
              clear H1
              have H' := Aside0.mk H
              clear H
              go_wp2_with (first | ((with_reducible refine gate_callee (f := 10) rfl ?_); refine goesL_ (some 47) rfl rfl Try.func10 (by kernel_rfl) rfl #[.int .u32 a0, .int .i64 (wrap64 (a1 + (wrap64 (4294967296 * (wrap64 (Int.tmod (IntKind.u64.wrap (a3)) 1000)))))), .int .i64 a2, .int .u32 t119] rfl (by (try simp only [List.map_toArray, List.map_cons, List.map_nil]); first | done | rfl | (simp only [List.length_drop, List.length_take]; rfl)) ?_; (with_reducible refine (token_Is.calls kj8 a0 (wrap64 (a1 + (wrap64 (4294967296 * (wrap64 (Int.tmod (IntKind.u64.wrap (a3)) 1000)))))) a2 t119 false _ A16.out).mono ?_); rintro e w' ⟨rfl, ⟨nd, rfl⟩⟩; refine ⟨_, rfl, ?_⟩))
              go_meet
              case rel => exact ⟨_, (false), (by first | rfl | (simp; done) | (simp [*]; done)), H', ⟨by have := HJ8.out; first | omega | exact Nat.le_refl _⟩, by repeat (first | exact Drawn0.refl _ | apply Drawn0.step)⟩
          case rest =>
            clear HC15
            try clear c1
            try clear p2
            try clear c5
            try clear c6
            try clear p6
            try clear c7
            try clear c8
            try clear c10
            try clear c11
            try clear c11b0
            try clear c11b1
            try clear c14
            try clear c17
            try clear c18
            try clear c18b0
            try clear p2
            try clear p6
            obtain ⟨kq, x55_14, rfl, HA, HJ14, ⟨mc14, rfl⟩⟩ := hcut
            cases kq with
            | zero => exact absurd HA.out (by simp [hoistwaylaw12_TokenBits.j1])
            | succ kj14 =>
              have H := HA.out
              clear HA
              simp only [hoistwaylaw12_TokenBits.j1] at H
              by_cases c19 : x55_14 = true
              · subst c19
                have H1 : (some false) = some r := by rw [if_pos rfl] at H; exact H
                clear H
                have H := H1
                clear H1
                obtain rfl := Option.some.inj H
                go_wp2
                go_ret
                exact ⟨by first | rfl | (simp; done) | (simp [*]; done), by repeat (first | exact Drawn0.refl _ | apply Drawn0.step)⟩
              · replace c19 := Bool.eq_false_iff.mpr c19
                subst c19
                have H1 : ((token_Of.f kj14 a0 ((a1) % 256) a2).bind fun t124 => ((token_Of.f kj14 a0 (wrap64 (a4)) a2).bind fun t125 => (some ((t124 == t125) == (((a1) % 256) == (wrap64 (a4))))))) = some r := by rw [if_neg (show ¬ (false = true) by decide)] at H; exact H
                clear H
                have H := H1
                clear H1
                replace H := Option.bind_eq_some_iff.mp H
                obtain ⟨t124, A200, H⟩ := H
                replace H : ((token_Of.f kj14 a0 (wrap64 (a4)) a2).bind fun t125 => (some ((t124 == t125) == (((a1) % 256) == (wrap64 (a4)))))) = some r := H
                have A20 := Aside0.mk A200
                clear A200
                replace H := Option.bind_eq_some_iff.mp H
                obtain ⟨t125, A210, H⟩ := H
                replace H : (some ((t124 == t125) == (((a1) % 256) == (wrap64 (a4))))) = some r := H
                have A21 := Aside0.mk A210
                clear A210
                obtain rfl := Option.some.inj H
                go_wp2_with (first | ((with_reducible refine gate_callee (f := 8) rfl ?_); refine goesL_ (some 64) rfl rfl Try.func8 (by kernel_rfl) rfl #[.int .u32 a0, .int .i64 ((a1) % 256), .int .i64 a2] rfl (by (try simp only [List.map_toArray, List.map_cons, List.map_nil]); first | done | rfl | (simp only [List.length_drop, List.length_take]; rfl)) ?_; (with_reducible refine (token_Of.calls kj14 a0 ((a1) % 256) a2 t124 _ A20.out).mono ?_); rintro e w' ⟨rfl, ⟨nd, rfl⟩⟩; refine ⟨_, rfl, ?_⟩) | ((with_reducible refine gate_callee (f := 8) rfl ?_); refine goesL_ (some 68) rfl rfl Try.func8 (by kernel_rfl) rfl #[.int .u32 a0, .int .i64 (wrap64 (a4)), .int .i64 a2] rfl (by (try simp only [List.map_toArray, List.map_cons, List.map_nil]); first | done | rfl | (simp only [List.length_drop, List.length_take]; rfl)) ?_; (with_reducible refine (token_Of.calls kj14 a0 (wrap64 (a4)) a2 t125 _ A21.out).mono ?_); rintro e w' ⟨rfl, ⟨nd, rfl⟩⟩; refine ⟨_, rfl, ?_⟩))
                go_ret
                exact ⟨by first | rfl | (simp; done) | (simp [*]; done), by repeat (first | exact Drawn0.refl _ | apply Drawn0.step)⟩
  · replace c7 := Bool.eq_false_iff.mpr c7
    subst c7
    have H1 : (some false) = some r := by rw [if_neg (show ¬ (false = true) by decide)] at H; exact H
    clear H
    have H := H1
    clear H1
    obtain rfl := Option.some.inj H
    go_enter Try.func5, Try.ntmps5
    go_wp2_with (first | ((with_reducible refine gate_callee (f := 6) rfl ?_); refine goesL_ (some 15) rfl rfl Try.func6 (by kernel_rfl) rfl #[] rfl (by (try simp only [List.map_toArray, List.map_cons, List.map_nil]); first | done | rfl | (simp only [List.length_drop, List.length_take]; rfl)) ?_; (with_reducible refine (hoistwaylaw12_awake.calls k  false _ A6.out).mono ?_); rintro e w' ⟨rfl, ⟨nd, rfl⟩⟩; refine ⟨_, rfl, ?_⟩))
    go_ret
    exact ⟨by first | rfl | (simp; done) | (simp [*]; done), by repeat (first | exact Drawn0.refl _ | apply Drawn0.step)⟩

/-- THE ONE PURE STATEMENT of hoistwaylaw12_TokenBits: yours. -/
def hoistwaylaw12_TokenBits.Pure : Prop := ∀ (a0 : Int) (a1 : Int) (a2 : Int) (a3 : Int) (a4 : Int), (Lit.int .u32 a0).wf = true → (Lit.int .i64 a1).wf = true → (Lit.int .i64 a2).wf = true → (Lit.int .i64 a3).wf = true → (Lit.int .u8 a4).wf = true → ∃ k, hoistwaylaw12_TokenBits.f k a0 a1 a2 a3 a4 = some true
theorem hoistwaylaw12_TokenBits.walk (P : hoistwaylaw12_TokenBits.Pure) (a0 : Int) (a1 : Int) (a2 : Int) (a3 : Int) (a4 : Int) (w : World) (w0 : (Lit.int .u32 a0).wf = true) (w1 : (Lit.int .i64 a1).wf = true) (w2 : (Lit.int .i64 a2).wf = true) (w3 : (Lit.int .i64 a3).wf = true) (w4 : (Lit.int .u8 a4).wf = true) :
    Calls Try.prog 5 #[.int .u32 a0, .int .i64 a1, .int .i64 a2, .int .i64 a3, .int .u8 a4] w fun e w' => e = .returned (.bool true) ∧ Below w.heap.size w w' := by
  obtain ⟨k, h⟩ := P a0 a1 a2 a3 a4 w0 w1 w2 w3 w4
  refine (hoistwaylaw12_TokenBits.calls k a0 a1 a2 a3 a4 true w h).mono ?_
  rintro e w' ⟨rfl, hd⟩
  exact ⟨rfl, hd.below⟩

end Go.Proofs.Ytnikhfcjnimbdaa.PTokenBits
