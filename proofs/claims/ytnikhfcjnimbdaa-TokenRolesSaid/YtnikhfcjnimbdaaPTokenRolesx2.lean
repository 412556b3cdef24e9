-- PRINTED BY print.sh 35421559b90ae4d0a3588c463048766b98c2df88dd9212a6774a882060cdf62d: not written by this session
import Derived.Test.YtnikhfcjnimbdaaPTokenRolesx0
import Derived.Test.YtnikhfcjnimbdaaPTokenRolesx1
namespace Go.Proofs.Ytnikhfcjnimbdaa.PTokenRoles
open Go.RowKit Go.Proofs.YtnikhfcjnimbdaaW.PrintWords Go.Proofs.YtnikhfcjnimbdaaW.PrintLast Go.Proofs.YtnikhfcjnimbdaaW.PrintMore
attribute [local go_sem] max2_int min2_int max_two min_two max_three min_three max_four min_four   -- for this text's walks alone
set_option linter.unusedVariables false
set_option linter.unusedSimpArgs false

/-! ### hoistwaylaw12_TokenRoles: function 4 -/
mutual
def hoistwaylaw12_TokenRoles.j0 : Nat → Int → Bool → Option (Bool)
  | 0, _, _ => none
  | k + 1, x2, x65 => if x65 = true then (some false) else (hoistwaylaw12_TokenRoles.l0 k x2 (-1))
def hoistwaylaw12_TokenRoles.l0 : Nat → Int → Int → Option (Bool)
  | 0, _, _ => none
  | k + 1, x2, x11 => if x11 < 6 then ((token_MaySet.f x11).bind fun t125 => (if t125 = true then ((token_MayCancel.f x11).bind fun t126 => (if t126 = true then ((token_MayFeed.f x11).bind fun t127 => (if t127 = true then (if x2 > 0 then (if x2 < 5 then ((token_MayPlace.f x11 x2).bind fun t128 => (hoistwaylaw12_TokenRoles.j2 k x2 x11 (!t128))) else (hoistwaylaw12_TokenRoles.j2 k x2 x11 false)) else (hoistwaylaw12_TokenRoles.j2 k x2 x11 false)) else (hoistwaylaw12_TokenRoles.j2 k x2 x11 true))) else (hoistwaylaw12_TokenRoles.j2 k x2 x11 true))) else (hoistwaylaw12_TokenRoles.j2 k x2 x11 false))) else (some true)
def hoistwaylaw12_TokenRoles.j2 : Nat → Int → Int → Bool → Option (Bool)
  | 0, _, _, _ => none
  | k + 1, x2, x11, x95 => if x95 = true then (some false) else ((token_MayPlace.f x11 x2).bind fun t129 => (if t129 = true then (if x11 < 1 then (some false) else (if x11 > 3 then (some false) else (if x2 < 1 then (some false) else (if x2 > 4 then (some false) else (hoistwaylaw12_TokenRoles.l0 k x2 (wrap64 (x11 + 1))))))) else (hoistwaylaw12_TokenRoles.l0 k x2 (wrap64 (x11 + 1)))))
end
def hoistwaylaw12_TokenRoles.f (k : Nat) (a0 : Int) (a1 : Int) (a2 : Int) : Option (Bool) := (hoistwaylaw12_awake.f k).bind fun t118 => (if t118 = true then ((token_Of.f k a0 a1 1).bind fun t119 => ((token_Of.f k a0 a1 2).bind fun t120 => ((token_Of.f k a0 a1 3).bind fun t121 => ((token_Pass.f k a0 a1).bind fun t122 => (if t119 = t120 then (hoistwaylaw12_TokenRoles.j0 k a2 true) else (if t119 = t121 then (hoistwaylaw12_TokenRoles.j0 k a2 true) else (if t120 = t121 then (hoistwaylaw12_TokenRoles.j0 k a2 true) else (if t122 = t119 then (hoistwaylaw12_TokenRoles.j0 k a2 true) else (if t122 = t120 then (hoistwaylaw12_TokenRoles.j0 k a2 true) else (if t122 = t121 then (hoistwaylaw12_TokenRoles.j0 k a2 true) else ((token_Is.f k a0 a1 3 t119).bind fun t123 => (if t123 = true then (hoistwaylaw12_TokenRoles.j0 k a2 true) else ((token_Is.f k a0 a1 1 t122).bind fun t124 => (hoistwaylaw12_TokenRoles.j0 k a2 t124)))))))))))))) else (some false))
theorem hoistwaylaw12_TokenRoles.mono_l : ∀ k, (∀ y0 y1, LeO (hoistwaylaw12_TokenRoles.j0 k y0 y1) (hoistwaylaw12_TokenRoles.j0 (k + 1) y0 y1)) ∧ (∀ y0 y1, LeO (hoistwaylaw12_TokenRoles.l0 k y0 y1) (hoistwaylaw12_TokenRoles.l0 (k + 1) y0 y1)) ∧ (∀ y0 y1 y2, LeO (hoistwaylaw12_TokenRoles.j2 k y0 y1 y2) (hoistwaylaw12_TokenRoles.j2 (k + 1) y0 y1 y2))
  | 0 => ⟨fun _ _ r h => by simp [hoistwaylaw12_TokenRoles.j0] at h, fun _ _ r h => by simp [hoistwaylaw12_TokenRoles.l0] at h, fun _ _ _ r h => by simp [hoistwaylaw12_TokenRoles.j2] at h⟩
  | k + 1 => by
    obtain ⟨ih0, ih1, ih2⟩ := hoistwaylaw12_TokenRoles.mono_l k
    refine ⟨?_, ?_, ?_⟩
    · intro y0 y1
      unfold hoistwaylaw12_TokenRoles.j0
      repeat' first
      | (with_reducible exact ih0 _ _)
      | (with_reducible exact ih1 _ _)
      | (with_reducible exact ih2 _ _ _)
      | (with_reducible exact hoistwaylaw12_awake.mono _)
      | (with_reducible exact token_Is.mono _ _ _ _ _)
      | (with_reducible exact token_Of.mono _ _ _ _)
      | (with_reducible exact token_Pass.mono _ _ _)
      | (with_reducible exact LeO.refl _)
      | (with_reducible exact LeO.none _)
      | (with_reducible refine LeO.ite ?_ ?_)
      | (with_reducible refine LeO.bind ?_ (fun _ => ?_))
      | exact ih0 _ _
      | exact ih1 _ _
      | exact ih2 _ _ _
      | exact hoistwaylaw12_awake.mono _
      | exact token_Is.mono _ _ _ _ _
      | exact token_Of.mono _ _ _ _
      | exact token_Pass.mono _ _ _
      | exact LeO.none _
      | refine LeO.ite ?_ ?_
      | refine LeO.bind ?_ (fun _ => ?_)
    · intro y0 y1
      unfold hoistwaylaw12_TokenRoles.l0
      repeat' first
      | (with_reducible exact ih0 _ _)
      | (with_reducible exact ih1 _ _)
      | (with_reducible exact ih2 _ _ _)
      | (with_reducible exact hoistwaylaw12_awake.mono _)
      | (with_reducible exact token_Is.mono _ _ _ _ _)
      | (with_reducible exact token_Of.mono _ _ _ _)
      | (with_reducible exact token_Pass.mono _ _ _)
      | (with_reducible exact LeO.refl _)
      | (with_reducible exact LeO.none _)
      | (with_reducible refine LeO.ite ?_ ?_)
      | (with_reducible refine LeO.bind ?_ (fun _ => ?_))
      | exact ih0 _ _
      | exact ih1 _ _
      | exact ih2 _ _ _
      | exact hoistwaylaw12_awake.mono _
      | exact token_Is.mono _ _ _ _ _
      | exact token_Of.mono _ _ _ _
      | exact token_Pass.mono _ _ _
      | exact LeO.none _
      | refine LeO.ite ?_ ?_
      | refine LeO.bind ?_ (fun _ => ?_)
    · intro y0 y1 y2
      unfold hoistwaylaw12_TokenRoles.j2
      repeat' first
      | (with_reducible exact ih0 _ _)
      | (with_reducible exact ih1 _ _)
      | (with_reducible exact ih2 _ _ _)
      | (with_reducible exact hoistwaylaw12_awake.mono _)
      | (with_reducible exact token_Is.mono _ _ _ _ _)
      | (with_reducible exact token_Of.mono _ _ _ _)
      | (with_reducible exact token_Pass.mono _ _ _)
      | (with_reducible exact LeO.refl _)
      | (with_reducible exact LeO.none _)
      | (with_reducible refine LeO.ite ?_ ?_)
      | (with_reducible refine LeO.bind ?_ (fun _ => ?_))
      | exact ih0 _ _
      | exact ih1 _ _
      | exact ih2 _ _ _
      | exact hoistwaylaw12_awake.mono _
      | exact token_Is.mono _ _ _ _ _
      | exact token_Of.mono _ _ _ _
      | exact token_Pass.mono _ _ _
      | exact LeO.none _
      | refine LeO.ite ?_ ?_
      | refine LeO.bind ?_ (fun _ => ?_)
theorem hoistwaylaw12_TokenRoles.mono : ∀ a0 a1 a2 k, LeO (hoistwaylaw12_TokenRoles.f k a0 a1 a2) (hoistwaylaw12_TokenRoles.f (k + 1) a0 a1 a2) := by
  intro a0 a1 a2 k
  obtain ⟨ih0, ih1, ih2⟩ := hoistwaylaw12_TokenRoles.mono_l k
  unfold hoistwaylaw12_TokenRoles.f
  repeat' first
      | (with_reducible exact ih0 _ _)
      | (with_reducible exact ih1 _ _)
      | (with_reducible exact ih2 _ _ _)
      | (with_reducible exact hoistwaylaw12_awake.mono _)
      | (with_reducible exact token_Is.mono _ _ _ _ _)
      | (with_reducible exact token_Of.mono _ _ _ _)
      | (with_reducible exact token_Pass.mono _ _ _)
      | (with_reducible exact LeO.refl _)
      | (with_reducible exact LeO.none _)
      | (with_reducible refine LeO.ite ?_ ?_)
      | (with_reducible refine LeO.bind ?_ (fun _ => ?_))
      | exact ih0 _ _
      | exact ih1 _ _
      | exact ih2 _ _ _
      | exact hoistwaylaw12_awake.mono _
      | exact token_Is.mono _ _ _ _ _
      | exact token_Of.mono _ _ _ _
      | exact token_Pass.mono _ _ _
      | exact LeO.none _
      | refine LeO.ite ?_ ?_
      | refine LeO.bind ?_ (fun _ => ?_)
set_option maxHeartbeats 8000000 in
set_option maxRecDepth 100000 in
theorem hoistwaylaw12_TokenRoles.calls (k : Nat) (a0 : Int) (a1 : Int) (a2 : Int) (r : Bool) (w : World) (h : hoistwaylaw12_TokenRoles.f k a0 a1 a2 = some r) :
    Calls Try.prog 4 #[.int .u32 a0, .int .i64 a1, .int .i64 a2] w fun e w' => e = .returned (.bool r) ∧ Drawn0 w w' := by
  have H : ((hoistwaylaw12_awake.f k).bind fun t118 => (if t118 = true then ((token_Of.f k a0 a1 1).bind fun t119 => ((token_Of.f k a0 a1 2).bind fun t120 => ((token_Of.f k a0 a1 3).bind fun t121 => ((token_Pass.f k a0 a1).bind fun t122 => (if t119 = t120 then (hoistwaylaw12_TokenRoles.j0 k a2 true) else (if t119 = t121 then (hoistwaylaw12_TokenRoles.j0 k a2 true) else (if t120 = t121 then (hoistwaylaw12_TokenRoles.j0 k a2 true) else (if t122 = t119 then (hoistwaylaw12_TokenRoles.j0 k a2 true) else (if t122 = t120 then (hoistwaylaw12_TokenRoles.j0 k a2 true) else (if t122 = t121 then (hoistwaylaw12_TokenRoles.j0 k a2 true) else ((token_Is.f k a0 a1 3 t119).bind fun t123 => (if t123 = true then (hoistwaylaw12_TokenRoles.j0 k a2 true) else ((token_Is.f k a0 a1 1 t122).bind fun t124 => (hoistwaylaw12_TokenRoles.j0 k a2 t124)))))))))))))) else (some false))) = some r := h
  clear h
  replace H := Option.bind_eq_some_iff.mp H
  obtain ⟨t118, A40, H⟩ := H
  replace H : (if t118 = true then ((token_Of.f k a0 a1 1).bind fun t119 => ((token_Of.f k a0 a1 2).bind fun t120 => ((token_Of.f k a0 a1 3).bind fun t121 => ((token_Pass.f k a0 a1).bind fun t122 => (if t119 = t120 then (hoistwaylaw12_TokenRoles.j0 k a2 true) else (if t119 = t121 then (hoistwaylaw12_TokenRoles.j0 k a2 true) else (if t120 = t121 then (hoistwaylaw12_TokenRoles.j0 k a2 true) else (if t122 = t119 then (hoistwaylaw12_TokenRoles.j0 k a2 true) else (if t122 = t120 then (hoistwaylaw12_TokenRoles.j0 k a2 true) else (if t122 = t121 then (hoistwaylaw12_TokenRoles.j0 k a2 true) else ((token_Is.f k a0 a1 3 t119).bind fun t123 => (if t123 = true then (hoistwaylaw12_TokenRoles.j0 k a2 true) else ((token_Is.f k a0 a1 1 t122).bind fun t124 => (hoistwaylaw12_TokenRoles.j0 k a2 t124)))))))))))))) else (some false)) = some r := H
  have A4 := Aside0.mk A40
  clear A40
  by_cases c5 : t118 = true
  · subst c5
    have H1 : ((token_Of.f k a0 a1 1).bind fun t119 => ((token_Of.f k a0 a1 2).bind fun t120 => ((token_Of.f k a0 a1 3).bind fun t121 => ((token_Pass.f k a0 a1).bind fun t122 => (if t119 = t120 then (hoistwaylaw12_TokenRoles.j0 k a2 true) else (if t119 = t121 then (hoistwaylaw12_TokenRoles.j0 k a2 true) else (if t120 = t121 then (hoistwaylaw12_TokenRoles.j0 k a2 true) else (if t122 = t119 then (hoistwaylaw12_TokenRoles.j0 k a2 true) else (if t122 = t120 then (hoistwaylaw12_TokenRoles.j0 k a2 true) else (if t122 = t121 then (hoistwaylaw12_TokenRoles.j0 k a2 true) else ((token_Is.f k a0 a1 3 t119).bind fun t123 => (if t123 = true then (hoistwaylaw12_TokenRoles.j0 k a2 true) else ((token_Is.f k a0 a1 1 t122).bind fun t124 => (hoistwaylaw12_TokenRoles.j0 k a2 t124)))))))))))))) = some r := by rw [if_pos rfl] at H; exact H
    clear H
    have H := H1
    clear H1
    replace H := Option.bind_eq_some_iff.mp H
    obtain ⟨t119, A60, H⟩ := H
    replace H : ((token_Of.f k a0 a1 2).bind fun t120 => ((token_Of.f k a0 a1 3).bind fun t121 => ((token_Pass.f k a0 a1).bind fun t122 => (if t119 = t120 then (hoistwaylaw12_TokenRoles.j0 k a2 true) else (if t119 = t121 then (hoistwaylaw12_TokenRoles.j0 k a2 true) else (if t120 = t121 then (hoistwaylaw12_TokenRoles.j0 k a2 true) else (if t122 = t119 then (hoistwaylaw12_TokenRoles.j0 k a2 true) else (if t122 = t120 then (hoistwaylaw12_TokenRoles.j0 k a2 true) else (if t122 = t121 then (hoistwaylaw12_TokenRoles.j0 k a2 true) else ((token_Is.f k a0 a1 3 t119).bind fun t123 => (if t123 = true then (hoistwaylaw12_TokenRoles.j0 k a2 true) else ((token_Is.f k a0 a1 1 t122).bind fun t124 => (hoistwaylaw12_TokenRoles.j0 k a2 t124))))))))))))) = some r := H
    have A6 := Aside0.mk A60
    clear A60
    replace H := Option.bind_eq_some_iff.mp H
    obtain ⟨t120, A70, H⟩ := H
    replace H : ((token_Of.f k a0 a1 3).bind fun t121 => ((token_Pass.f k a0 a1).bind fun t122 => (if t119 = t120 then (hoistwaylaw12_TokenRoles.j0 k a2 true) else (if t119 = t121 then (hoistwaylaw12_TokenRoles.j0 k a2 true) else (if t120 = t121 then (hoistwaylaw12_TokenRoles.j0 k a2 true) else (if t122 = t119 then (hoistwaylaw12_TokenRoles.j0 k a2 true) else (if t122 = t120 then (hoistwaylaw12_TokenRoles.j0 k a2 true) else (if t122 = t121 then (hoistwaylaw12_TokenRoles.j0 k a2 true) else ((token_Is.f k a0 a1 3 t119).bind fun t123 => (if t123 = true then (hoistwaylaw12_TokenRoles.j0 k a2 true) else ((token_Is.f k a0 a1 1 t122).bind fun t124 => (hoistwaylaw12_TokenRoles.j0 k a2 t124)))))))))))) = some r := H
    have A7 := Aside0.mk A70
    clear A70
    replace H := Option.bind_eq_some_iff.mp H
    obtain ⟨t121, A80, H⟩ := H
    replace H : ((token_Pass.f k a0 a1).bind fun t122 => (if t119 = t120 then (hoistwaylaw12_TokenRoles.j0 k a2 true) else (if t119 = t121 then (hoistwaylaw12_TokenRoles.j0 k a2 true) else (if t120 = t121 then (hoistwaylaw12_TokenRoles.j0 k a2 true) else (if t122 = t119 then (hoistwaylaw12_TokenRoles.j0 k a2 true) else (if t122 = t120 then (hoistwaylaw12_TokenRoles.j0 k a2 true) else (if t122 = t121 then (hoistwaylaw12_TokenRoles.j0 k a2 true) else ((token_Is.f k a0 a1 3 t119).bind fun t123 => (if t123 = true then (hoistwaylaw12_TokenRoles.j0 k a2 true) else ((token_Is.f k a0 a1 1 t122).bind fun t124 => (hoistwaylaw12_TokenRoles.j0 k a2 t124))))))))))) = some r := H
    have A8 := Aside0.mk A80
    clear A80
    replace H := Option.bind_eq_some_iff.mp H
    obtain ⟨t122, A90, H⟩ := H
    replace H : (if t119 = t120 then (hoistwaylaw12_TokenRoles.j0 k a2 true) else (if t119 = t121 then (hoistwaylaw12_TokenRoles.j0 k a2 true) else (if t120 = t121 then (hoistwaylaw12_TokenRoles.j0 k a2 true) else (if t122 = t119 then (hoistwaylaw12_TokenRoles.j0 k a2 true) else (if t122 = t120 then (hoistwaylaw12_TokenRoles.j0 k a2 true) else (if t122 = t121 then (hoistwaylaw12_TokenRoles.j0 k a2 true) else ((token_Is.f k a0 a1 3 t119).bind fun t123 => (if t123 = true then (hoistwaylaw12_TokenRoles.j0 k a2 true) else ((token_Is.f k a0 a1 1 t122).bind fun t124 => (hoistwaylaw12_TokenRoles.j0 k a2 t124)))))))))) = some r := H
    have A9 := Aside0.mk A90
    clear A90
    have HC10 := Aside0.mk H
    clear H
    go_enter Try.func4, Try.ntmps4
    go_upto_region 7 with (first | ((with_reducible refine gate_callee (f := 6) rfl ?_); refine goesL_ (some 12) rfl rfl Try.func6 (by kernel_rfl) rfl #[] rfl (by (try simp only [List.map_toArray, List.map_cons, List.map_nil]); first | done | rfl | (simp only [List.length_drop, List.length_take]; rfl)) ?_; (with_reducible refine (hoistwaylaw12_awake.calls k  true _ A4.out).mono ?_); rintro e w' ⟨rfl, ⟨nd, rfl⟩⟩; refine ⟨_, rfl, ?_⟩) | ((with_reducible refine gate_callee (f := 8) rfl ?_); refine goesL_ (some 16) rfl rfl Try.func8 (by kernel_rfl) rfl #[.int .u32 a0, .int .i64 a1, .int .i64 1] rfl (by (try simp only [List.map_toArray, List.map_cons, List.map_nil]); first | done | rfl | (simp only [List.length_drop, List.length_take]; rfl)) ?_; (with_reducible refine (token_Of.calls k a0 a1 1 t119 _ A6.out).mono ?_); rintro e w' ⟨rfl, ⟨nd, rfl⟩⟩; refine ⟨_, rfl, ?_⟩) | ((with_reducible refine gate_callee (f := 8) rfl ?_); refine goesL_ (some 19) rfl rfl Try.func8 (by kernel_rfl) rfl #[.int .u32 a0, .int .i64 a1, .int .i64 2] rfl (by (try simp only [List.map_toArray, List.map_cons, List.map_nil]); first | done | rfl | (simp only [List.length_drop, List.length_take]; rfl)) ?_; (with_reducible refine (token_Of.calls k a0 a1 2 t120 _ A7.out).mono ?_); rintro e w' ⟨rfl, ⟨nd, rfl⟩⟩; refine ⟨_, rfl, ?_⟩) | ((with_reducible refine gate_callee (f := 8) rfl ?_); refine goesL_ (some 22) rfl rfl Try.func8 (by kernel_rfl) rfl #[.int .u32 a0, .int .i64 a1, .int .i64 3] rfl (by (try simp only [List.map_toArray, List.map_cons, List.map_nil]); first | done | rfl | (simp only [List.length_drop, List.length_take]; rfl)) ?_; (with_reducible refine (token_Of.calls k a0 a1 3 t121 _ A8.out).mono ?_); rintro e w' ⟨rfl, ⟨nd, rfl⟩⟩; refine ⟨_, rfl, ?_⟩) | ((with_reducible refine gate_callee (f := 9) rfl ?_); refine goesL_ (some 25) rfl rfl Try.func9 (by kernel_rfl) rfl #[.int .u32 a0, .int .i64 a1] rfl (by (try simp only [List.map_toArray, List.map_cons, List.map_nil]); first | done | rfl | (simp only [List.length_drop, List.length_take]; rfl)) ?_; (with_reducible refine (token_Pass.calls k a0 a1 t122 _ A9.out).mono ?_); rintro e w' ⟨rfl, ⟨nd, rfl⟩⟩; refine ⟨_, rfl, ?_⟩))
    (try simp only [Act.put, List.setIfInBounds_toArray, List.set_cons_zero, List.set_cons_succ])
    go_cut [65] (fun v65 wc => ∃ (kq : Nat) (x65_9 : Bool), v65 = .bool x65_9 ∧ Aside0 (hoistwaylaw12_TokenRoles.j0 kq a2 x65_9 = some r) ∧ Aside0 (kq ≤ k) ∧ Drawn0 w wc)
    case first =>
      have H := HC10.out
      clear HC10
      by_cases c11 : t119 = t120
      · rw [if_pos c11] at H
        have c11b0 : (t119 == t120) = true := beq_iff_eq.mpr c11
        have c11b1 : (t119 != t120) = false := bne_eq_false_iff_eq.mpr c11
        clear c11
        (first | rw [c11b0] | (simp only [i64_w, i32_w]; rw [c11b0]) | skip)
        have H' := Aside0.mk H
        clear H
        go_wp2
        go_meet
        case rel => exact ⟨_, (true), (by first | rfl | (simp; done) | (simp [*]; done)), H', ⟨by first | omega | exact Nat.le_refl _⟩, by repeat (first | exact Drawn0.refl _ | apply Drawn0.step)⟩
      · rw [if_neg c11] at H
        have c11b0 : (t119 == t120) = false := beq_eq_false_iff_ne.mpr c11
        have c11b1 : (t119 != t120) = true := bne_iff_ne.mpr c11
        (first | rw [c11b0] | (simp only [i64_w, i32_w]; rw [c11b0]) | skip)
        by_cases c12 : t119 = t121
        · rw [if_pos c12] at H
          have c12b0 : (t119 == t121) = true := beq_iff_eq.mpr c12
          have c12b1 : (t119 != t121) = false := bne_eq_false_iff_eq.mpr c12
          clear c12
          have H' := Aside0.mk H
          clear H
          go_wp2
          go_meet
          case rel => exact ⟨_, (true), (by first | rfl | (simp; done) | (simp [*]; done)), H', ⟨by first | omega | exact Nat.le_refl _⟩, by repeat (first | exact Drawn0.refl _ | apply Drawn0.step)⟩
        · rw [if_neg c12] at H
          have c12b0 : (t119 == t121) = false := beq_eq_false_iff_ne.mpr c12
          have c12b1 : (t119 != t121) = true := bne_iff_ne.mpr c12
          by_cases c13 : t120 = t121
          · rw [if_pos c13] at H
            have c13b0 : (t120 == t121) = true := beq_iff_eq.mpr c13
            have c13b1 : (t120 != t121) = false := bne_eq_false_iff_eq.mpr c13
            clear c13
            have H' := Aside0.mk H
            clear H
            go_wp2
            go_meet
            case rel => exact ⟨_, (true), (by first | rfl | (simp; done) | (simp [*]; done)), H', ⟨by first | omega | exact Nat.le_refl _⟩, by repeat (first | exact Drawn0.refl _ | apply Drawn0.step)⟩
          · rw [if_neg c13] at H
            have c13b0 : (t120 == t121) = false := beq_eq_false_iff_ne.mpr c13
            have c13b1 : (t120 != t121) = true := bne_iff_ne.mpr c13
            by_cases c14 : t122 = t119
            · rw [if_pos c14] at H
              have c14b0 : (t122 == t119) = true := beq_iff_eq.mpr c14
              have c14b1 : (t122 != t119) = false := bne_eq_false_iff_eq.mpr c14
              clear c14
              have H' := Aside0.mk H
              clear H
              go_wp2
              go_meet
              case rel => exact ⟨_, (true), (by first | rfl | (simp; done) | (simp [*]; done)), H', ⟨by first | omega | exact Nat.le_refl _⟩, by repeat (first | exact Drawn0.refl _ | apply Drawn0.step)⟩
            · rw [if_neg c14] at H
              have c14b0 : (t122 == t119) = false := beq_eq_false_iff_ne.mpr c14
              have c14b1 : (t122 != t119) = true := bne_iff_ne.mpr c14
              by_cases c15 : t122 = t120
              · rw [if_pos c15] at H
                have c15b0 : (t122 == t120) = true := beq_iff_eq.mpr c15
                have c15b1 : (t122 != t120) = false := bne_eq_false_iff_eq.mpr c15
                clear c15
                have H' := Aside0.mk H
                clear H
                go_wp2
                go_meet
                case rel => exact ⟨_, (true), (by first | rfl | (simp; done) | (simp [*]; done)), H', ⟨by first | omega | exact Nat.le_refl _⟩, by repeat (first | exact Drawn0.refl _ | apply Drawn0.step)⟩
              · rw [if_neg c15] at H
                have c15b0 : (t122 == t120) = false := beq_eq_false_iff_ne.mpr c15
                have c15b1 : (t122 != t120) = true := bne_iff_ne.mpr c15
                by_cases c16 : t122 = t121
                · rw [if_pos c16] at H
                  have c16b0 : (t122 == t121) = true := beq_iff_eq.mpr c16
                  have c16b1 : (t122 != t121) = false := bne_eq_false_iff_eq.mpr c16
                  clear c16
                  have H' := Aside0.mk H
                  clear H
                  go_wp2
                  go_meet
                  case rel => exact ⟨_, (true), (by first | rfl | (simp; done) | (simp [*]; done)), H', ⟨by first | omega | exact Nat.le_refl _⟩, by repeat (first | exact Drawn0.refl _ | apply Drawn0.step)⟩
                · rw [if_neg c16] at H
                  have c16b0 : (t122 == t121) = false := beq_eq_false_iff_ne.mpr c16
                  have c16b1 : (t122 != t121) = true := bne_iff_ne.mpr c16
                  replace H := Option.bind_eq_some_iff.mp H
                  obtain ⟨t123, A170, H⟩ := H
                  replace H : (if t123 = true then (hoistwaylaw12_TokenRoles.j0 k a2 true) else ((token_Is.f k a0 a1 1 t122).bind fun t124 => (hoistwaylaw12_TokenRoles.j0 k a2 t124))) = some r := H
                  have A17 := Aside0.mk A170
                  clear A170
                  by_cases c18 : t123 = true
                  · subst c18
                    have H1 : (hoistwaylaw12_TokenRoles.j0 k a2 true) = some r := by rw [if_pos rfl] at H; exact H
                    clear H
                    have H := H1
                    clear H1
                    have H' := Aside0.mk H
                    clear H
                    go_wp2_with (first | (go_at_call 10; (with_reducible refine (token_Is.calls k a0 a1 3 t119 true _ A17.out).mono ?_); rintro e w' ⟨rfl, ⟨nd, rfl⟩⟩))
                    go_meet
                    case rel => exact ⟨_, (true), (by first | rfl | (simp; done) | (simp [*]; done)), H', ⟨by first | omega | exact Nat.le_refl _⟩, by repeat (first | exact Drawn0.refl _ | apply Drawn0.step)⟩
                  · replace c18 := Bool.eq_false_iff.mpr c18
                    subst c18
                    have H1 : ((token_Is.f k a0 a1 1 t122).bind fun t124 => (hoistwaylaw12_TokenRoles.j0 k a2 t124)) = some r := by rw [if_neg (show ¬ (false = true) by decide)] at H; exact H
                    clear H
                    have H := H1
                    clear H1
                    replace H := Option.bind_eq_some_iff.mp H
                    obtain ⟨t124, A190, H⟩ := H
                    replace H : (hoistwaylaw12_TokenRoles.j0 k a2 t124) = some r := H
                    have A19 := Aside0.mk A190
                    clear A190
                    have H' := Aside0.mk H
                    clear H
                    go_wp2_with (first | (go_at_call 10; (with_reducible refine (token_Is.calls k a0 a1 3 t119 false _ A17.out).mono ?_); rintro e w' ⟨rfl, ⟨nd, rfl⟩⟩) | (go_at_call 10; (with_reducible refine (token_Is.calls k a0 a1 1 t122 t124 _ A19.out).mono ?_); rintro e w' ⟨rfl, ⟨nd, rfl⟩⟩))
                    go_meet
                    case rel => exact ⟨_, (t124), (by first | rfl | (simp; done) | (simp [*]; done)), H', ⟨by first | omega | exact Nat.le_refl _⟩, by repeat (first | exact Drawn0.refl _ | apply Drawn0.step)⟩
    case rest =>
      clear HC10
      try clear c1
      try clear p2
      try clear c4
      try clear c5
      try clear c6
      try clear c8
      try clear c9
      try clear c11
      try clear c11b0
      try clear c11b1
      try clear c12
      try clear c12b0
      try clear c12b1
      try clear c13
      try clear c13b0
      try clear c13b1
      try clear c14
      try clear c14b0
      try clear c14b1
      try clear c15
      try clear c15b0
      try clear c15b1
      try clear c16
      try clear c16b0
      try clear c16b1
      try clear c18
      obtain ⟨kq, x65_9, rfl, HA, HJ9, ⟨mc9, rfl⟩⟩ := hcut
      cases kq with
      | zero => exact absurd HA.out (by simp [hoistwaylaw12_TokenRoles.j0])
      | succ kj9 =>
        have H := HA.out
        clear HA
        simp only [hoistwaylaw12_TokenRoles.j0] at H
        by_cases c20 : x65_9 = true
        · subst c20
          have H1 : (some false) = some r := by rw [if_pos rfl] at H; exact H
          clear H
          have H := H1
          clear H1
          obtain rfl := Option.some.inj H
          go_wp2
          go_ret
          exact ⟨by first | rfl | (simp; done) | (simp [*]; done), by repeat (first | exact Drawn0.refl _ | apply Drawn0.step)⟩
        · replace c20 := Bool.eq_false_iff.mpr c20
          subst c20
          have H1 : (hoistwaylaw12_TokenRoles.l0 kj9 a2 (-1)) = some r := by rw [if_neg (show ¬ (false = true) by decide)] at H; exact H
          clear H
          have H := H1
          clear H1
          have H' := Aside0.mk H
          clear H
          go_wp2
          go_loopg [11] kj9 (fun kq v11 w' => ∃ (x11_2 : Int), v11 = .int .i64 x11_2 ∧ Aside0 (hoistwaylaw12_TokenRoles.l0 kq a2 x11_2 = some r) ∧ Aside0 (kq ≤ kj9) ∧ Drawn0 w w')
          case atStart => exact ⟨((-1)), (by first | rfl | (simp; done) | (simp [*]; done)), H', ⟨Nat.le_refl _⟩, by repeat (first | exact Drawn0.refl _ | apply Drawn0.step)⟩
          case round =>
            clear H'
            try clear c1
            try clear c2
            try clear p2
            try clear c4
            try clear c5
            try clear c6
            try clear c8
            try clear c9
            try clear c11
            try clear c11b0
            try clear c11b1
            try clear c12
            try clear c12b0
            try clear c12b1
            try clear c13
            try clear c13b0
            try clear c13b1
            try clear c14
            try clear c14b0
            try clear c14b1
            try clear c15
            try clear c15b0
            try clear c15b1
            try clear c16
            try clear c16b0
            try clear c16b1
            try clear c18
            try clear c20
            try clear p2
            obtain ⟨x11_2, rfl, HA, HK2, ⟨m2, rfl⟩⟩ := hrel
            cases gk with
            | zero => exact absurd HA.out (by simp [hoistwaylaw12_TokenRoles.l0])
            | succ k2 =>
              have H := HA.out
              clear HA
              simp only [hoistwaylaw12_TokenRoles.l0] at H
              by_cases c21 : x11_2 < 6
              · rw [if_pos c21] at H
                have c21b0 : decide (x11_2 < 6) = true := decide_eq_true c21
                clear c21
                have HC22 := Aside0.mk H
                clear H
                go_upto_region 12 with (fail)
                go_cut [95] (fun v95 wc => ∃ (kq : Nat) (x95_21 : Bool), v95 = .bool x95_21 ∧ Aside0 (hoistwaylaw12_TokenRoles.j2 kq a2 x11_2 x95_21 = some r) ∧ Aside0 (kq ≤ k2) ∧ Drawn0 w wc)
                case first =>
                  have H := HC22.out
                  clear HC22
                  replace H := Option.bind_eq_some_iff.mp H
                  obtain ⟨t125, A230, H⟩ := H
                  replace H : (if t125 = true then ((token_MayCancel.f x11_2).bind fun t126 => (if t126 = true then ((token_MayFeed.f x11_2).bind fun t127 => (if t127 = true then (if a2 > 0 then (if a2 < 5 then ((token_MayPlace.f x11_2 a2).bind fun t128 => (hoistwaylaw12_TokenRoles.j2 k2 a2 x11_2 (!t128))) else (hoistwaylaw12_TokenRoles.j2 k2 a2 x11_2 false)) else (hoistwaylaw12_TokenRoles.j2 k2 a2 x11_2 false)) else (hoistwaylaw12_TokenRoles.j2 k2 a2 x11_2 true))) else (hoistwaylaw12_TokenRoles.j2 k2 a2 x11_2 true))) else (hoistwaylaw12_TokenRoles.j2 k2 a2 x11_2 false)) = some r := H
                  have A23 := Aside0.mk A230
                  clear A230
                  by_cases c24 : t125 = true
                  · subst c24
                    have H1 : ((token_MayCancel.f x11_2).bind fun t126 => (if t126 = true then ((token_MayFeed.f x11_2).bind fun t127 => (if t127 = true then (if a2 > 0 then (if a2 < 5 then ((token_MayPlace.f x11_2 a2).bind fun t128 => (hoistwaylaw12_TokenRoles.j2 k2 a2 x11_2 (!t128))) else (hoistwaylaw12_TokenRoles.j2 k2 a2 x11_2 false)) else (hoistwaylaw12_TokenRoles.j2 k2 a2 x11_2 false)) else (hoistwaylaw12_TokenRoles.j2 k2 a2 x11_2 true))) else (hoistwaylaw12_TokenRoles.j2 k2 a2 x11_2 true))) = some r := by rw [if_pos rfl] at H; exact H
                    clear H
                    have H := H1
                    clear H1
                    replace H := Option.bind_eq_some_iff.mp H
                    obtain ⟨t126, A250, H⟩ := H
                    replace H : (if t126 = true then ((token_MayFeed.f x11_2).bind fun t127 => (if t127 = true then (if a2 > 0 then (if a2 < 5 then ((token_MayPlace.f x11_2 a2).bind fun t128 => (hoistwaylaw12_TokenRoles.j2 k2 a2 x11_2 (!t128))) else (hoistwaylaw12_TokenRoles.j2 k2 a2 x11_2 false)) else (hoistwaylaw12_TokenRoles.j2 k2 a2 x11_2 false)) else (hoistwaylaw12_TokenRoles.j2 k2 a2 x11_2 true))) else (hoistwaylaw12_TokenRoles.j2 k2 a2 x11_2 true)) = some r := H
                    have A25 := Aside0.mk A250
                    clear A250
                    by_cases c26 : t126 = true
                    · subst c26
                      have H1 : ((token_MayFeed.f x11_2).bind fun t127 => (if t127 = true then (if a2 > 0 then (if a2 < 5 then ((token_MayPlace.f x11_2 a2).bind fun t128 => (hoistwaylaw12_TokenRoles.j2 k2 a2 x11_2 (!t128))) else (hoistwaylaw12_TokenRoles.j2 k2 a2 x11_2 false)) else (hoistwaylaw12_TokenRoles.j2 k2 a2 x11_2 false)) else (hoistwaylaw12_TokenRoles.j2 k2 a2 x11_2 true))) = some r := by rw [if_pos rfl] at H; exact H
                      clear H
                      have H := H1
                      clear H1
                      replace H := Option.bind_eq_some_iff.mp H
                      obtain ⟨t127, A270, H⟩ := H
                      replace H : (if t127 = true then (if a2 > 0 then (if a2 < 5 then ((token_MayPlace.f x11_2 a2).bind fun t128 => (hoistwaylaw12_TokenRoles.j2 k2 a2 x11_2 (!t128))) else (hoistwaylaw12_TokenRoles.j2 k2 a2 x11_2 false)) else (hoistwaylaw12_TokenRoles.j2 k2 a2 x11_2 false)) else (hoistwaylaw12_TokenRoles.j2 k2 a2 x11_2 true)) = some r := H
                      have A27 := Aside0.mk A270
                      clear A270
                      by_cases c28 : t127 = true
                      · subst c28
                        have H1 : (if a2 > 0 then (if a2 < 5 then ((token_MayPlace.f x11_2 a2).bind fun t128 => (hoistwaylaw12_TokenRoles.j2 k2 a2 x11_2 (!t128))) else (hoistwaylaw12_TokenRoles.j2 k2 a2 x11_2 false)) else (hoistwaylaw12_TokenRoles.j2 k2 a2 x11_2 false)) = some r := by rw [if_pos rfl] at H; exact H
                        clear H
                        have H := H1
                        clear H1
                        by_cases c29 : a2 > 0
                        · rw [if_pos c29] at H
                          have c29b0 : decide (0 < a2) = true := decide_eq_true c29
                          clear c29
                          (first | rw [c29b0] | (simp only [i64_w, i32_w]; rw [c29b0]) | skip)
                          by_cases c30 : a2 < 5
                          · rw [if_pos c30] at H
                            have c30b0 : decide (a2 < 5) = true := decide_eq_true c30
                            clear c30
                            replace H := Option.bind_eq_some_iff.mp H
                            obtain ⟨t128, A310, H⟩ := H
                            replace H : (hoistwaylaw12_TokenRoles.j2 k2 a2 x11_2 (!t128)) = some r := H
                            have A31 := Aside0.mk A310
                            clear A310
                            have H' := Aside0.mk H
                            clear H
                            go_wp2_with (first | ((with_reducible refine gate_callee (f := 13) rfl ?_); refine goesL_ (some 71) rfl rfl Try.func13 (by kernel_rfl) rfl #[.int .i64 x11_2] rfl (by (try simp only [List.map_toArray, List.map_cons, List.map_nil]); first | done | rfl | (simp only [List.length_drop, List.length_take]; rfl)) ?_; (with_reducible refine (token_MaySet.calls x11_2 true _ A23.out).mono ?_); rintro e w' ⟨rfl, ⟨nd, rfl⟩⟩; refine ⟨_, rfl, ?_⟩) | (go_at_call 12; (with_reducible refine (token_MayCancel.calls x11_2 true _ A25.out).mono ?_); rintro e w' ⟨rfl, ⟨nd, rfl⟩⟩) | (go_at_call 14; (with_reducible refine (token_MayFeed.calls x11_2 true _ A27.out).mono ?_); rintro e w' ⟨rfl, ⟨nd, rfl⟩⟩) | (go_at_call 11; (with_reducible refine (token_MayPlace.calls x11_2 a2 t128 _ A31.out).mono ?_); rintro e w' ⟨rfl, ⟨nd, rfl⟩⟩))
                            go_meet
                            case rel => exact ⟨_, (!t128), (by first | rfl | (simp; done) | (simp [*]; done)), H', ⟨by have := HJ9.out; have := HK2.out; first | omega | exact Nat.le_refl _⟩, by repeat (first | exact Drawn0.refl _ | apply Drawn0.step)⟩
                          · rw [if_neg c30] at H
                            have c30b0 : decide (a2 < 5) = false := decide_eq_false c30
                            clear c30
                            have H' := Aside0.mk H
                            clear H
                            go_wp2_with (first | ((with_reducible refine gate_callee (f := 13) rfl ?_); refine goesL_ (some 71) rfl rfl Try.func13 (by kernel_rfl) rfl #[.int .i64 x11_2] rfl (by (try simp only [List.map_toArray, List.map_cons, List.map_nil]); first | done | rfl | (simp only [List.length_drop, List.length_take]; rfl)) ?_; (with_reducible refine (token_MaySet.calls x11_2 true _ A23.out).mono ?_); rintro e w' ⟨rfl, ⟨nd, rfl⟩⟩; refine ⟨_, rfl, ?_⟩) | (go_at_call 12; (with_reducible refine (token_MayCancel.calls x11_2 true _ A25.out).mono ?_); rintro e w' ⟨rfl, ⟨nd, rfl⟩⟩) | (go_at_call 14; (with_reducible refine (token_MayFeed.calls x11_2 true _ A27.out).mono ?_); rintro e w' ⟨rfl, ⟨nd, rfl⟩⟩))
                            go_meet
                            case rel => exact ⟨_, (false), (by first | rfl | (simp; done) | (simp [*]; done)), H', ⟨by have := HJ9.out; have := HK2.out; first | omega | exact Nat.le_refl _⟩, by repeat (first | exact Drawn0.refl _ | apply Drawn0.step)⟩
                        · rw [if_neg c29] at H
                          have c29b0 : decide (0 < a2) = false := decide_eq_false c29
                          clear c29
                          (first | rw [c29b0] | (simp only [i64_w, i32_w]; rw [c29b0]) | skip)
                          have H' := Aside0.mk H
                          clear H
                          go_wp2_with (first | ((with_reducible refine gate_callee (f := 13) rfl ?_); refine goesL_ (some 71) rfl rfl Try.func13 (by kernel_rfl) rfl #[.int .i64 x11_2] rfl (by (try simp only [List.map_toArray, List.map_cons, List.map_nil]); first | done | rfl | (simp only [List.length_drop, List.length_take]; rfl)) ?_; (with_reducible refine (token_MaySet.calls x11_2 true _ A23.out).mono ?_); rintro e w' ⟨rfl, ⟨nd, rfl⟩⟩; refine ⟨_, rfl, ?_⟩) | (go_at_call 12; (with_reducible refine (token_MayCancel.calls x11_2 true _ A25.out).mono ?_); rintro e w' ⟨rfl, ⟨nd, rfl⟩⟩) | (go_at_call 14; (with_reducible refine (token_MayFeed.calls x11_2 true _ A27.out).mono ?_); rintro e w' ⟨rfl, ⟨nd, rfl⟩⟩))
                          go_meet
                          case rel => exact ⟨_, (false), (by first | rfl | (simp; done) | (simp [*]; done)), H', ⟨by have := HJ9.out; have := HK2.out; first | omega | exact Nat.le_refl _⟩, by repeat (first | exact Drawn0.refl _ | apply Drawn0.step)⟩
                      · replace c28 := Bool.eq_false_iff.mpr c28
                        subst c28
                        have H1 : (hoistwaylaw12_TokenRoles.j2 k2 a2 x11_2 true) = some r := by rw [if_neg (show ¬ (false = true) by decide)] at H; exact H
                        clear H
                        have H := H1
                        clear H1
                        have H' := Aside0.mk H
                        clear H
                        go_wp2_with (first | ((with_reducible refine gate_callee (f := 13) rfl ?_); refine goesL_ (some 71) rfl rfl Try.func13 (by kernel_rfl) rfl #[.int .i64 x11_2] rfl (by (try simp only [List.map_toArray, List.map_cons, List.map_nil]); first | done | rfl | (simp only [List.length_drop, List.length_take]; rfl)) ?_; (with_reducible refine (token_MaySet.calls x11_2 true _ A23.out).mono ?_); rintro e w' ⟨rfl, ⟨nd, rfl⟩⟩; refine ⟨_, rfl, ?_⟩) | (go_at_call 12; (with_reducible refine (token_MayCancel.calls x11_2 true _ A25.out).mono ?_); rintro e w' ⟨rfl, ⟨nd, rfl⟩⟩) | (go_at_call 14; (with_reducible refine (token_MayFeed.calls x11_2 false _ A27.out).mono ?_); rintro e w' ⟨rfl, ⟨nd, rfl⟩⟩))
                        go_meet
                        case rel => exact ⟨_, (true), (by first | rfl | (simp; done) | (simp [*]; done)), H', ⟨by have := HJ9.out; have := HK2.out; first | omega | exact Nat.le_refl _⟩, by repeat (first | exact Drawn0.refl _ | apply Drawn0.step)⟩
                    · replace c26 := Bool.eq_false_iff.mpr c26
                      subst c26
                      have H1 : (hoistwaylaw12_TokenRoles.j2 k2 a2 x11_2 true) = some r := by rw [if_neg (show ¬ (false = true) by decide)] at H; exact H
                      clear H
                      have H := H1
                      clear H1
                      have H' := Aside0.mk H
                      clear H
                      go_wp2_with (first | ((with_reducible refine gate_callee (f := 13) rfl ?_); refine goesL_ (some 71) rfl rfl Try.func13 (by kernel_rfl) rfl #[.int .i64 x11_2] rfl (by (try simp only [List.map_toArray, List.map_cons, List.map_nil]); first | done | rfl | (simp only [List.length_drop, List.length_take]; rfl)) ?_; (with_reducible refine (token_MaySet.calls x11_2 true _ A23.out).mono ?_); rintro e w' ⟨rfl, ⟨nd, rfl⟩⟩; refine ⟨_, rfl, ?_⟩) | (go_at_call 12; (with_reducible refine (token_MayCancel.calls x11_2 false _ A25.out).mono ?_); rintro e w' ⟨rfl, ⟨nd, rfl⟩⟩))
                      go_meet
                      case rel => exact ⟨_, (true), (by first | rfl | (simp; done) | (simp [*]; done)), H', ⟨by have := HJ9.out; have := HK2.out; first | omega | exact Nat.le_refl _⟩, by repeat (first | exact Drawn0.refl _ | apply Drawn0.step)⟩
                  · replace c24 := Bool.eq_false_iff.mpr c24
                    subst c24
                    have H1 : (hoistwaylaw12_TokenRoles.j2 k2 a2 x11_2 false) = some r := by rw [if_neg (show ¬ (false = true) by decide)] at H; exact H
                    clear H
                    have H := H1
                    clear H1
                    have H' := Aside0.mk H
                    clear H
                    go_wp2_with (first | ((with_reducible refine gate_callee (f := 13) rfl ?_); refine goesL_ (some 71) rfl rfl Try.func13 (by kernel_rfl) rfl #[.int .i64 x11_2] rfl (by (try simp only [List.map_toArray, List.map_cons, List.map_nil]); first | done | rfl | (simp only [List.length_drop, List.length_take]; rfl)) ?_; (with_reducible refine (token_MaySet.calls x11_2 false _ A23.out).mono ?_); rintro e w' ⟨rfl, ⟨nd, rfl⟩⟩; refine ⟨_, rfl, ?_⟩))
                    go_meet
                    case rel => exact ⟨_, (false), (by first | rfl | (simp; done) | (simp [*]; done)), H', ⟨by have := HJ9.out; have := HK2.out; first | omega | exact Nat.le_refl _⟩, by repeat (first | exact Drawn0.refl _ | apply Drawn0.step)⟩
                case rest =>
                  clear HC22
                  try clear c1
                  try clear c2
                  try clear p2
                  try clear c3
                  try clear c4
                  try clear c5
                  try clear c6
                  try clear c8
                  try clear c9
                  try clear c11
                  try clear c11b0
                  try clear c11b1
                  try clear c12
                  try clear c12b0
                  try clear c12b1
                  try clear c13
                  try clear c13b0
                  try clear c13b1
                  try clear c14
                  try clear c14b0
                  try clear c14b1
                  try clear c15
                  try clear c15b0
                  try clear c15b1
                  try clear c16
                  try clear c16b0
                  try clear c16b1
                  try clear c18
                  try clear c20
                  try clear c21
                  try clear c21b0
                  try clear c24
                  try clear c26
                  try clear c28
                  try clear c29
                  try clear c29b0
                  try clear c30
                  try clear c30b0
                  try clear p2
                  obtain ⟨kq, x95_21, rfl, HA, HJ21, ⟨mc21, rfl⟩⟩ := hcut
                  cases kq with
                  | zero => exact absurd HA.out (by simp [hoistwaylaw12_TokenRoles.j2])
                  | succ kj21 =>
                    have H := HA.out
                    clear HA
                    simp only [hoistwaylaw12_TokenRoles.j2] at H
                    by_cases c32 : x95_21 = true
                    · subst c32
                      have H1 : (some false) = some r := by rw [if_pos rfl] at H; exact H
                      clear H
                      have H := H1
                      clear H1
                      obtain rfl := Option.some.inj H
                      go_wp2
                      go_ret
                      exact ⟨by first | rfl | (simp; done) | (simp [*]; done), by repeat (first | exact Drawn0.refl _ | apply Drawn0.step)⟩
                    · replace c32 := Bool.eq_false_iff.mpr c32
                      subst c32
                      have H1 : ((token_MayPlace.f x11_2 a2).bind fun t129 => (if t129 = true then (if x11_2 < 1 then (some false) else (if x11_2 > 3 then (some false) else (if a2 < 1 then (some false) else (if a2 > 4 then (some false) else (hoistwaylaw12_TokenRoles.l0 kj21 a2 (wrap64 (x11_2 + 1))))))) else (hoistwaylaw12_TokenRoles.l0 kj21 a2 (wrap64 (x11_2 + 1))))) = some r := by rw [if_neg (show ¬ (false = true) by decide)] at H; exact H
                      clear H
                      have H := H1
                      clear H1
                      replace H := Option.bind_eq_some_iff.mp H
                      obtain ⟨t129, A330, H⟩ := H
                      replace H : (if t129 = true then (if x11_2 < 1 then (some false) else (if x11_2 > 3 then (some false) else (if a2 < 1 then (some false) else (if a2 > 4 then (some false) else (hoistwaylaw12_TokenRoles.l0 kj21 a2 (wrap64 (x11_2 + 1))))))) else (hoistwaylaw12_TokenRoles.l0 kj21 a2 (wrap64 (x11_2 + 1)))) = some r := H
                      have A33 := Aside0.mk A330
                      clear A330
                      by_cases c34 : t129 = true
                      · subst c34
                        have H1 : (if x11_2 < 1 then (some false) else (if x11_2 > 3 then (some false) else (if a2 < 1 then (some false) else (if a2 > 4 then (some false) else (hoistwaylaw12_TokenRoles.l0 kj21 a2 (wrap64 (x11_2 + 1))))))) = some r := by rw [if_pos rfl] at H; exact H
                        clear H
                        have H := H1
                        clear H1
                        by_cases c35 : x11_2 < 1
                        · rw [if_pos c35] at H
                          have c35b0 : decide (x11_2 < 1) = true := decide_eq_true c35
                          clear c35
                          obtain rfl := Option.some.inj H
                          go_wp2_with (first | ((with_reducible refine gate_callee (f := 11) rfl ?_); refine goesL_ (some 98) rfl rfl Try.func11 (by kernel_rfl) rfl #[.int .i64 x11_2, .int .i64 a2] rfl (by (try simp only [List.map_toArray, List.map_cons, List.map_nil]); first | done | rfl | (simp only [List.length_drop, List.length_take]; rfl)) ?_; (with_reducible refine (token_MayPlace.calls x11_2 a2 true _ A33.out).mono ?_); rintro e w' ⟨rfl, ⟨nd, rfl⟩⟩; refine ⟨_, rfl, ?_⟩))
                          go_ret
                          exact ⟨by first | rfl | (simp; done) | (simp [*]; done), by repeat (first | exact Drawn0.refl _ | apply Drawn0.step)⟩
                        · rw [if_neg c35] at H
                          have c35b0 : decide (x11_2 < 1) = false := decide_eq_false c35
                          clear c35
                          by_cases c36 : x11_2 > 3
                          · rw [if_pos c36] at H
                            have c36b0 : decide (3 < x11_2) = true := decide_eq_true c36
                            clear c36
                            obtain rfl := Option.some.inj H
                            go_wp2_with (first | ((with_reducible refine gate_callee (f := 11) rfl ?_); refine goesL_ (some 98) rfl rfl Try.func11 (by kernel_rfl) rfl #[.int .i64 x11_2, .int .i64 a2] rfl (by (try simp only [List.map_toArray, List.map_cons, List.map_nil]); first | done | rfl | (simp only [List.length_drop, List.length_take]; rfl)) ?_; (with_reducible refine (token_MayPlace.calls x11_2 a2 true _ A33.out).mono ?_); rintro e w' ⟨rfl, ⟨nd, rfl⟩⟩; refine ⟨_, rfl, ?_⟩))
                            go_ret
                            exact ⟨by first | rfl | (simp; done) | (simp [*]; done), by repeat (first | exact Drawn0.refl _ | apply Drawn0.step)⟩
                          · rw [if_neg c36] at H
                            have c36b0 : decide (3 < x11_2) = false := decide_eq_false c36
                            clear c36
                            by_cases c37 : a2 < 1
                            · rw [if_pos c37] at H
                              have c37b0 : decide (a2 < 1) = true := decide_eq_true c37
                              clear c37
                              obtain rfl := Option.some.inj H
                              go_wp2_with (first | ((with_reducible refine gate_callee (f := 11) rfl ?_); refine goesL_ (some 98) rfl rfl Try.func11 (by kernel_rfl) rfl #[.int .i64 x11_2, .int .i64 a2] rfl (by (try simp only [List.map_toArray, List.map_cons, List.map_nil]); first | done | rfl | (simp only [List.length_drop, List.length_take]; rfl)) ?_; (with_reducible refine (token_MayPlace.calls x11_2 a2 true _ A33.out).mono ?_); rintro e w' ⟨rfl, ⟨nd, rfl⟩⟩; refine ⟨_, rfl, ?_⟩))
                              go_ret
                              exact ⟨by first | rfl | (simp; done) | (simp [*]; done), by repeat (first | exact Drawn0.refl _ | apply Drawn0.step)⟩
                            · rw [if_neg c37] at H
                              have c37b0 : decide (a2 < 1) = false := decide_eq_false c37
                              clear c37
                              by_cases c38 : a2 > 4
                              · rw [if_pos c38] at H
                                have c38b0 : decide (4 < a2) = true := decide_eq_true c38
                                clear c38
                                obtain rfl := Option.some.inj H
                                go_wp2_with (first | ((with_reducible refine gate_callee (f := 11) rfl ?_); refine goesL_ (some 98) rfl rfl Try.func11 (by kernel_rfl) rfl #[.int .i64 x11_2, .int .i64 a2] rfl (by (try simp only [List.map_toArray, List.map_cons, List.map_nil]); first | done | rfl | (simp only [List.length_drop, List.length_take]; rfl)) ?_; (with_reducible refine (token_MayPlace.calls x11_2 a2 true _ A33.out).mono ?_); rintro e w' ⟨rfl, ⟨nd, rfl⟩⟩; refine ⟨_, rfl, ?_⟩))
                                go_ret
                                exact ⟨by first | rfl | (simp; done) | (simp [*]; done), by repeat (first | exact Drawn0.refl _ | apply Drawn0.step)⟩
                              · rw [if_neg c38] at H
                                have c38b0 : decide (4 < a2) = false := decide_eq_false c38
                                clear c38
                                have H' := Aside0.mk H
                                clear H
                                go_wp2_with (first | ((with_reducible refine gate_callee (f := 11) rfl ?_); refine goesL_ (some 98) rfl rfl Try.func11 (by kernel_rfl) rfl #[.int .i64 x11_2, .int .i64 a2] rfl (by (try simp only [List.map_toArray, List.map_cons, List.map_nil]); first | done | rfl | (simp only [List.length_drop, List.length_take]; rfl)) ?_; (with_reducible refine (token_MayPlace.calls x11_2 a2 true _ A33.out).mono ?_); rintro e w' ⟨rfl, ⟨nd, rfl⟩⟩; refine ⟨_, rfl, ?_⟩))
                                go_roundg kj21
                                case measure => have := HJ9.out; have := HK2.out; have := HJ21.out; omega
                                case rel => exact ⟨(wrap64 (x11_2 + 1)), (by first | rfl | (simp; done) | (simp [*]; done)), H', ⟨by have := HJ9.out; have := HK2.out; have := HJ21.out; omega⟩, by repeat (first | exact Drawn0.refl _ | apply Drawn0.step)⟩
                      · replace c34 := Bool.eq_false_iff.mpr c34
                        subst c34
                        have H1 : (hoistwaylaw12_TokenRoles.l0 kj21 a2 (wrap64 (x11_2 + 1))) = some r := by rw [if_neg (show ¬ (false = true) by decide)] at H; exact H
                        clear H
                        have H := H1
                        clear H1
                        have H' := Aside0.mk H
                        clear H
                        go_wp2_with (first | ((with_reducible refine gate_callee (f := 11) rfl ?_); refine goesL_ (some 98) rfl rfl Try.func11 (by kernel_rfl) rfl #[.int .i64 x11_2, .int .i64 a2] rfl (by (try simp only [List.map_toArray, List.map_cons, List.map_nil]); first | done | rfl | (simp only [List.length_drop, List.length_take]; rfl)) ?_; (with_reducible refine (token_MayPlace.calls x11_2 a2 false _ A33.out).mono ?_); rintro e w' ⟨rfl, ⟨nd, rfl⟩⟩; refine ⟨_, rfl, ?_⟩))
                        go_roundg kj21
                        case measure => have := HJ9.out; have := HK2.out; have := HJ21.out; omega
                        case rel => exact ⟨(wrap64 (x11_2 + 1)), (by first | rfl | (simp; done) | (simp [*]; done)), H', ⟨by have := HJ9.out; have := HK2.out; have := HJ21.out; omega⟩, by repeat (first | exact Drawn0.refl _ | apply Drawn0.step)⟩
              · rw [if_neg c21] at H
                have c21b0 : decide (x11_2 < 6) = false := decide_eq_false c21
                clear c21
                obtain rfl := Option.some.inj H
                go_wp2
                go_ret
                exact ⟨by first | rfl | (simp; done) | (simp [*]; done), by repeat (first | exact Drawn0.refl _ | apply Drawn0.step)⟩
  · replace c5 := Bool.eq_false_iff.mpr c5
    subst c5
    have H1 : (some false) = some r := by rw [if_neg (show ¬ (false = true) by decide)] at H; exact H
    clear H
    have H := H1
    clear H1
    obtain rfl := Option.some.inj H
    go_enter Try.func4, Try.ntmps4
    go_wp2_with (first | ((with_reducible refine gate_callee (f := 6) rfl ?_); refine goesL_ (some 12) rfl rfl Try.func6 (by kernel_rfl) rfl #[] rfl (by (try simp only [List.map_toArray, List.map_cons, List.map_nil]); first | done | rfl | (simp only [List.length_drop, List.length_take]; rfl)) ?_; (with_reducible refine (hoistwaylaw12_awake.calls k  false _ A4.out).mono ?_); rintro e w' ⟨rfl, ⟨nd, rfl⟩⟩; refine ⟨_, rfl, ?_⟩))
    go_ret
    exact ⟨by first | rfl | (simp; done) | (simp [*]; done), by repeat (first | exact Drawn0.refl _ | apply Drawn0.step)⟩

/-- THE ONE PURE STATEMENT of hoistwaylaw12_TokenRoles: yours. -/
def hoistwaylaw12_TokenRoles.Pure : Prop := ∀ (a0 : Int) (a1 : Int) (a2 : Int), (Lit.int .u32 a0).wf = true → (Lit.int .i64 a1).wf = true → (Lit.int .i64 a2).wf = true → ∃ k, hoistwaylaw12_TokenRoles.f k a0 a1 a2 = some true
theorem hoistwaylaw12_TokenRoles.walk (P : hoistwaylaw12_TokenRoles.Pure) (a0 : Int) (a1 : Int) (a2 : Int) (w : World) (w0 : (Lit.int .u32 a0).wf = true) (w1 : (Lit.int .i64 a1).wf = true) (w2 : (Lit.int .i64 a2).wf = true) :
    Calls Try.prog 4 #[.int .u32 a0, .int .i64 a1, .int .i64 a2] w fun e w' => e = .returned (.bool true) ∧ Below w.heap.size w w' := by
  obtain ⟨k, h⟩ := P a0 a1 a2 w0 w1 w2
  refine (hoistwaylaw12_TokenRoles.calls k a0 a1 a2 true w h).mono ?_
  rintro e w' ⟨rfl, hd⟩
  exact ⟨rfl, hd.below⟩

end Go.Proofs.Ytnikhfcjnimbdaa.PTokenRoles
