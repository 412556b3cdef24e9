/- Of one principal the tokens of the three roles and the pass are all unlike, and who may set cars may ask all else: the plain law over numbers. For every secret, principal and kind. -/
import Derived.Test.YtnikhfcjnimbdaaPTokenRolesx2
import Derived.Test.YtnikhfcjnimbdaaTokMath
namespace Go.Proofs.Ytnikhfcjnimbdaa.Pure
open Go.RowKit Go.Proofs.Ytnikhfcjnimbdaa.PTokenRoles Go.Proofs.YtnikhfcjnimbdaaW.PrintWords Go.Proofs.YtnikhfcjnimbdaaW.PrintLast
open Go.Proofs.Ytnikhfcjnimbdaa.TokMath

namespace RolesPure

theorem more_eq (s b : Int) : token_more.f s b = some (mI s b) := rfl

def wordV (a w : Int) : Int := mI (mI (mI (mI a (shr .u32 w 24 % 256)) (shr .u32 w 16 % 256)) (shr .u32 w 8 % 256)) (shr .u32 w 0 % 256)

theorem word_eq (m : Nat) (a w : Int) : token_word.f (m + 5) a w = some (wordV a w) := by
  have e3 : IntKind.u64.wrap (wrap64 (3 * 8)) = 24 := by decide +kernel
  have e2 : IntKind.u64.wrap (wrap64 (2 * 8)) = 16 := by decide +kernel
  have e1 : IntKind.u64.wrap (wrap64 (1 * 8)) = 8 := by decide +kernel
  have e0 : IntKind.u64.wrap (wrap64 (0 * 8)) = 0 := by decide +kernel
  have d3 : wrap64 (3 - 1) = 2 := by decide +kernel
  have d2 : wrap64 (2 - 1) = 1 := by decide +kernel
  have d1 : wrap64 (1 - 1) = 0 := by decide +kernel
  have d0 : wrap64 (0 - 1) = -1 := by decide +kernel
  unfold token_word.f
  rw [token_word.l0, if_pos (by decide), e3, if_pos (by decide), more_eq, Option.bind_some, d3]
  rw [token_word.l0, if_pos (by decide), e2, if_pos (by decide), more_eq, Option.bind_some, d2]
  rw [token_word.l0, if_pos (by decide), e1, if_pos (by decide), more_eq, Option.bind_some, d1]
  rw [token_word.l0, if_pos (by decide), e0, if_pos (by decide), more_eq, Option.bind_some, d0]
  rw [token_word.l0, if_neg (by decide)]
  rfl

def preV (s w : Int) : Int := wordV (wordV 2166136261 s) (w % 4294967296)

theorem of_eq (m : Nat) (s w r : Int) : token_Of.f (m + 5) s w r = some (mI (preV s w) (r % 256)) := by
  unfold token_Of.f
  rw [word_eq, Option.bind_some, word_eq, Option.bind_some, more_eq, Option.bind_some]
  rfl

theorem pass_eq (m : Nat) (s w : Int) : token_Pass.f (m + 5) s w = some (mI (preV s w) 255) := by
  unfold token_Pass.f
  rw [of_eq, Option.bind_some]
  rfl

theorem is_no (m : Nat) (s w r t : Int) (h : mI (preV s w) (r % 256) ≠ t) : token_Is.f (m + 5) s w r t = some false := by
  unfold token_Is.f token_isRole.f
  rw [of_eq]
  by_cases h1 : w ≥ 1
  · by_cases h2 : w ≤ 1073741824
    · by_cases h3 : r ≥ 1
      · by_cases h4 : r ≤ 3
        · simp [h1, h2, h3, h4, h]
        · simp [h1, h2, h3, h4]
      · simp [h1, h2, h3]
    · simp [h1, h2]
  · simp [h1]

theorem is_yes (m : Nat) (s w r : Int) (h1 : w ≥ 1) (h2 : w ≤ 1073741824) (h3 : r ≥ 1) (h4 : r ≤ 3) : token_Is.f (m + 5) s w r (mI (preV s w) (r % 256)) = some true := by
  unfold token_Is.f token_isRole.f
  rw [of_eq]
  simp [h1, h2, h3, h4]

theorem is_none (m : Nat) (s w r t : Int) (h1 : ¬ w ≥ 1) : token_Is.f (m + 5) s w r t = some false := by
  unfold token_Is.f
  simp [h1]

theorem zero_ne : (mI (preV 0 0) (0 % 256) != 0) = true := by
  decide +kernel

theorem awake_eq (m : Nat) : hoistwaylaw12_awake.f (m + 5) = some true := by
  unfold hoistwaylaw12_awake.f
  rw [of_eq, of_eq, of_eq]
  simp only [Option.bind_some]
  rw [is_yes m 7 1 1 (by decide) (by decide) (by decide) (by decide), is_none m 7 0 1 _ (by decide)]
  simp only [Option.bind_some, zero_ne]
  rfl

theorem place_eq (r k : Int) : ∃ b, token_MayPlace.f r k = some b ∧ (r = 3 → k > 0 → k < 5 → b = true) ∧ (b = true → 1 ≤ r ∧ r ≤ 3 ∧ 1 ≤ k ∧ k ≤ 4) := by
  unfold token_MayPlace.f
  by_cases h1 : r = 1
  · subst h1
    by_cases k1 : k = 1
    · exact ⟨true, by simp [k1], by omega, by omega⟩
    · by_cases k2 : k = 2
      · exact ⟨true, by simp [k2], by omega, by omega⟩
      · exact ⟨k == 4, by simp [k1, k2], by omega, by simp; omega⟩
  · by_cases h2 : r = 2
    · subst h2
      exact ⟨k == 4, by simp, by omega, by simp; omega⟩
    · by_cases h3 : r = 3
      · subst h3
        by_cases k1 : k ≥ 1
        · exact ⟨decide (k ≤ 4), by simp [k1], by simp; omega, by simp; omega⟩
        · exact ⟨false, by simp [k1], by omega, by simp⟩
      · exact ⟨false, by simp [h1, h2, h3], by omega, by simp⟩

theorem loop_eq (x2 : Int) (d : Nat) : ∀ (k : Nat) (x : Int), -1 ≤ x → x ≤ 6 → 6 - x = d → 2 * d < k → hoistwaylaw12_TokenRoles.l0 k x2 x = some true := by
  induction d with
  | zero =>
    intro k x h0 h1 hd hk
    obtain ⟨k, rfl⟩ : ∃ m, k = m + 1 := ⟨k - 1, by omega⟩
    rw [hoistwaylaw12_TokenRoles.l0, if_neg (by omega)]
  | succ d ih =>
    intro k x h0 h1 hd hk
    obtain ⟨k, rfl⟩ : ∃ m, k = m + 2 := ⟨k - 2, by omega⟩
    have hw : wrap64 (x + 1) = x + 1 := by unfold wrap64; omega
    have hn := ih k (x + 1) (by omega) (by omega) (by omega) (by omega)
    have hj : hoistwaylaw12_TokenRoles.j2 (k + 1) x2 x false = some true := by
      obtain ⟨b, hb, _, hb2⟩ := place_eq x x2
      rw [hoistwaylaw12_TokenRoles.j2, if_neg (by decide), hb, Option.bind_some]
      cases b with
      | false => simp [hw, hn]
      | true =>
        have := hb2 rfl
        rw [if_pos rfl, if_neg (by omega), if_neg (by omega), if_neg (by omega), if_neg (by omega), hw, hn]
    rw [hoistwaylaw12_TokenRoles.l0, if_pos (by omega)]
    unfold token_MaySet.f token_MayCancel.f token_MayFeed.f
    rw [Option.bind_some]
    by_cases h3 : x = 3
    · subst h3
      simp only [beq_self_eq_true, if_true]
      by_cases a : x2 > 0
      · by_cases b : x2 < 5
        · obtain ⟨c, hc, hc1, _⟩ := place_eq 3 x2
          have hct := hc1 rfl a b
          subst hct
          simp [a, b, hc, hj]
        · simp [a, b, hj]
      · simp [a, hj]
    · simp [h3, hj]

theorem ne_ (s w a b : Int) (ha : 0 ≤ a) (ha' : a < 256) (hb : 0 ≤ b) (hb' : b < 256) (hab : a ≠ b) : mI (preV s w) a ≠ mI (preV s w) b :=
  fun h => hab (mI_right ha (by omega) hb (by omega) h)

theorem of1 (m : Nat) (s w : Int) : token_Of.f (m + 5) s w 1 = some (mI (preV s w) 1) := of_eq m s w 1
theorem of2 (m : Nat) (s w : Int) : token_Of.f (m + 5) s w 2 = some (mI (preV s w) 2) := of_eq m s w 2
theorem of3 (m : Nat) (s w : Int) : token_Of.f (m + 5) s w 3 = some (mI (preV s w) 3) := of_eq m s w 3
theorem is3 (m : Nat) (s w t : Int) (h : mI (preV s w) 3 ≠ t) : token_Is.f (m + 5) s w 3 t = some false := is_no m s w 3 t h
theorem is1 (m : Nat) (s w t : Int) (h : mI (preV s w) 1 ≠ t) : token_Is.f (m + 5) s w 1 t = some false := is_no m s w 1 t h

theorem core (s w kind : Int) (m : Nat) (hm : 20 ≤ m) : hoistwaylaw12_TokenRoles.f (m + 5) s w kind = some true := by
  have n12 := ne_ s w 1 2 (by omega) (by omega) (by omega) (by omega) (by omega)
  have n13 := ne_ s w 1 3 (by omega) (by omega) (by omega) (by omega) (by omega)
  have n23 := ne_ s w 2 3 (by omega) (by omega) (by omega) (by omega) (by omega)
  have np1 := ne_ s w 255 1 (by omega) (by omega) (by omega) (by omega) (by omega)
  have np2 := ne_ s w 255 2 (by omega) (by omega) (by omega) (by omega) (by omega)
  have np3 := ne_ s w 255 3 (by omega) (by omega) (by omega) (by omega) (by omega)
  have i3 := is3 m s w (mI (preV s w) 1) n13.symm
  have i1 := is1 m s w (mI (preV s w) 255) np1.symm
  have hl := loop_eq kind 7 (m + 4) (-1) (by omega) (by omega) (by omega) (by omega)
  have ha := awake_eq m
  have h1 := of1 m s w
  have h2 := of2 m s w
  have h3 := of3 m s w
  have hp := pass_eq m s w
  unfold hoistwaylaw12_TokenRoles.f
  generalize mI (preV s w) 1 = t1 at *
  generalize mI (preV s w) 2 = t2 at *
  generalize mI (preV s w) 3 = t3 at *
  generalize mI (preV s w) 255 = t4 at *
  rw [ha, Option.bind_some, if_pos rfl, h1, Option.bind_some, h2, Option.bind_some, h3, Option.bind_some, hp, Option.bind_some, if_neg n12, if_neg n13, if_neg n23, if_neg np1, if_neg np2, if_neg np3, i3, Option.bind_some,
    if_neg Bool.false_ne_true, i1, Option.bind_some, hoistwaylaw12_TokenRoles.j0, if_neg Bool.false_ne_true]
  exact hl

end RolesPure
open RolesPure

theorem TokenRoles : hoistwaylaw12_TokenRoles.Pure := fun s w kind _ _ _ => ⟨20 + 5, core s w kind 20 (Nat.le_refl _)⟩

end Go.Proofs.Ytnikhfcjnimbdaa.Pure
