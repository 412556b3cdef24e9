/- Principals that are alike in their 32 lowest bits have one token, and of one secret unlike numbers below 256 have unlike tokens: the plain law over numbers. For every secret, principal, role and byte. -/
import Derived.Test.YtnikhfcjnimbdaaPTokenBitsx2
import Derived.Test.YtnikhfcjnimbdaaTokMath
namespace Go.Proofs.Ytnikhfcjnimbdaa.Pure
open Go.RowKit Go.Proofs.Ytnikhfcjnimbdaa.PTokenBits Go.Proofs.YtnikhfcjnimbdaaW.PrintWords Go.Proofs.YtnikhfcjnimbdaaW.PrintLast
open Go.Proofs.Ytnikhfcjnimbdaa.TokMath

namespace BitsPure

theorem more_eq (s b : Int) : token_more.f s b = some (mI s b) := rfl

def wordV (a w : Int) : Int := mI (mI (mI (mI a (shr .u32 w 24 % 256)) (shr .u32 w 16 % 256)) (shr .u32 w 8 % 256)) (shr .u32 w 0 % 256)

theorem word_eq (m : Nat) (a w : Int) : token_word.f (m + 5) a w = some (wordV a w) := by
  have e3 : IntKind.u64.wrap (wrap64 (3 * 8)) = 24 := by decide +kernel
  have e2 : IntKind.u64.wrap (wrap64 (2 * 8)) = 16 := by decide +kernel
  have e1 : IntKind.u64.wrap (wrap64 (1 * 8)) = 8 := by decide +kernel
  have e0 : IntKind.u64.wrap (wrap64 (0 * 8)) = 0 := by decide +kernel
  have d3 : wrap64 (3 - 1) = 2 := by decide +kernel
  have d2 : wrap64 (2 - 1) = 1 := by decide +kernel
  have d1 : wrap64 (1 - 1) = 0 := by decide +kernel
  have d0 : wrap64 (0 - 1) = -1 := by decide +kernel
  unfold token_word.f
  rw [token_word.l0, if_pos (by decide), e3, if_pos (by decide), more_eq, Option.bind_some, d3]
  rw [token_word.l0, if_pos (by decide), e2, if_pos (by decide), more_eq, Option.bind_some, d2]
  rw [token_word.l0, if_pos (by decide), e1, if_pos (by decide), more_eq, Option.bind_some, d1]
  rw [token_word.l0, if_pos (by decide), e0, if_pos (by decide), more_eq, Option.bind_some, d0]
  rw [token_word.l0, if_neg (by decide)]
  rfl

def preV (s w : Int) : Int := wordV (wordV 2166136261 s) (w % 4294967296)

theorem of_eq (m : Nat) (s w r : Int) : token_Of.f (m + 5) s w r = some (mI (preV s w) (r % 256)) := by
  unfold token_Of.f
  rw [word_eq, Option.bind_some, word_eq, Option.bind_some, more_eq, Option.bind_some]
  rfl

theorem pass_eq (m : Nat) (s w : Int) : token_Pass.f (m + 5) s w = some (mI (preV s w) 255) := by
  unfold token_Pass.f
  rw [of_eq, Option.bind_some]
  rfl

theorem is_no (m : Nat) (s w r t : Int) (h : mI (preV s w) (r % 256) ≠ t) : token_Is.f (m + 5) s w r t = some false := by
  unfold token_Is.f token_isRole.f
  rw [of_eq]
  by_cases h1 : w ≥ 1
  · by_cases h2 : w ≤ 1073741824
    · by_cases h3 : r ≥ 1
      · by_cases h4 : r ≤ 3
        · simp [h1, h2, h3, h4, h]
        · simp [h1, h2, h3, h4]
      · simp [h1, h2, h3]
    · simp [h1, h2]
  · simp [h1]

theorem is_yes (m : Nat) (s w r : Int) (h1 : w ≥ 1) (h2 : w ≤ 1073741824) (h3 : r ≥ 1) (h4 : r ≤ 3) : token_Is.f (m + 5) s w r (mI (preV s w) (r % 256)) = some true := by
  unfold token_Is.f token_isRole.f
  rw [of_eq]
  simp [h1, h2, h3, h4]

theorem is_none (m : Nat) (s w r t : Int) (h1 : ¬ w ≥ 1) : token_Is.f (m + 5) s w r t = some false := by
  unfold token_Is.f
  simp [h1]

theorem zero_ne : (mI (preV 0 0) (0 % 256) != 0) = true := by
  decide +kernel

theorem awake_eq (m : Nat) : hoistwaylaw12_awake.f (m + 5) = some true := by
  unfold hoistwaylaw12_awake.f
  rw [of_eq, of_eq, of_eq]
  simp only [Option.bind_some]
  rw [is_yes m 7 1 1 (by decide) (by decide) (by decide) (by decide), is_none m 7 0 1 _ (by decide)]
  simp only [Option.bind_some, zero_ne]
  rfl

theorem word_small (S a : Int) (h0 : 0 ≤ a) (h1 : a < 256) : wordV S (a % 4294967296) = mI (mI (mI (mI S 0) 0) 0) a := by
  have e : a % 4294967296 = a := by omega
  have s24 : shr .u32 a 24 % 256 = 0 := by show a / 16777216 % 256 = 0; omega
  have s16 : shr .u32 a 16 % 256 = 0 := by show a / 65536 % 256 = 0; omega
  have s8 : shr .u32 a 8 % 256 = 0 := by show a / 256 % 256 = 0; omega
  have s0 : shr .u32 a 0 % 256 = a := by show a / 1 % 256 = a; omega
  unfold wordV
  rw [e, s24, s16, s8, s0]

theorem pre_small (s a : Int) (h0 : 0 ≤ a) (h1 : a < 256) : preV s a = mI (mI (mI (mI (wordV 2166136261 s) 0) 0) 0) a := word_small _ a h0 h1

theorem pre_far (s a b : Int) (h : a % 4294967296 = b % 4294967296) : preV s a = preV s b := by unfold preV; rw [h]

theorem is_some (m : Nat) (s w r t : Int) : ∃ b, token_Is.f (m + 5) s w r t = some b ∧ (b = true → 1 ≤ w ∧ w ≤ 1073741824) := by
  unfold token_Is.f token_isRole.f
  rw [of_eq]
  by_cases h1 : w ≥ 1
  · by_cases h2 : w ≤ 1073741824
    · by_cases h3 : r ≥ 1
      · by_cases h4 : r ≤ 3
        · exact ⟨_, by simp [h1, h2, h3, h4]; rfl, fun _ => ⟨h1, h2⟩⟩
        · exact ⟨false, by simp [h1, h2, h3, h4], by simp⟩
      · exact ⟨false, by simp [h1, h2, h3], by simp⟩
    · exact ⟨false, by simp [h1, h2], by simp⟩
  · exact ⟨false, by simp [h1], by simp⟩

theorem j1_eq (m : Nat) (s w r o : Int) (h0 : 0 ≤ o) (h1 : o < 256) : hoistwaylaw12_TokenBits.j1 (m + 6) s w r o false = some true := by
  have hw : wrap64 o = o := by unfold wrap64; omega
  have a0 : 0 ≤ w % 256 := by omega
  have a1 : w % 256 < 256 := by omega
  rw [hoistwaylaw12_TokenBits.j1, if_neg Bool.false_ne_true, of_eq, Option.bind_some, of_eq, Option.bind_some, hw, pre_small s _ a0 a1, pre_small s o h0 h1]
  generalize w % 256 = a at *
  generalize mI (mI (mI (wordV 2166136261 s) 0) 0) 0 = K
  by_cases e : a = o
  · subst e; simp
  · have hne : mI (mI K a) (r % 256) ≠ mI (mI K o) (r % 256) := fun h =>
      e (mI_right a0 (by omega) h0 (by omega) (mI_left (mI_lo _ _) (mI_hi _ _) (mI_lo _ _) (mI_hi _ _) h))
    rw [beq_eq_false_iff_ne.2 hne, beq_eq_false_iff_ne.2 e]; rfl

theorem core (s w r more o : Int) (h0 : 0 ≤ o) (h1 : o < 256) (m : Nat)  : hoistwaylaw12_TokenBits.f (m + 7) s w r more o = some true := by
  have hfar : wrap64 (w + wrap64 (4294967296 * wrap64 (Int.tmod (IntKind.u64.wrap more) 1000))) % 4294967296 = w % 4294967296 := by
    generalize Int.tmod (IntKind.u64.wrap more) 1000 = q
    unfold wrap64
    omega
  generalize hf : wrap64 (w + wrap64 (4294967296 * wrap64 (Int.tmod (IntKind.u64.wrap more) 1000))) = far at hfar
  have ha := awake_eq (m + 2)
  have o1 := of_eq (m + 2) s w r
  have o2 := of_eq (m + 2) s far r
  have p1 := pass_eq (m + 2) s w
  have p2 := pass_eq (m + 2) s far
  rw [pre_far s far w hfar] at o2 p2
  obtain ⟨b, hb, hb2⟩ := is_some (m + 1) s far r (mI (preV s w) (r % 256))
  have hj := j1_eq m s w r o h0 h1
  generalize mI (preV s w) (r % 256) = t at *
  generalize mI (preV s w) 255 = pp at *
  unfold hoistwaylaw12_TokenBits.f
  rw [hf, ha, Option.bind_some, if_pos rfl, o1, Option.bind_some, o2, Option.bind_some, if_pos rfl, p2, Option.bind_some, p1, Option.bind_some]
  have ep : (pp != pp) = false := by simp
  rw [ep, hoistwaylaw12_TokenBits.j0, if_neg Bool.false_ne_true, hb, Option.bind_some]
  cases b with
  | false => rw [if_neg Bool.false_ne_true]; exact hj
  | true =>
    have hh := hb2 rfl
    have hd : decide (far > 1073741824) = false := by simp; omega
    rw [if_pos rfl, if_neg (by omega), hd]
    exact hj

end BitsPure
open BitsPure

theorem TokenBits : hoistwaylaw12_TokenBits.Pure := by
  intro s w r more o _ _ _ _ ho
  have hmin : IntKind.u8.min = 0 := rfl
  have hmax : IntKind.u8.max = 255 := rfl
  simp only [Lit.wf, Bool.and_eq_true, decide_eq_true_eq] at ho
  exact ⟨20 + 7, core s w r more o (by omega) (by omega) 20⟩

end Go.Proofs.Ytnikhfcjnimbdaa.Pure
