/- What the functions of layer 12 compute, in plain numbers: a token is one step behind a sum of secret and principal. For all numbers. -/
import Derived.Test.YtnikhfcjnimbdaaPTokenExactx1
import Derived.Test.YtnikhfcjnimbdaaTokMath
namespace Go.Proofs.Ytnikhfcjnimbdaa.Pure
open Go.RowKit Go.Proofs.Ytnikhfcjnimbdaa.PTokenExact Go.Proofs.YtnikhfcjnimbdaaW.PrintWords Go.Proofs.YtnikhfcjnimbdaaW.PrintLast
open Go.Proofs.Ytnikhfcjnimbdaa.TokMath

namespace ExactPure

theorem more_eq (s b : Int) : token_more.f s b = some (mI s b) := rfl

def wordV (a w : Int) : Int := mI (mI (mI (mI a (shr .u32 w 24 % 256)) (shr .u32 w 16 % 256)) (shr .u32 w 8 % 256)) (shr .u32 w 0 % 256)

theorem word_eq (m : Nat) (a w : Int) : token_word.f (m + 5) a w = some (wordV a w) := by
  have e3 : IntKind.u64.wrap (wrap64 (3 * 8)) = 24 := by decide +kernel
  have e2 : IntKind.u64.wrap (wrap64 (2 * 8)) = 16 := by decide +kernel
  have e1 : IntKind.u64.wrap (wrap64 (1 * 8)) = 8 := by decide +kernel
  have e0 : IntKind.u64.wrap (wrap64 (0 * 8)) = 0 := by decide +kernel
  have d3 : wrap64 (3 - 1) = 2 := by decide +kernel
  have d2 : wrap64 (2 - 1) = 1 := by decide +kernel
  have d1 : wrap64 (1 - 1) = 0 := by decide +kernel
  have d0 : wrap64 (0 - 1) = -1 := by decide +kernel
  unfold token_word.f
  rw [token_word.l0, if_pos (by decide), e3, if_pos (by decide), more_eq, Option.bind_some, d3]
  rw [token_word.l0, if_pos (by decide), e2, if_pos (by decide), more_eq, Option.bind_some, d2]
  rw [token_word.l0, if_pos (by decide), e1, if_pos (by decide), more_eq, Option.bind_some, d1]
  rw [token_word.l0, if_pos (by decide), e0, if_pos (by decide), more_eq, Option.bind_some, d0]
  rw [token_word.l0, if_neg (by decide)]
  rfl

def preV (s w : Int) : Int := wordV (wordV 2166136261 s) (w % 4294967296)

theorem of_eq (m : Nat) (s w r : Int) : token_Of.f (m + 5) s w r = some (mI (preV s w) (r % 256)) := by
  unfold token_Of.f
  rw [word_eq, Option.bind_some, word_eq, Option.bind_some, more_eq, Option.bind_some]
  rfl

theorem pass_eq (m : Nat) (s w : Int) : token_Pass.f (m + 5) s w = some (mI (preV s w) 255) := by
  unfold token_Pass.f
  rw [of_eq, Option.bind_some]
  rfl

theorem is_no (m : Nat) (s w r t : Int) (h : mI (preV s w) (r % 256) ≠ t) : token_Is.f (m + 5) s w r t = some false := by
  unfold token_Is.f token_isRole.f
  rw [of_eq]
  by_cases h1 : w ≥ 1
  · by_cases h2 : w ≤ 1073741824
    · by_cases h3 : r ≥ 1
      · by_cases h4 : r ≤ 3
        · simp [h1, h2, h3, h4, h]
        · simp [h1, h2, h3, h4]
      · simp [h1, h2, h3]
    · simp [h1, h2]
  · simp [h1]

theorem is_yes (m : Nat) (s w r : Int) (h1 : w ≥ 1) (h2 : w ≤ 1073741824) (h3 : r ≥ 1) (h4 : r ≤ 3) : token_Is.f (m + 5) s w r (mI (preV s w) (r % 256)) = some true := by
  unfold token_Is.f token_isRole.f
  rw [of_eq]
  simp [h1, h2, h3, h4]

theorem is_none (m : Nat) (s w r t : Int) (h1 : ¬ w ≥ 1) : token_Is.f (m + 5) s w r t = some false := by
  unfold token_Is.f
  simp [h1]

theorem zero_ne : (mI (preV 0 0) (0 % 256) != 0) = true := by
  decide +kernel

theorem awake_eq (m : Nat) : hoistwaylaw12_awake.f (m + 5) = some true := by
  unfold hoistwaylaw12_awake.f
  rw [of_eq, of_eq, of_eq]
  simp only [Option.bind_some]
  rw [is_yes m 7 1 1 (by decide) (by decide) (by decide) (by decide), is_none m 7 0 1 _ (by decide)]
  simp only [Option.bind_some, zero_ne]
  rfl

end ExactPure
end Go.Proofs.Ytnikhfcjnimbdaa.Pure
