/- Plain facts about what is taken of a bucket within any ticks: no program in them. -/
import Derived.Test.YtaalcdjhbbdadaaBucketMath
namespace Go.Proofs.Ytaalcdjhbbdadaa
open Go.RowKit

/-- Of the ticks at which a token was taken: from each one on, up to each later one, no more were taken than may be; and what is left, too. -/
structure RI (c : Nat → Int) (ts : List Int) (t l : Int) : Prop where
  left : ∀ i, i < ts.length → (ts.length : Int) - i + t ≤ c 7 + c 8 * (l - ts.getD i 0)
  two : ∀ i k, i ≤ k → k < ts.length → (k : Int) - i + 1 ≤ c 7 + c 8 * (ts.getD k 0 - ts.getD i 0)
  bd : ∀ i, i < ts.length → 0 ≤ ts.getD i 0 ∧ ts.getD i 0 ≤ l
theorem RI.nil (c : Nat → Int) (t l : Int) : RI c [] t l := ⟨fun _ h => by simp at h, fun _ _ _ h => by simp at h, fun _ h => by simp at h⟩
theorem getD_last (ts : List Int) (x : Int) : (ts ++ [x]).getD ts.length 0 = x := by simp
theorem getD_old (ts : List Int) (x : Int) {i : Nat} (h : i < ts.length) : (ts ++ [x]).getD i 0 = ts.getD i 0 := by simp [List.getElem?_append_left h]
theorem RI.take {c : Nat → Int} {ts : List Int} {t l now : Int} (h : RI c ts t l) (hk : bchkV c t l = true) (hn : tickV now = true) (hl : l ≤ now) (h1 : 1 ≤ levelV c t l now) : RI c (ts ++ [now]) (levelV c t l now - 1) now := by
  have hle := level_le (now := now) hk
  have hof := level_of hk hn
  obtain ⟨hg, b1, b2, b3, b4⟩ := bchk_true hk
  obtain ⟨⟨c1, c2⟩, c3, c4⟩ := good_br hg
  rw [show max 0 (now - l) = now - l by omega] at hof
  have key : ∀ i, i < ts.length → (ts.length : Int) + 1 - i + (levelV c t l now - 1) ≤ c 7 + c 8 * (now - ts.getD i 0) := fun i hi => by
    have h2 := h.left i hi
    have e : c 8 * (now - ts.getD i 0) = c 8 * (l - ts.getD i 0) + c 8 * (now - l) := by rw [← Int.mul_add]; congr 1; omega
    rw [e]
    omega
  refine ⟨fun i hi => ?_, fun i k hik hk' => ?_, fun i hi => ?_⟩
  · rw [List.length_append, List.length_singleton] at hi ⊢
    by_cases e : i < ts.length
    · rw [getD_old ts now e]
      have := key i e
      omega
    · obtain rfl : i = ts.length := by omega
      rw [getD_last, Int.sub_self, Int.mul_zero]
      omega
  · rw [List.length_append, List.length_singleton] at hk'
    by_cases e : k < ts.length
    · rw [getD_old ts now e, getD_old ts now (by omega)]
      exact h.two i k hik e
    · obtain rfl : k = ts.length := by omega
      rw [getD_last]
      by_cases e2 : i < ts.length
      · rw [getD_old ts now e2]
        have := key i e2
        omega
      · obtain rfl : i = ts.length := by omega
        rw [getD_last, Int.sub_self now, Int.mul_zero]
        omega
  · rw [List.length_append, List.length_singleton] at hi
    by_cases e : i < ts.length
    · rw [getD_old ts now e]
      have := h.bd i e
      omega
    · obtain rfl : i = ts.length := by omega
      rw [getD_last]
      exact ⟨by omega, Int.le_refl _⟩
theorem wait_level {c : Nat → Int} {t l now : Int} (hk : bchkV c t l = true) (hn : tickV (now + 1) = true) (hl : l ≤ now) : 1 ≤ levelV c t l (now + 1) := by
  rw [level_of hk hn]
  obtain ⟨hg, b1, b2, b3, b4⟩ := bchk_true hk
  obtain ⟨⟨c1, c2⟩, c3, c4⟩ := good_br hg
  have h1 : c 8 * 1 ≤ c 8 * max 0 (now + 1 - l) := Int.mul_le_mul_of_nonneg_left (by omega) (by omega)
  omega
theorem until_zero {c : Nat → Int} {t l now : Int} (hk : bchkV c t l = true) (hn : tickV now = true) (h1 : 1 ≤ levelV c t l now) : untilV c t l now = 0 := by
  unfold untilV
  rw [hk, hn]
  show (if 0 < levelV c t l now then (0 : Int) else max (l - now) 0 + 1) = 0
  rw [if_pos (by omega)]
theorem until_one {c : Nat → Int} {t l now : Int} (hk : bchkV c t l = true) (hn : tickV now = true) (h1 : ¬ 1 ≤ levelV c t l now) (hl : l ≤ now) : untilV c t l now = 1 := by
  unfold untilV
  rw [hk, hn]
  show (if 0 < levelV c t l now then (0 : Int) else max (l - now) 0 + 1) = 1
  rw [if_neg (by omega)]
  omega
theorem prod_bd {a b : Int} (a0 : 0 ≤ a) (a1 : a ≤ 1024) (b0 : -1000 ≤ b) (b1 : b ≤ 1000) : -1024000 ≤ a * b ∧ a * b ≤ 2048000 := by
  have h1 := mul_bd (a := a) (b := b + 1000) (A := 1024) (B := 2000) a0 a1 (by omega) (by omega)
  have e : a * (b + 1000) = a * b + a * 1000 := Int.mul_add a b 1000
  omega
theorem mod4 (x : Int) : ∃ k : Nat, k < 4 ∧ (IntKind.u64.wrap x).tmod 4 = (k : Int) := by
  have h0 : 0 ≤ IntKind.u64.wrap x := by
    have : (0 : Int) ≤ x % 18446744073709551616 := Int.emod_nonneg _ (by decide)
    exact this
  obtain ⟨m, hm⟩ := Int.eq_ofNat_of_zero_le h0
  refine ⟨m % 4, Nat.mod_lt _ (by omega), ?_⟩
  rw [hm]
  rfl
end Go.Proofs.Ytaalcdjhbbdadaa
