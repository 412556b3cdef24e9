/- Plain facts about configurations with one number turned: no program in them. -/
import Derived.Test.YtejepddoindnlaaNames
namespace Go.Proofs.Ytejepddoindnlaa
open Go.RowKit

theorem put_same (c : Nat → Int) (k : Nat) (n : Int) : putV c k n k = n := by unfold putV; rw [if_pos rfl]
theorem put_other (c : Nat → Int) {k j : Nat} (h : j ≠ k) (n : Int) : putV c k n j = c j := by unfold putV; rw [if_neg h]

theorem good_put {c : Nat → Int} (h : good c = true) (k : Nat) (hk : k < 17) (n : Int) : good (putV c k n) = decide (least k ≤ n ∧ n ≤ most k) := by
  by_cases hn : least k ≤ n ∧ n ≤ most k
  · rw [decide_eq_true hn]
    refine good_yes fun j hj => ?_
    by_cases e : j = k
    · subst e
      unfold okAt
      rw [put_same]
      exact hn
    · unfold okAt
      rw [put_other c e]
      exact good_at h j hj
  · rw [decide_eq_false hn]
    refine good_no k hk ?_
    rw [put_same]
    omega

theorem bounds17 (k : Nat) (hk : k < 17) : 0 ≤ least k ∧ least k ≤ most k ∧ most k ≤ 1048576 := by
  have : k = 0 ∨ k = 1 ∨ k = 2 ∨ k = 3 ∨ k = 4 ∨ k = 5 ∨ k = 6 ∨ k = 7 ∨ k = 8 ∨ k = 9 ∨ k = 10 ∨ k = 11 ∨ k = 12 ∨ k = 13 ∨ k = 14 ∨ k = 15 ∨ k = 16 := by omega
  rcases this with rfl | rfl | rfl | rfl | rfl | rfl | rfl | rfl | rfl | rfl | rfl | rfl | rfl | rfl | rfl | rfl | rfl <;> decide +kernel

theorem good_least {c : Nat → Int} (h : good c = true) (k : Nat) (hk : k < 17) : good (putV c k (least k)) = true := by
  rw [good_put h k hk]
  have := bounds17 k hk
  exact decide_eq_true ⟨Int.le_refl _, this.2.1⟩
theorem good_beyond {c : Nat → Int} (h : good c = true) (k : Nat) (hk : k < 17) : good (putV c k (least k - 1)) = false := by
  rw [good_put h k hk]
  exact decide_eq_false (by omega)

/-- What a good configuration's numbers are. -/
theorem good_nums {c : Nat → Int} (h : good c = true) : (2 ≤ c 0 ∧ c 0 ≤ 32) ∧ (1 ≤ c 3 ∧ c 3 ≤ 64) ∧ (1 ≤ c 10 ∧ c 10 ≤ 16) ∧ (1 ≤ c 11 ∧ c 11 ≤ 16) ∧ (0 ≤ c 13 ∧ c 13 ≤ 8) ∧ (1 ≤ c 15 ∧ c 15 ≤ 4) ∧ (0 ≤ c 16 ∧ c 16 ≤ 4) :=
  ⟨good_at h 0 (by omega), good_at h 3 (by omega), good_at h 10 (by omega), good_at h 11 (by omega), good_at h 13 (by omega), good_at h 15 (by omega), good_at h 16 (by omega)⟩

theorem ride_of {c : Nat → Int} (h : good c = true) : rideV c = 3 * (c 3 + 1) * (2 * c 0 * (c 15 + c 16 + 3)) := by unfold rideV tripV; rw [h]; rfl
theorem answer_of {c : Nat → Int} (h : good c = true) : answerV c = (c 10 + 1) * (2 * c 13 + 12) + c 11 := by unfold answerV; rw [h]; rfl

theorem ride_mono {a b x y : Int} (ha : 0 < a) (hab : a ≤ b) (hx : 0 < x) (hxy : x ≤ y) (hs : a < b ∨ x < y) : a * x < b * y := by
  rcases hs with h | h
  · exact Int.lt_of_lt_of_le (Int.mul_lt_mul_of_pos_right h hx) (Int.mul_le_mul_of_nonneg_left hxy (by omega))
  · exact Int.lt_of_le_of_lt (Int.mul_le_mul_of_nonneg_right hab (by omega)) (Int.mul_lt_mul_of_pos_left h (by omega))

def grI (k : Nat) : Nat := ([0, 3, 15, 16] : List Nat).getD k 0
def waI (k : Nat) : Nat := ([13, 10, 11] : List Nat).getD k 0
theorem grI_lt (k : Nat) (hk : k < 4) : grI k < 17 := by
  have : k = 0 ∨ k = 1 ∨ k = 2 ∨ k = 3 := by omega
  rcases this with rfl | rfl | rfl | rfl <;> decide
theorem waI_lt (k : Nat) (hk : k < 3) : waI k < 17 := by
  have : k = 0 ∨ k = 1 ∨ k = 2 := by omega
  rcases this with rfl | rfl | rfl <;> decide

theorem trip_pos {c : Nat → Int} (h : good c = true) : 0 < 2 * c 0 * (c 15 + c 16 + 3) := by
  have := good_nums h
  have h1 : (0 : Int) * 0 < 2 * c 0 * (c 15 + c 16 + 3) := by
    refine Int.lt_of_lt_of_le (b := 4 * 4) (by omega) (Int.mul_le_mul (by omega) (by omega) (by omega) (by omega))
  omega
theorem ride_pos {c : Nat → Int} (h : good c = true) : 0 < rideV c := by
  rw [ride_of h]
  have := good_nums h
  exact Int.mul_pos (by omega) (trip_pos h)
theorem answer_pos {c : Nat → Int} (h : good c = true) : 0 < answerV c := by
  rw [answer_of h]
  have := good_nums h
  have h1 : 0 < (c 10 + 1) * (2 * c 13 + 12) := Int.mul_pos (by omega) (by omega)
  omega

/-- A greater building is given more time. -/
theorem ride_grows {c : Nat → Int} (h : good c = true) (k : Nat) (hk : k < 4) (h' : good (putV c (grI k) (c (grI k) + 1)) = true) : rideV c < rideV (putV c (grI k) (c (grI k) + 1)) := by
  rw [ride_of h, ride_of h']
  have hn := good_nums h
  have ht := trip_pos h
  have : k = 0 ∨ k = 1 ∨ k = 2 ∨ k = 3 := by omega
  rcases this with rfl | rfl | rfl | rfl
  · show _ < 3 * (c 3 + 1) * (2 * (c 0 + 1) * (c 15 + c 16 + 3))
    exact ride_mono (by omega) (by omega) ht (Int.le_of_lt (Int.mul_lt_mul_of_pos_right (by omega) (by omega))) (Or.inr (Int.mul_lt_mul_of_pos_right (by omega) (by omega)))
  · show _ < 3 * ((c 3 + 1) + 1) * (2 * c 0 * (c 15 + c 16 + 3))
    exact ride_mono (by omega) (by omega) ht (Int.le_refl _) (Or.inl (by omega))
  · show _ < 3 * (c 3 + 1) * (2 * c 0 * ((c 15 + 1) + c 16 + 3))
    exact ride_mono (by omega) (by omega) ht (Int.le_of_lt (Int.mul_lt_mul_of_pos_left (by omega) (by omega))) (Or.inr (Int.mul_lt_mul_of_pos_left (by omega) (by omega)))
  · show _ < 3 * (c 3 + 1) * (2 * c 0 * (c 15 + (c 16 + 1) + 3))
    exact ride_mono (by omega) (by omega) ht (Int.le_of_lt (Int.mul_lt_mul_of_pos_left (by omega) (by omega))) (Or.inr (Int.mul_lt_mul_of_pos_left (by omega) (by omega)))
theorem answer_grows {c : Nat → Int} (h : good c = true) (k : Nat) (hk : k < 3) (h' : good (putV c (waI k) (c (waI k) + 1)) = true) : answerV c < answerV (putV c (waI k) (c (waI k) + 1)) := by
  rw [answer_of h, answer_of h']
  have hn := good_nums h
  have : k = 0 ∨ k = 1 ∨ k = 2 := by omega
  rcases this with rfl | rfl | rfl
  · show _ < (c 10 + 1) * (2 * (c 13 + 1) + 12) + c 11
    have := ride_mono (a := c 10 + 1) (b := c 10 + 1) (x := 2 * c 13 + 12) (y := 2 * (c 13 + 1) + 12) (by omega) (by omega) (by omega) (by omega) (Or.inr (by omega))
    omega
  · show _ < ((c 10 + 1) + 1) * (2 * c 13 + 12) + c 11
    have := ride_mono (a := c 10 + 1) (b := (c 10 + 1) + 1) (x := 2 * c 13 + 12) (y := 2 * c 13 + 12) (by omega) (by omega) (by omega) (by omega) (Or.inl (by omega))
    omega
  · show _ < (c 10 + 1) * (2 * c 13 + 12) + (c 11 + 1)
    omega
theorem ride_grows_b {c : Nat → Int} (h : good c = true) (k : Nat) (hk : k < 4) (h' : good (putV c (grI k) (c (grI k) + 1)) = true) : decide (rideV (putV c (grI k) (c (grI k) + 1)) ≤ rideV c) = false := by
  have := ride_grows h k hk h'
  exact decide_eq_false (by omega)
theorem answer_grows_b {c : Nat → Int} (h : good c = true) (k : Nat) (hk : k < 3) (h' : good (putV c (waI k) (c (waI k) + 1)) = true) : decide (answerV (putV c (waI k) (c (waI k) + 1)) ≤ answerV c) = false := by
  have := answer_grows h k hk h'
  exact decide_eq_false (by omega)
theorem at_bd {c : Nat → Int} (h : good c = true) (k : Nat) (hk : k < 17) : 0 ≤ c k ∧ c k ≤ 1048576 := by
  have h1 := good_at h k hk
  have h2 := bounds17 k hk
  omega
end Go.Proofs.Ytejepddoindnlaa
