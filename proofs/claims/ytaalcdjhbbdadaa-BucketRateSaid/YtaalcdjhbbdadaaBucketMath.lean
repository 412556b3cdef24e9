/- Plain facts about a bucket's level: no program in them. -/
import Derived.Test.YtaalcdjhbbdadaaBucket3
import Derived.Test.YtaalcdjhbbdadaaOpenBucket
namespace Go.Proofs.Ytaalcdjhbbdadaa
open Go.RowKit

theorem level_of {c : Nat → Int} {t l now : Int} (h : bchkV c t l = true) (h' : tickV now = true) : levelV c t l now = min (c 7) (t + c 8 * max 0 (now - l)) := by
  unfold levelV
  rw [h, h']
  rfl
theorem level_off {c : Nat → Int} {t l now : Int} (h : tickV now = false) : levelV c t l now = 0 := by
  unfold levelV
  rw [h, Bool.and_false]
  rfl
theorem tick_mk {n : Int} (h0 : 0 ≤ n) (h1 : n ≤ 1073741824) : tickV n = true := by
  unfold tickV
  rw [decide_eq_true h0, decide_eq_true h1]
  rfl
theorem bchk_mk {c : Nat → Int} {t l : Int} (hg : good c = true) (h0 : 0 ≤ t) (h1 : t ≤ c 7) (h2 : 0 ≤ l) (h3 : l ≤ 1073741824) : bchkV c t l = true := by
  unfold bchkV
  rw [hg, decide_eq_true h0, decide_eq_true h1, tick_mk h2 h3]
  rfl
theorem level_ge {c : Nat → Int} {t l now : Int} (h : bchkV c t l = true) (h' : tickV now = true) : t ≤ levelV c t l now := by
  rw [level_of h h']
  obtain ⟨hg, b1, b2, b3, b4⟩ := bchk_true h
  obtain ⟨⟨c1, c2⟩, c3, c4⟩ := good_br hg
  have : 0 ≤ c 8 * max 0 (now - l) := Int.mul_nonneg (by omega) (by omega)
  omega
theorem level_le {c : Nat → Int} {t l now : Int} (h : bchkV c t l = true) : levelV c t l now ≤ c 7 := by
  obtain ⟨hg, b1, b2, b3, b4⟩ := bchk_true h
  obtain ⟨⟨c1, c2⟩, c3, c4⟩ := good_br hg
  unfold levelV
  split <;> omega
theorem level_mono {c : Nat → Int} {t l a b : Int} (h : bchkV c t l = true) (ha : tickV a = true) (hb : tickV b = true) (hab : a ≤ b) : levelV c t l a ≤ levelV c t l b := by
  rw [level_of h ha, level_of h hb]
  obtain ⟨hg, b1, b2, b3, b4⟩ := bchk_true h
  obtain ⟨⟨c1, c2⟩, c3, c4⟩ := good_br hg
  have : c 8 * max 0 (a - l) ≤ c 8 * max 0 (b - l) := Int.mul_le_mul_of_nonneg_left (by omega) (by omega)
  omega
/-- What a taken token leaves. -/
theorem taken_ok {c : Nat → Int} {t l a : Int} (h : bchkV c t l = true) (ha : tickV a = true) (h1 : 1 ≤ levelV c t l a) : bchkV c (levelV c t l a - 1) (max a l) = true := by
  have hle := level_le (now := a) h
  obtain ⟨hg, b1, b2, b3, b4⟩ := bchk_true h
  obtain ⟨n1, n2⟩ := tick_true ha
  exact bchk_mk hg (by omega) (by omega) (by omega) (by omega)
theorem taken_now {c : Nat → Int} {t l a : Int} (h : bchkV c t l = true) (ha : tickV a = true) (h1 : 1 ≤ levelV c t l a) : levelV c (levelV c t l a - 1) (max a l) (max a l) = levelV c t l a - 1 := by
  have hle := level_le (now := a) h
  have hk := taken_ok h ha h1
  obtain ⟨_, _, _, m1, m2⟩ := bchk_true hk
  rw [level_of hk (tick_mk m1 m2), Int.sub_self, show max (0 : Int) 0 = 0 from rfl, Int.mul_zero]
  omega
theorem taken_less {c : Nat → Int} {t l a more : Int} (h : bchkV c t l = true) (ha : tickV a = true) (h1 : 1 ≤ levelV c t l a) (hm : 0 ≤ more) : levelV c (levelV c t l a - 1) (max a l) (max a l + more) ≤ levelV c t l (max a l + more) := by
  have hk := taken_ok h ha h1
  cases hn : tickV (max a l + more)
  · rw [level_off hn, level_off hn]
    omega
  · rw [level_of hk hn, level_of h hn]
    obtain ⟨hg, b1, b2, b3, b4⟩ := bchk_true h
    obtain ⟨⟨c1, c2⟩, c3, c4⟩ := good_br hg
    have e1 : max 0 (max a l + more - max a l) = more := by omega
    rw [e1, level_of h ha]
    have e2 : max 0 (max a l + more - l) = max 0 (a - l) + more := by omega
    rw [e2, Int.mul_add]
    omega
end Go.Proofs.Ytaalcdjhbbdadaa
