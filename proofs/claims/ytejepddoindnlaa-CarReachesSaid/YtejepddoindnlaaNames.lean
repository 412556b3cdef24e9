/- Names as numbers: what site.Get and site.Set do at a name that is known; a configuration with one number turned. No condition. -/
import Derived.Test.YtejepddoindnlaaSite6
import Derived.Test.YtejepddoindnlaaBox
namespace Go.Proofs.Ytejepddoindnlaa
open Go.RowKit

/-- Whether a name is among the first k ones. -/
def knownV (nm : ByteArray) (k : Nat) : Bool := (List.range k).any fun j => nm.toList == (nameAt j).toList

theorem known_succ_t {nm : ByteArray} {k : Nat} (h : knownV nm k = true) : knownV nm (k + 1) = true := by
  unfold knownV at h ⊢
  rw [List.range_succ, List.any_append, h]
  rfl
theorem known_succ_f {nm : ByteArray} {k : Nat} (h : knownV nm k = false) : knownV nm (k + 1) = (nm.toList == (nameAt k).toList) := by
  unfold knownV at h ⊢
  rw [List.range_succ, List.any_append, h]
  simp

theorem nameB_at (k : Nat) (hk : k < 17) : nameB k = (nameAt k).toList := by
  rw [ByteArray.toList_eq]
  have : k = 0 ∨ k = 1 ∨ k = 2 ∨ k = 3 ∨ k = 4 ∨ k = 5 ∨ k = 6 ∨ k = 7 ∨ k = 8 ∨ k = 9 ∨ k = 10 ∨ k = 11 ∨ k = 12 ∨ k = 13 ∨ k = 14 ∨ k = 15 ∨ k = 16 := by omega
  rcases this with rfl | rfl | rfl | rfl | rfl | rfl | rfl | rfl | rfl | rfl | rfl | rfl | rfl | rfl | rfl | rfl | rfl <;> rfl

theorem find_name (k : Nat) (hk : k < 17) : findIx (nameAt k) = k := by
  have : k = 0 ∨ k = 1 ∨ k = 2 ∨ k = 3 ∨ k = 4 ∨ k = 5 ∨ k = 6 ∨ k = 7 ∨ k = 8 ∨ k = 9 ∨ k = 10 ∨ k = 11 ∨ k = 12 ∨ k = 13 ∨ k = 14 ∨ k = 15 ∨ k = 16 := by omega
  rcases this with rfl | rfl | rfl | rfl | rfl | rfl | rfl | rfl | rfl | rfl | rfl | rfl | rfl | rfl | rfl | rfl | rfl <;> decide +kernel
theorem is_name (k : Nat) (hk : k < 17) : isName (nameAt k) = true := by
  unfold isName
  rw [find_name k hk]
  exact decide_eq_true hk
theorem get_name (c : Nat → Int) (k : Nat) (hk : k < 17) : getV c (nameAt k) = c k := by
  unfold getV
  rw [find_name k hk, if_pos hk]
/-- A configuration with number k turned. -/
def putV (c : Nat → Int) (k : Nat) (n : Int) : Nat → Int := fun j => if j = k then n else c j
theorem set_name (c : Nat → Int) (k : Nat) (hk : k < 17) (n : Int) : setV c (nameAt k) n = putV c k n := by
  unfold setV putV
  rw [find_name k hk]
  funext j
  simp [hk]

/-- A name that is none of these is not found. -/
theorem unknown {nm : ByteArray} (h : knownV nm 17 = false) : isName nm = false := by
  have hm : findIx nm = 17 := find_miss fun j hj => by
    unfold knownV at h
    have h2 := List.any_eq_false.1 h j (by simpa using hj)
    rw [nameB_at j hj]
    simp only [Bool.not_eq_true] at h2
    rw [beq_eq_false_iff_ne] at h2 ⊢
    exact fun e => h2 e.symm
  unfold isName
  rw [hm]
  rfl

theorem arr_at {c : Nat → Int} {k : Nat} (hk : k < 17) : (arrCells c)[k]? = some (.int .i64 (c k)) := by
  have : k = 0 ∨ k = 1 ∨ k = 2 ∨ k = 3 ∨ k = 4 ∨ k = 5 ∨ k = 6 ∨ k = 7 ∨ k = 8 ∨ k = 9 ∨ k = 10 ∨ k = 11 ∨ k = 12 ∨ k = 13 ∨ k = 14 ∨ k = 15 ∨ k = 16 := by omega
  rcases this with rfl | rfl | rfl | rfl | rfl | rfl | rfl | rfl | rfl | rfl | rfl | rfl | rfl | rfl | rfl | rfl | rfl <;> rfl
theorem arr_set (c : Nat → Int) (k : Nat) (hk : k < 17) (n : Int) : (arrCells c).setIfInBounds k (.int .i64 n) = arrCells (putV c k n) := by
  have : k = 0 ∨ k = 1 ∨ k = 2 ∨ k = 3 ∨ k = 4 ∨ k = 5 ∨ k = 6 ∨ k = 7 ∨ k = 8 ∨ k = 9 ∨ k = 10 ∨ k = 11 ∨ k = 12 ∨ k = 13 ∨ k = 14 ∨ k = 15 ∨ k = 16 := by omega
  rcases this with rfl | rfl | rfl | rfl | rfl | rfl | rfl | rfl | rfl | rfl | rfl | rfl | rfl | rfl | rfl | rfl | rfl <;> rfl

theorem eqItems_same {P : Program} {w : World} (d : Nat) (e : TypeId) (n : Nat) (xs : Array Value) : ∀ is : List Nat, (∀ i ∈ is, ∃ a, (part e xs (i * n)).run P w = .ok a w ∧ (Op.equalIn d e a a).run P w = .ok true w) → (Op.eqItems d e n xs xs is).run P w = .ok true w
  | [], _ => by simp [Op.eqItems]
  | i :: is, h => by
    obtain ⟨a, h1, h2⟩ := h i List.mem_cons_self
    have ih := eqItems_same d e n xs is fun j hj => h j (List.mem_cons_of_mem _ hj)
    simp only [Op.eqItems, Sem.run_bind, h1, h2, Result.andThen_ok]
    simpa using ih
theorem eq_arr (c : Nat → Int) (w : World) : (Op.equalIn 10000 51 (.agg (arrCells c)) (.agg (arrCells c))).run Try.prog w = .ok true w := by
  obtain ⟨i, hi⟩ := Option.isSome_iff_exists.1 (show (Try.prog.info? 3).isSome = true by kernel_rfl)
  rw [show (10000 : Nat) = 9999 + 1 from rfl, run_equalIn_array (P := Try.prog) w 9999 _ _ Try.underlying51 hi]
  have hc : Try.prog.cellsOf 3 = 1 := by kernel_rfl
  rw [hc]
  refine eqItems_same _ _ _ _ _ fun j hj => ⟨.int .i64 (c j), ?_, ?_⟩
  · have hj17 : j < 17 := by simpa using hj
    have : j = 0 ∨ j = 1 ∨ j = 2 ∨ j = 3 ∨ j = 4 ∨ j = 5 ∨ j = 6 ∨ j = 7 ∨ j = 8 ∨ j = 9 ∨ j = 10 ∨ j = 11 ∨ j = 12 ∨ j = 13 ∨ j = 14 ∨ j = 15 ∨ j = 16 := by omega
    rcases this with rfl | rfl | rfl | rfl | rfl | rfl | rfl | rfl | rfl | rfl | rfl | rfl | rfl | rfl | rfl | rfl | rfl <;> rfl
  · rw [run_equalIn_int w 9998 _ _ _ _ _ Try.underlying3, beq_self_eq_true]

/-! ### the contracts at a name that is known, or none -/
theorem mod17 (x : Int) : ∃ k : Nat, k < 17 ∧ (IntKind.u64.wrap x).tmod 17 = (k : Int) := by
  have h0 : 0 ≤ IntKind.u64.wrap x := by
    have : (0 : Int) ≤ x % 18446744073709551616 := Int.emod_nonneg _ (by decide)
    exact this
  obtain ⟨m, hm⟩ := Int.eq_ofNat_of_zero_le h0
  refine ⟨m % 17, Nat.mod_lt _ (by omega), ?_⟩
  rw [hm]
  rfl

end Go.Proofs.Ytejepddoindnlaa
