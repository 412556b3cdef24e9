/- Layer 22: the law's changes; a feed that cannot start. No condition. -/
import Derived.Test.YtjfpmolnipiphaaFeed5
namespace Go.Proofs.Ytjfpmolnipiphaa
open Go.RowKit
set_option linter.unusedVariables false
set_option linter.unusedSimpArgs false

theorem modN (x : Int) (m : Nat) (hm : 0 < m) : ∃ k : Nat, k < m ∧ (IntKind.u64.wrap x).tmod (m : Int) = (k : Int) := by
  have h0 : 0 ≤ IntKind.u64.wrap x := by
    have : (0 : Int) ≤ x % 18446744073709551616 := Int.emod_nonneg _ (by decide)
    exact this
  obtain ⟨y, hy⟩ := Int.eq_ofNat_of_zero_le h0
  refine ⟨y % m, Nat.mod_lt _ hm, ?_⟩
  rw [hy]
  rfl
/-- The fields of the change of an index. -/
def chL (i : Int) (n k : Nat) : List Int := if n = 0 then [i, 0, 0, 0, 0, 0, 0, 0, 0, 1 + (k : Int), 1] else [i, 1 + ((n % 3 : Nat) : Int), 4, 1 + ((n % 4 : Nat) : Int), 5, ((n % 3 : Nat) : Int), 2, 0, 0, 0, 0]
def chf (i : Int) (j : Nat) : Int := (chL i ((IntKind.u64.wrap i).tmod 7).toNat ((IntKind.u64.wrap i).tmod 3).toNat).getD j 0
theorem chf_zero (i : Int) : chf i 0 = i := by
  unfold chf chL
  split <;> rfl
set_option maxRecDepth 100000 in
set_option maxHeartbeats 2000000 in
theorem change_any (i : Int) (w : World) : Calls Try.prog 8 #[.int .i64 i] w fun e w' => e = .returned (.agg (CC (chf i))) ∧ Below w.heap.size w w' := by
  obtain ⟨k, hk, hkk⟩ := modN i 3 (by omega)
  obtain ⟨n, hn, hnn⟩ := modN i 7 (by omega)
  have hkk : (IntKind.u64.wrap i).tmod 3 = (k : Int) := hkk
  have hnn : (IntKind.u64.wrap i).tmod 7 = (n : Int) := hnn
  have hch : CC (chf i) = CC (fun j => (chL i n k).getD j 0) := by unfold chf; rw [hkk, hnn]; rfl
  have e1 : IntKind.i64.wrap (1 + (k : Int)) = 1 + (k : Int) := IntWalk.i64_in _ (by omega)
  have e2 : IntKind.i64.wrap (k : Int) = (k : Int) := IntWalk.i64_in _ (by omega)
  have HC := Lib.hid hch
  have hS := St.nil w
  clear hch hk
  have hcase : n = 0 ∨ n = 1 ∨ n = 2 ∨ n = 3 ∨ n = 4 ∨ n = 5 ∨ n = 6 := by omega
  clear hn
  rcases hcase with rfl | rfl | rfl | rfl | rfl | rfl | rfl
  · go_enter Try.func8, Try.ntmps8
    go_wp2_with (refine store_new hS rfl rfl 38 _ _ rfl 38 _ #[.int .i64 i, .int .i64 0, .int .i64 0, .int .i64 0, .int .i64 0, .int .i64 0, .int .i64 0, .int .i64 0, .int .i64 0, .int .i64 (1 + (k : Int)), .int .i64 1] rfl rfl (by kernel_rfl) rfl (by simp [Value.oneCell']) ?_; intro w2 hS2 hlt2)
    refine bodyPost_ret (results_cell_row rfl _ _ w.heap.size 38 #[.int .i64 i, .int .i64 0, .int .i64 0, .int .i64 0, .int .i64 0, .int .i64 0, .int .i64 0, .int .i64 0, .int .i64 0, .int .i64 (1 + (k : Int)), .int .i64 1] (0, 0) _ rfl (hS2.get 0 rfl) Try.underlying38 rfl (by kernel_rfl)) rfl ?_
    exact ⟨by rw [HC.out]; rfl, hS2.below⟩
  · go_enter Try.func8, Try.ntmps8
    go_wp2_with (refine store_new hS rfl rfl 38 _ _ rfl 38 _ #[.int .i64 i, .int .i64 2, .int .i64 4, .int .i64 2, .int .i64 5, .int .i64 1, .int .i64 2, .int .i64 0, .int .i64 0, .int .i64 0, .int .i64 0] rfl rfl (by kernel_rfl) rfl (by simp [Value.oneCell']) ?_; intro w2 hS2 hlt2)
    refine bodyPost_ret (results_cell_row rfl _ _ w.heap.size 38 #[.int .i64 i, .int .i64 2, .int .i64 4, .int .i64 2, .int .i64 5, .int .i64 1, .int .i64 2, .int .i64 0, .int .i64 0, .int .i64 0, .int .i64 0] (0, 0) _ rfl (hS2.get 0 rfl) Try.underlying38 rfl (by kernel_rfl)) rfl ?_
    exact ⟨by rw [HC.out]; rfl, hS2.below⟩
  · go_enter Try.func8, Try.ntmps8
    go_wp2_with (refine store_new hS rfl rfl 38 _ _ rfl 38 _ #[.int .i64 i, .int .i64 3, .int .i64 4, .int .i64 3, .int .i64 5, .int .i64 2, .int .i64 2, .int .i64 0, .int .i64 0, .int .i64 0, .int .i64 0] rfl rfl (by kernel_rfl) rfl (by simp [Value.oneCell']) ?_; intro w2 hS2 hlt2)
    refine bodyPost_ret (results_cell_row rfl _ _ w.heap.size 38 #[.int .i64 i, .int .i64 3, .int .i64 4, .int .i64 3, .int .i64 5, .int .i64 2, .int .i64 2, .int .i64 0, .int .i64 0, .int .i64 0, .int .i64 0] (0, 0) _ rfl (hS2.get 0 rfl) Try.underlying38 rfl (by kernel_rfl)) rfl ?_
    exact ⟨by rw [HC.out]; rfl, hS2.below⟩
  · go_enter Try.func8, Try.ntmps8
    go_wp2_with (refine store_new hS rfl rfl 38 _ _ rfl 38 _ #[.int .i64 i, .int .i64 1, .int .i64 4, .int .i64 4, .int .i64 5, .int .i64 0, .int .i64 2, .int .i64 0, .int .i64 0, .int .i64 0, .int .i64 0] rfl rfl (by kernel_rfl) rfl (by simp [Value.oneCell']) ?_; intro w2 hS2 hlt2)
    refine bodyPost_ret (results_cell_row rfl _ _ w.heap.size 38 #[.int .i64 i, .int .i64 1, .int .i64 4, .int .i64 4, .int .i64 5, .int .i64 0, .int .i64 2, .int .i64 0, .int .i64 0, .int .i64 0, .int .i64 0] (0, 0) _ rfl (hS2.get 0 rfl) Try.underlying38 rfl (by kernel_rfl)) rfl ?_
    exact ⟨by rw [HC.out]; rfl, hS2.below⟩
  · go_enter Try.func8, Try.ntmps8
    go_wp2_with (refine store_new hS rfl rfl 38 _ _ rfl 38 _ #[.int .i64 i, .int .i64 2, .int .i64 4, .int .i64 1, .int .i64 5, .int .i64 1, .int .i64 2, .int .i64 0, .int .i64 0, .int .i64 0, .int .i64 0] rfl rfl (by kernel_rfl) rfl (by simp [Value.oneCell']) ?_; intro w2 hS2 hlt2)
    refine bodyPost_ret (results_cell_row rfl _ _ w.heap.size 38 #[.int .i64 i, .int .i64 2, .int .i64 4, .int .i64 1, .int .i64 5, .int .i64 1, .int .i64 2, .int .i64 0, .int .i64 0, .int .i64 0, .int .i64 0] (0, 0) _ rfl (hS2.get 0 rfl) Try.underlying38 rfl (by kernel_rfl)) rfl ?_
    exact ⟨by rw [HC.out]; rfl, hS2.below⟩
  · go_enter Try.func8, Try.ntmps8
    go_wp2_with (refine store_new hS rfl rfl 38 _ _ rfl 38 _ #[.int .i64 i, .int .i64 3, .int .i64 4, .int .i64 2, .int .i64 5, .int .i64 2, .int .i64 2, .int .i64 0, .int .i64 0, .int .i64 0, .int .i64 0] rfl rfl (by kernel_rfl) rfl (by simp [Value.oneCell']) ?_; intro w2 hS2 hlt2)
    refine bodyPost_ret (results_cell_row rfl _ _ w.heap.size 38 #[.int .i64 i, .int .i64 3, .int .i64 4, .int .i64 2, .int .i64 5, .int .i64 2, .int .i64 2, .int .i64 0, .int .i64 0, .int .i64 0, .int .i64 0] (0, 0) _ rfl (hS2.get 0 rfl) Try.underlying38 rfl (by kernel_rfl)) rfl ?_
    exact ⟨by rw [HC.out]; rfl, hS2.below⟩
  · go_enter Try.func8, Try.ntmps8
    go_wp2_with (refine store_new hS rfl rfl 38 _ _ rfl 38 _ #[.int .i64 i, .int .i64 1, .int .i64 4, .int .i64 3, .int .i64 5, .int .i64 0, .int .i64 2, .int .i64 0, .int .i64 0, .int .i64 0, .int .i64 0] rfl rfl (by kernel_rfl) rfl (by simp [Value.oneCell']) ?_; intro w2 hS2 hlt2)
    refine bodyPost_ret (results_cell_row rfl _ _ w.heap.size 38 #[.int .i64 i, .int .i64 1, .int .i64 4, .int .i64 3, .int .i64 5, .int .i64 0, .int .i64 2, .int .i64 0, .int .i64 0, .int .i64 0, .int .i64 0] (0, 0) _ rfl (hS2.get 0 rfl) Try.underlying38 rfl (by kernel_rfl)) rfl ?_
    exact ⟨by rw [HC.out]; rfl, hS2.below⟩
section
variable {w0 w : World} {L : List (Nat × TypeId × Array Value)} {R : List Ow} {gf gr room : Nat} {on : Bool} {kd n hd l : Int} {q : List (Int × (Nat → Int))}
theorem start_no {x : Int} {k2 n2 : Int} (hi : isV k2 n2 = false) (w : World) : Calls Try.prog 7 #[.pointer (some ⟨gf, 0, none⟩), .agg #[.int .i64 k2, .int .i64 n2], .int .i64 x] w fun e w' => e = .returned (.bool false) ∧ Below w.heap.size w w' := by
  have HI := Lib.hid hi
  have hS := (St.nil w).old (.cells #[.int .i64 k2, .int .i64 n2] 26)
  clear hi
  go_enter Try.func7, Try.ntmps7
  go_wp2_with (go_at_call 20; refine (is_any _ _ _).mono ?_; rintro e w1 ⟨rfl, hB⟩; rw [HI.out]; have hS1 := hS.step hB; clear hS hB)
  go_ret
  exact ⟨rfl, hS1.below⟩
end
end Go.Proofs.Ytjfpmolnipiphaa
