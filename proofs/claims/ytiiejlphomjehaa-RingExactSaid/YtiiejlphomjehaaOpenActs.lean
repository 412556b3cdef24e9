/- Arguments opened: a row of deeds (two numbers each) handed in. No condition. -/
import Derived.Test.YtiiejlphomjehaaOpen
import Derived.ChangeSlices
import Derived.ChangeArms
import Derived.Deep.SlicePairs
import Derived.WideShapes
namespace Go.Proofs.Ytiiejlphomjehaa
open Go.ChangeShapes Go.WideShapes Go.RowKit Go.Deep
section
variable {H : Type} {enc : TypeId × Value → H} {w : World} {base : Nat} {held : Bool}
theorem open_acts {r : Reach} {b0 : Nat} {v : Value} {d : DataW H} {p : List MemPlace} (hv : Value.okWide Try.prog w r b0 34 v) (h : DataW.Trod enc Try.prog w base (fun _ => true) held 34 v d p) :
    ∃ (A : Option Addr) (cap : Nat) (zs : List (Int × Int)), v = .slice A zs.length cap ∧ zs.length ≤ 9223372036854775807 ∧
      ∀ k, k < zs.length → ∃ b o, A = some ⟨b, o, none⟩ ∧ b < w.heap.size ∧ w.cell? ⟨b, o + k * 2, none⟩ = some (.int .i64 (zs.getD k (0, 0)).1) ∧ w.cell? ⟨b, o + k * 2 + 1, none⟩ = some (.int .i64 (zs.getD k (0, 0)).2) := by
  obtain ⟨a0, len, cap, rfl⟩ := okWide_slice Try.underlying34 hv
  obtain ⟨fuel, hf⟩ := h
  rcases open_slice_pairs Try.underlying34 Try.underlying37 (by kernel_rfl) rfl rfl (by kernel_rfl) (by kernel_rfl) hf with ⟨hcs, _⟩ | ⟨a, len', cap', m, n, V0, V1, D0, D1, P0, P1, hcs, _, hl, hm, hmm, _, hcell⟩
  · simp [Value.cells] at hcs
    obtain ⟨rfl, rfl, rfl⟩ := hcs
    exact ⟨none, 0, [], rfl, by simp, fun k hk => by simp at hk⟩
  · simp [Value.cells] at hcs
    obtain ⟨rfl, rfl, rfl⟩ := hcs
    have hlm : len ≤ m := by rw [hmm]; simpa using hl
    have each : ∀ i, i < m → ∃ z : Int × Int, V0 i = .int .i64 z.1 ∧ V1 i = .int .i64 z.2 := fun i hi => by
      obtain ⟨_, _, h0, h1⟩ := hcell i hi
      obtain ⟨z0, e0, _, _⟩ := DataW.trod_int Try.underlying3 h0
      obtain ⟨z1, e1, _, _⟩ := DataW.trod_int Try.underlying3 h1
      injection e0 with e0
      injection e1 with e1
      exact ⟨(z0, z1), e0, e1⟩
    obtain ⟨B, hB⟩ := choose_lt each
    have htl : ((List.range len).map B).length = len := by simp
    refine ⟨some a, cap, (List.range len).map B, by rw [htl], by rw [htl]; unfold maxLen at hm; omega, fun k hk => ?_⟩
    rw [htl] at hk
    obtain ⟨b, off, spot⟩ := a
    have hc := hcell k (by omega)
    have hspot : spot = none := by simpa [Addr.add] using World.cell?_spot (hcell 0 (by omega)).1
    subst hspot
    rw [add_plain, add_plain] at hc
    have hk2 := hB k (by omega)
    refine ⟨b, off, rfl, World.block_lt_of_cell? w _ hc.1, ?_, ?_⟩
    · rw [hc.1, hk2.1]
      simp [hk]
    · rw [Nat.add_assoc, hc.2.1, hk2.2]
      simp [hk]
end
end Go.Proofs.Ytiiejlphomjehaa
