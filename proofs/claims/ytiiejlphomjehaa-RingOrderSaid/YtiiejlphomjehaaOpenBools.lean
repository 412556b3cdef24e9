/- Arguments opened: a row of Booleans handed in. No condition. -/
import Derived.Test.YtiiejlphomjehaaOpen
import Derived.ChangeSlices
import Derived.Deep.Grids
import Derived.WideShapes
namespace Go.Proofs.Ytiiejlphomjehaa
open Go.ChangeShapes Go.WideShapes Go.RowKit Go.Deep
section
variable {H : Type} {enc : TypeId × Value → H} {w : World} {base : Nat} {held : Bool}
theorem open_slb {r : Reach} {b0 : Nat} {v : Value} {d : DataW H} {p : List MemPlace} (hv : Value.okWide Try.prog w r b0 23 v) (h : DataW.Trod enc Try.prog w base (fun _ => true) held 23 v d p) :
    ∃ (A : Option Addr) (cap : Nat) (zs : List Bool), v = .slice A zs.length cap ∧ zs.length ≤ 9223372036854775807 ∧
      ∀ k, k < zs.length → ∃ b o, A = some ⟨b, o, none⟩ ∧ b < w.heap.size ∧ w.cell? ⟨b, o + k, none⟩ = some (.bool (zs.getD k false)) := by
  obtain ⟨a0, len, cap, rfl⟩ := okWide_slice Try.underlying23 hv
  obtain ⟨fuel, hf⟩ := h
  rcases open_bools Try.underlying23 Try.underlying4 (by kernel_rfl) hf with ⟨hcs, _⟩ | ⟨a, len', cap', B, hcs, _, hl, hm, _, hcell⟩
  · simp [Value.cells] at hcs
    obtain ⟨rfl, rfl, rfl⟩ := hcs
    exact ⟨none, 0, [], rfl, by simp, fun k hk => by simp at hk⟩
  · simp [Value.cells] at hcs
    obtain ⟨rfl, rfl, rfl⟩ := hcs
    have htl : ((List.range len).map B).length = len := by simp
    refine ⟨some a, cap, (List.range len).map B, by rw [htl], by rw [htl]; unfold maxLen at hm; omega, fun k hk => ?_⟩
    rw [htl] at hk
    obtain ⟨b, off, spot⟩ := a
    have hc := hcell k (by omega)
    have hspot : spot = none := by simpa [Addr.add] using World.cell?_spot (hcell 0 (by omega))
    subst hspot
    rw [add_plain] at hc
    refine ⟨b, off, rfl, World.block_lt_of_cell? w _ hc, ?_⟩
    rw [hc]
    simp [hk]
end
end Go.Proofs.Ytiiejlphomjehaa
