/- Arguments opened: a row of numbers handed in. No condition. -/
import Derived.Test.YtjfpmolnipiphaaOpen
import Derived.ChangeSlices
import Derived.WideShapes
namespace Go.Proofs.Ytjfpmolnipiphaa
open Go.ChangeShapes Go.WideShapes Go.RowKit Go.Deep
section
variable {H : Type} {enc : TypeId × Value → H} {w : World} {base : Nat} {spare : Nat → Bool} {held : Bool}
theorem open_sl {r : Reach} {b0 : Nat} {v : Value} {d : DataW H} {p : List MemPlace} (hv : Value.okWide Try.prog w r b0 27 v) (h : DataW.Trod enc Try.prog w base spare held 27 v d p) :
    ∃ (A : Option Addr) (cap : Nat) (zs : List Int), v = .slice A zs.length cap ∧ zs.length ≤ 9223372036854775807 ∧
      ∀ k, k < zs.length → ∃ b o, A = some ⟨b, o, none⟩ ∧ b < w.heap.size ∧ w.cell? ⟨b, o + k, none⟩ = some (.int .i64 (zs.getD k 0)) := by
  obtain ⟨a0, len, cap, rfl⟩ := okWide_slice Try.underlying27 hv
  obtain ⟨fuel, hf⟩ := h
  rcases open_ints Try.underlying27 Try.underlying3 cells3 hf with ⟨hcs, _⟩ | ⟨a, len', cap', zs, hcs, _, hl, hm, hz, _, hcell, _⟩
  · simp [Value.cells] at hcs
    obtain ⟨rfl, rfl, rfl⟩ := hcs
    exact ⟨none, 0, [], rfl, by simp, fun k hk => by simp at hk⟩
  · simp [Value.cells] at hcs
    obtain ⟨rfl, rfl, rfl⟩ := hcs
    have hzl : len ≤ zs.length := by
      rw [hz]
      split
      · exact hl
      · exact Nat.le_refl _
    have htl : (zs.take len).length = len := by simp [hzl]
    refine ⟨some a, cap, zs.take len, by rw [htl], by rw [htl]; unfold maxLen at hm; omega, fun k hk => ?_⟩
    rw [htl] at hk
    obtain ⟨b, off, spot⟩ := a
    have hc := hcell k (by omega)
    have hspot : spot = none := by simpa [Addr.add] using World.cell?_spot (hcell 0 (by omega))
    subst hspot
    rw [add_plain] at hc
    refine ⟨b, off, rfl, World.block_lt_of_cell? w _ hc, ?_⟩
    rw [hc]
    simp [hk]
end
end Go.Proofs.Ytjfpmolnipiphaa
