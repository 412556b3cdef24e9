/- Arguments opened: an array of two numbers handed in. No condition. -/
import Derived.Test.YtdnkdanpcbjnbaaOpen
import Derived.OpenShut
namespace Go.Proofs.Ytdnkdanpcbjnbaa
open Go.ChangeShapes Go.WideShapes Go.RowKit Go.Deep
section
variable {H : Type} {enc : TypeId × Value → H} {w : World} {base : Nat} {spare : Nat → Bool} {held : Bool}
theorem cellsarr2 : Try.prog.cellsOf 45 = 2 := by kernel_rfl
theorem okWide_array {n : Nat} {e t : TypeId} {P : Program} {r : Reach} {b0 : Nat} {v : Value} (ht : P.underlying t = some (.array n e)) (h : Value.okWide P w r b0 t v) : ∃ cs, v = .agg cs ∧ cs.size = P.cellsOf t := by
  simp only [Value.okWide, ht] at h
  obtain ⟨cs, h1, h2, _⟩ := h
  exact ⟨cs, h1, h2⟩
theorem open_arr2 {r : Reach} {b0 : Nat} {v : Value} {d : DataW H} {p : List MemPlace} (hv : Value.okWide Try.prog w r b0 45 v) (h : DataW.Trod enc Try.prog w base spare held 45 v d p) :
    ∃ (a b : Int), v = .agg #[.int .i64 a, .int .i64 b] := by
  obtain ⟨cs, rfl, hsz0⟩ := okWide_array Try.underlying45 hv
  have hsz : cs.size = 2 := hsz0.trans cellsarr2
  obtain ⟨fuel, hf⟩ := h
  obtain ⟨xs, n, _, _, _, hlen, hg⟩ := DataW.trod_array Try.underlying45 hf
  have hcl : cs.toList.length = 2 := by simpa using hsz
  have hcs : (Value.agg cs).cells.toList = cs.toList := by simp [Value.cells]
  rw [hcs] at hg
  obtain ⟨a, ha⟩ := cell_of_trod (j := 0) (cs := cs.toList) (xs := xs) Try.underlying3 cells3 (by have := hg 0 (by omega); rw [Nat.zero_mul] at this; exact this) (by omega) (by omega)
  obtain ⟨b, hb⟩ := cell_of_trod (j := 1) (cs := cs.toList) (xs := xs) Try.underlying3 cells3 (by have := hg 1 (by omega); rw [cells3, Nat.one_mul] at this; rw [cells3]; exact this) (by omega) (by omega)
  refine ⟨a, b, ?_⟩
  congr 1
  apply Array.ext
  · rw [hsz]; rfl
  · intro i hi1 hi2
    rw [hsz] at hi1
    have hgi : cs.toList[i]? = some cs[i] := by simp
    have : i = 0 ∨ i = 1 := by omega
    rcases this with rfl | rfl
    · rw [hgi] at ha
      injection ha
    · rw [hgi] at hb
      injection hb
end
end Go.Proofs.Ytdnkdanpcbjnbaa
