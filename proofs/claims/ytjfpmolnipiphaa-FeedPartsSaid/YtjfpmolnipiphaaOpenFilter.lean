/- Arguments opened: a filter handed in is two numbers. No condition. -/
import Derived.Test.YtjfpmolnipiphaaOpen
import Derived.Test.YtjfpmolnipiphaaFeed1
namespace Go.Proofs.Ytjfpmolnipiphaa
open Go.ChangeShapes Go.WideShapes Go.RowKit Go.Deep
section
variable {H : Type} {enc : TypeId × Value → H} {w : World} {base : Nat} {spare : Nat → Bool} {held : Bool}
theorem cellsflt : Try.prog.cellsOf 26 = 2 := by kernel_rfl
theorem open_flt {r : Reach} {b0 : Nat} {v : Value} {d : DataW H} {p : List MemPlace} (hv : Value.okWide Try.prog w r b0 26 v) (h : DataW.Trod enc Try.prog w base spare held 26 v d p) :
    ∃ (a b : Int), v = .agg #[.int .i64 a, .int .i64 b] := by
  obtain ⟨cs, rfl, hsz0⟩ := okWide_struct Try.underlying26 hv
  have hsz : cs.size = 2 := hsz0.trans cellsflt
  obtain ⟨fuel, hf⟩ := h
  obtain ⟨xs, n, _, _, _, hlen, hg⟩ := DataW.trod_struct Try.underlying26 hf
  have hl : xs.length = 2 := hlen
  have hcl : cs.toList.length = 2 := by simpa using hsz
  have hcs : (Value.agg cs).cells.toList = cs.toList := by simp [Value.cells]
  rw [hcs] at hg
  obtain ⟨a, ha⟩ := cell_of_trod (j := 0) (cs := cs.toList) (xs := xs) Try.underlying3 cells3 (hg 0 _ rfl) (by omega) (by omega)
  obtain ⟨b, hb⟩ := cell_of_trod (j := 1) (cs := cs.toList) (xs := xs) Try.underlying3 cells3 (hg 1 _ rfl) (by omega) (by omega)
  refine ⟨a, b, ?_⟩
  congr 1
  apply Array.ext
  · rw [hsz]; rfl
  · intro i hi1 hi2
    rw [hsz] at hi1
    have hgi : cs.toList[i]? = some cs[i] := by simp
    have : i = 0 ∨ i = 1 := by omega
    rcases this with rfl | rfl
    · rw [hgi] at ha
      injection ha
    · rw [hgi] at hb
      injection hb
end
end Go.Proofs.Ytjfpmolnipiphaa
