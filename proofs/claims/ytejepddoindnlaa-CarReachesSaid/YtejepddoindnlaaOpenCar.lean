/- Arguments opened: a car handed in is four numbers and a bool. No condition. -/
import Derived.Test.YtejepddoindnlaaOpen
import Derived.Test.YtejepddoindnlaaCar1
namespace Go.Proofs.Ytejepddoindnlaa
open Go.ChangeShapes Go.WideShapes Go.RowKit Go.Deep
section
variable {H : Type} {enc : TypeId × Value → H} {w : World} {base : Nat} {spare : Nat → Bool} {held : Bool}
theorem cellscar : Try.prog.cellsOf 26 = 5 := by kernel_rfl
theorem cellsbool : Try.prog.cellsOf 4 = 1 := by kernel_rfl
theorem cellb_of_trod {P : Program} {t : TypeId} {n j : Nat} {cs : List Value} {xs : List (DataW H × List MemPlace)} (hu : P.underlying t = some .bool) (h1 : P.cellsOf t = 1)
    (h : DataW.trod enc P w base spare held n t (List.take (P.cellsOf t) (List.drop j cs)) = xs[j]?) (hj : j < xs.length) (hc : j < cs.length) : ∃ m, cs[j]? = some (.bool m) := by
  rw [List.getElem?_eq_getElem hj] at h
  obtain ⟨m, hm, _⟩ := DataW.trod_bool hu h
  refine ⟨m, ?_⟩
  rw [h1] at hm
  have : List.take 1 (List.drop j cs) = [cs[j]] := by rw [List.drop_eq_getElem_cons hc]; rfl
  rw [this] at hm
  injection hm with hm _
  rw [List.getElem?_eq_getElem hc, hm]
theorem open_car {r : Reach} {b0 : Nat} {v : Value} {d : DataW H} {p : List MemPlace} (hv : Value.okWide Try.prog w r b0 26 v) (h : DataW.Trod enc Try.prog w base spare held 26 v d p) :
    ∃ x : Cr, v = .agg x.cells := by
  obtain ⟨cs, rfl, hsz0⟩ := okWide_struct Try.underlying26 hv
  have hsz : cs.size = 5 := hsz0.trans cellscar
  obtain ⟨fuel, hf⟩ := h
  obtain ⟨xs, n, _, _, _, hlen, hg⟩ := DataW.trod_struct Try.underlying26 hf
  have hl : xs.length = 5 := hlen
  have hcl : cs.toList.length = 5 := by simpa using hsz
  have hcs : (Value.agg cs).cells.toList = cs.toList := by simp [Value.cells]
  rw [hcs] at hg
  obtain ⟨a0, h0⟩ := cell_of_trod (j := 0) (cs := cs.toList) (xs := xs) Try.underlying3 cells3 (hg 0 _ rfl) (by omega) (by omega)
  obtain ⟨a1, h1⟩ := cell_of_trod (j := 1) (cs := cs.toList) (xs := xs) Try.underlying3 cells3 (hg 1 _ rfl) (by omega) (by omega)
  obtain ⟨a2, h2⟩ := cell_of_trod (j := 2) (cs := cs.toList) (xs := xs) Try.underlying3 cells3 (hg 2 _ rfl) (by omega) (by omega)
  obtain ⟨a3, h3⟩ := cell_of_trod (j := 3) (cs := cs.toList) (xs := xs) Try.underlying3 cells3 (hg 3 _ rfl) (by omega) (by omega)
  obtain ⟨a4, h4⟩ := cellb_of_trod (j := 4) (cs := cs.toList) (xs := xs) Try.underlying4 cellsbool (hg 4 _ rfl) (by omega) (by omega)
  refine ⟨⟨a0, a1, a2, a3, a4⟩, ?_⟩
  congr 1
  apply Array.ext
  · rw [hsz]; rfl
  · intro i hi1 hi2
    rw [hsz] at hi1
    have hgi : cs.toList[i]? = some cs[i] := by simp
    have : i = 0 ∨ i = 1 ∨ i = 2 ∨ i = 3 ∨ i = 4 := by omega
    rcases this with rfl | rfl | rfl | rfl | rfl
    · rw [hgi] at h0
      injection h0
    · rw [hgi] at h1
      injection h1
    · rw [hgi] at h2
      injection h2
    · rw [hgi] at h3
      injection h3
    · rw [hgi] at h4
      injection h4
end
end Go.Proofs.Ytejepddoindnlaa
