/- Arguments opened: a configuration handed in is seventeen numbers and a secret. No condition. -/
import Derived.Test.YtiiejlphomjehaaSite0
import Derived.ProofKit
import Derived.Deep.Fields
namespace Go.Proofs.Ytiiejlphomjehaa
open Go.ChangeShapes Go.WideShapes Go.RowKit Go.Deep
section
variable {H : Type} {enc : TypeId × Value → H} {w : World} {base : Nat} {spare : Nat → Bool} {held : Bool}

set_option maxRecDepth 100000 in
theorem cell_of_trod {P : Program} {k : IntKind} {t : TypeId} {n j : Nat} {cs : List Value} {xs : List (DataW H × List MemPlace)} (hu : P.underlying t = some (.int k)) (h1 : P.cellsOf t = 1)
    (h : DataW.trod enc P w base spare held n t (List.take (P.cellsOf t) (List.drop j cs)) = xs[j]?) (hj : j < xs.length) (hc : j < cs.length) : ∃ m, cs[j]? = some (.int k m) := by
  rw [List.getElem?_eq_getElem hj] at h
  obtain ⟨m, hm, _, _⟩ := DataW.trod_int hu h
  refine ⟨m, ?_⟩
  rw [h1] at hm
  have : List.take 1 (List.drop j cs) = [cs[j]] := by rw [List.drop_eq_getElem_cons hc]; rfl
  rw [this] at hm
  injection hm with hm _
  rw [List.getElem?_eq_getElem hc, hm]

def numOf : Option Value → Int
  | some (.int _ m) => m
  | _ => 0

theorem cells3 : Try.prog.cellsOf 3 = 1 := by kernel_rfl
theorem cells22 : Try.prog.cellsOf 81 = 1 := by kernel_rfl

end
end Go.Proofs.Ytiiejlphomjehaa
