/- Arguments opened: a configuration handed in is seventeen numbers and a secret. No condition. -/
import Derived.Test.YtjfpmolnipiphaaSite0
import Derived.ProofKit
import Derived.Deep.Fields
namespace Go.Proofs.Ytjfpmolnipiphaa
open Go.ChangeShapes Go.WideShapes Go.RowKit Go.Deep
section
variable {H : Type} {enc : TypeId × Value → H} {w : World} {base : Nat} {spare : Nat → Bool} {held : Bool}

set_option maxRecDepth 100000 in
theorem cell_of_trod {P : Program} {k : IntKind} {t : TypeId} {n j : Nat} {cs : List Value} {xs : List (DataW H × List MemPlace)} (hu : P.underlying t = some (.int k)) (h1 : P.cellsOf t = 1)
    (h : DataW.trod enc P w base spare held n t (List.take (P.cellsOf t) (List.drop j cs)) = xs[j]?) (hj : j < xs.length) (hc : j < cs.length) : ∃ m, cs[j]? = some (.int k m) := by
  rw [List.getElem?_eq_getElem hj] at h
  obtain ⟨m, hm, _, _⟩ := DataW.trod_int hu h
  refine ⟨m, ?_⟩
  rw [h1] at hm
  have : List.take 1 (List.drop j cs) = [cs[j]] := by rw [List.drop_eq_getElem_cons hc]; rfl
  rw [this] at hm
  injection hm with hm _
  rw [List.getElem?_eq_getElem hc, hm]

def numOf : Option Value → Int
  | some (.int _ m) => m
  | _ => 0

theorem cellscfg : Try.prog.cellsOf 24 = 18 := by kernel_rfl
theorem cells3 : Try.prog.cellsOf 3 = 1 := by kernel_rfl
theorem cells22 : Try.prog.cellsOf 22 = 1 := by kernel_rfl

set_option maxRecDepth 100000 in
theorem open_cfg {r : Reach} {b0 : Nat} {v : Value} {d : DataW H} {p : List MemPlace} (hv : Value.okWide Try.prog w r b0 24 v) (h : DataW.Trod enc Try.prog w base spare held 24 v d p) :
    ∃ (c : Nat → Int) (s : Int), v = .agg (cfgCells c s) := by
  obtain ⟨cs, rfl, hsz0⟩ := okWide_struct Try.underlying24 hv
  have hsz : cs.size = 18 := hsz0.trans cellscfg
  obtain ⟨fuel, hf⟩ := h
  obtain ⟨xs, n, _, _, _, hlen, hg⟩ := DataW.trod_struct Try.underlying24 hf
  have hl : xs.length = 18 := hlen
  have hcl : cs.toList.length = 18 := by simpa using hsz
  have hcs : (Value.agg cs).cells.toList = cs.toList := by simp [Value.cells]
  rw [hcs] at hg
  have key : ∀ k, k < 17 → ∃ m, cs.toList[k]? = some (.int .i64 m) := by
    intro k hk
    have : k = 0 ∨ k = 1 ∨ k = 2 ∨ k = 3 ∨ k = 4 ∨ k = 5 ∨ k = 6 ∨ k = 7 ∨ k = 8 ∨ k = 9 ∨ k = 10 ∨ k = 11 ∨ k = 12 ∨ k = 13 ∨ k = 14 ∨ k = 15 ∨ k = 16 := by omega
    rcases this with rfl | rfl | rfl | rfl | rfl | rfl | rfl | rfl | rfl | rfl | rfl | rfl | rfl | rfl | rfl | rfl | rfl
    · exact cell_of_trod (cs := cs.toList) (xs := xs) Try.underlying3 cells3 (hg 0 { name := "Floors", type := 3, offset := 0, embedded := false, tag := "", pkgPath := "", byteOffset := 0 } rfl) (by omega) (by omega)
    · exact cell_of_trod (cs := cs.toList) (xs := xs) Try.underlying3 cells3 (hg 1 { name := "Cars", type := 3, offset := 1, embedded := false, tag := "", pkgPath := "", byteOffset := 8 } rfl) (by omega) (by omega)
    · exact cell_of_trod (cs := cs.toList) (xs := xs) Try.underlying3 cells3 (hg 2 { name := "Seats", type := 3, offset := 2, embedded := false, tag := "", pkgPath := "", byteOffset := 16 } rfl) (by omega) (by omega)
    · exact cell_of_trod (cs := cs.toList) (xs := xs) Try.underlying3 cells3 (hg 3 { name := "Calls", type := 3, offset := 3, embedded := false, tag := "", pkgPath := "", byteOffset := 24 } rfl) (by omega) (by omega)
    · exact cell_of_trod (cs := cs.toList) (xs := xs) Try.underlying3 cells3 (hg 4 { name := "Lines", type := 3, offset := 4, embedded := false, tag := "", pkgPath := "", byteOffset := 32 } rfl) (by omega) (by omega)
    · exact cell_of_trod (cs := cs.toList) (xs := xs) Try.underlying3 cells3 (hg 5 { name := "Keys", type := 3, offset := 5, embedded := false, tag := "", pkgPath := "", byteOffset := 40 } rfl) (by omega) (by omega)
    · exact cell_of_trod (cs := cs.toList) (xs := xs) Try.underlying3 cells3 (hg 6 { name := "Window", type := 3, offset := 6, embedded := false, tag := "", pkgPath := "", byteOffset := 48 } rfl) (by omega) (by omega)
    · exact cell_of_trod (cs := cs.toList) (xs := xs) Try.underlying3 cells3 (hg 7 { name := "Burst", type := 3, offset := 7, embedded := false, tag := "", pkgPath := "", byteOffset := 56 } rfl) (by omega) (by omega)
    · exact cell_of_trod (cs := cs.toList) (xs := xs) Try.underlying3 cells3 (hg 8 { name := "Rate", type := 3, offset := 8, embedded := false, tag := "", pkgPath := "", byteOffset := 64 } rfl) (by omega) (by omega)
    · exact cell_of_trod (cs := cs.toList) (xs := xs) Try.underlying3 cells3 (hg 9 { name := "Idle", type := 3, offset := 9, embedded := false, tag := "", pkgPath := "", byteOffset := 72 } rfl) (by omega) (by omega)
    · exact cell_of_trod (cs := cs.toList) (xs := xs) Try.underlying3 cells3 (hg 10 { name := "In", type := 3, offset := 10, embedded := false, tag := "", pkgPath := "", byteOffset := 80 } rfl) (by omega) (by omega)
    · exact cell_of_trod (cs := cs.toList) (xs := xs) Try.underlying3 cells3 (hg 11 { name := "Out", type := 3, offset := 11, embedded := false, tag := "", pkgPath := "", byteOffset := 88 } rfl) (by omega) (by omega)
    · exact cell_of_trod (cs := cs.toList) (xs := xs) Try.underlying3 cells3 (hg 12 { name := "Feed", type := 3, offset := 12, embedded := false, tag := "", pkgPath := "", byteOffset := 96 } rfl) (by omega) (by omega)
    · exact cell_of_trod (cs := cs.toList) (xs := xs) Try.underlying3 cells3 (hg 13 { name := "Retries", type := 3, offset := 13, embedded := false, tag := "", pkgPath := "", byteOffset := 104 } rfl) (by omega) (by omega)
    · exact cell_of_trod (cs := cs.toList) (xs := xs) Try.underlying3 cells3 (hg 14 { name := "Life", type := 3, offset := 14, embedded := false, tag := "", pkgPath := "", byteOffset := 112 } rfl) (by omega) (by omega)
    · exact cell_of_trod (cs := cs.toList) (xs := xs) Try.underlying3 cells3 (hg 15 { name := "Door", type := 3, offset := 15, embedded := false, tag := "", pkgPath := "", byteOffset := 120 } rfl) (by omega) (by omega)
    · exact cell_of_trod (cs := cs.toList) (xs := xs) Try.underlying3 cells3 (hg 16 { name := "Holds", type := 3, offset := 16, embedded := false, tag := "", pkgPath := "", byteOffset := 128 } rfl) (by omega) (by omega)
  obtain ⟨s, hs⟩ : ∃ m, cs.toList[17]? = some (.int .u32 m) := cell_of_trod (j := 17) (cs := cs.toList) (xs := xs) Try.underlying22 cells22 (hg 17 { name := "Secret", type := 22, offset := 17, embedded := false, tag := "", pkgPath := "", byteOffset := 136 } rfl) (by omega) (by omega)
  refine ⟨fun k => numOf cs.toList[k]?, s, ?_⟩
  congr 1
  apply Array.ext
  · rw [hsz]; rfl
  · intro i hi1 hi2
    rw [hsz] at hi1
    have hgi : cs.toList[i]? = some cs[i] := by simp
    by_cases h17 : i = 17
    · subst h17
      rw [hgi] at hs
      injection hs
    · obtain ⟨m, hm⟩ := key i (by omega)
      have e : cs[i] = .int .i64 (numOf cs.toList[i]?) := by
        rw [hm]
        rw [hgi] at hm
        injection hm
      rw [e]
      have : i = 0 ∨ i = 1 ∨ i = 2 ∨ i = 3 ∨ i = 4 ∨ i = 5 ∨ i = 6 ∨ i = 7 ∨ i = 8 ∨ i = 9 ∨ i = 10 ∨ i = 11 ∨ i = 12 ∨ i = 13 ∨ i = 14 ∨ i = 15 ∨ i = 16 := by omega
      rcases this with rfl | rfl | rfl | rfl | rfl | rfl | rfl | rfl | rfl | rfl | rfl | rfl | rfl | rfl | rfl | rfl | rfl <;> rfl
end
end Go.Proofs.Ytjfpmolnipiphaa
