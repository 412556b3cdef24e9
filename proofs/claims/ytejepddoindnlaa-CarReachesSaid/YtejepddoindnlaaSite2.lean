/- Layer 7: site.find tells where in a configuration the number of a name lies, or nil; nothing that was in memory is changed. For every configuration and name. -/
import Derived.Test.YtejepddoindnlaaSite0
namespace Go.Proofs.Ytejepddoindnlaa
open Go.RowKit

/-- The names, as bytes. -/
def nameBs : List (List UInt8) := [[102, 108, 111, 111, 114, 115], [99, 97, 114, 115], [115, 101, 97, 116, 115], [99, 97, 108, 108, 115], [108, 105, 110, 101, 115], [107, 101, 121, 115], [119, 105, 110, 100, 111, 119], [98, 117, 114, 115, 116], [114, 97, 116, 101], [105, 100, 108, 101], [105, 110], [111, 117, 116], [102, 101, 101, 100], [114, 101, 116, 114, 105, 101, 115], [108, 105, 102, 101], [100, 111, 111, 114], [104, 111, 108, 100, 115]]
def nameB (k : Nat) : List UInt8 := nameBs.getD k []
/-- The place of the number of a name; 17: there is none. -/
def findIx (s : ByteArray) : Nat := (nameBs.findIdx fun n => n == s.toList)
/-- What site.find tells. -/
def findV (g : Nat) (s : ByteArray) : Value := if findIx s < 17 then .pointer (some ⟨g, findIx s, none⟩) else .pointer none

theorem find_hit {s : ByteArray} (k : Nat) (hk : k < 17) (hO : ∀ j, j < k → (nameB j == s.toList) = false) (h : (nameB k == s.toList) = true) : findIx s = k := by
  unfold findIx
  have hl : k < nameBs.length := hk
  rw [List.findIdx_eq hl]
  have e : ∀ j (hj : j < nameBs.length), nameBs[j] = nameB j := fun j hj => by unfold nameB; rw [List.getD_eq_getElem?_getD, List.getElem?_eq_getElem hj]; rfl
  refine ⟨by rw [e]; exact h, fun j hj => ?_⟩
  rw [e]
  exact hO j hj

theorem find_miss {s : ByteArray} (hO : ∀ j, j < 17 → (nameB j == s.toList) = false) : findIx s = 17 := by
  unfold findIx
  have : nameBs.findIdx (fun n => n == s.toList) = nameBs.length := by
    rw [List.findIdx_eq_length]
    intro x hx
    obtain ⟨j, hj, rfl⟩ := List.getElem_of_mem hx
    have e : nameBs[j] = nameB j := by unfold nameB; rw [List.getD_eq_getElem?_getD, List.getElem?_eq_getElem hj]; rfl
    rw [e]
    exact hO j hj
  rw [this]
  rfl

theorem find_ret {g : Nat} {s : ByteArray} (k : Nat) (hk : k < 17) (h : findIx s = k) : Ending.returned (.pointer (some ⟨g, k, none⟩)) = .returned (findV g s) := by
  unfold findV
  rw [h, if_pos hk]
theorem find_nil {g : Nat} {s : ByteArray} (h : findIx s = 17) : Ending.returned (.pointer none) = .returned (findV g s) := by
  unfold findV
  rw [h, if_neg (by omega)]

def Rel2 (s : ByteArray) (w : World) (k : Nat) (wr : World) : Prop :=
  (∀ j, j < k → (nameB j == s.toList) = false) ∧ Blk wr w.heap.size 57 numCells ∧ Below w.heap.size w wr

theorem rel2_step {s : ByteArray} {w wr : World} (k : Nat) (hO : ∀ j, j < k → (nameB j == s.toList) = false) (hk : (nameB k == s.toList) = false) (hn : Blk wr w.heap.size 57 numCells)
    (hB : Below w.heap.size w wr) (o : Obj) : Rel2 s w (k + 1) (wr.alloc o) := by
  refine ⟨fun j hj => ?_, hn.alloc o, hB.alloc hB.size o⟩
  by_cases e : j = k
  · subst e; exact hk
  · exact hO j (by omega)

end Go.Proofs.Ytejepddoindnlaa
