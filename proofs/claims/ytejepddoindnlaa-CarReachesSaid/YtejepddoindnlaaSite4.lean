/- Layer 7: what Ride, Get and Set tell; nothing that was in memory is changed. For every configuration, name and number. -/
import Derived.Test.YtejepddoindnlaaSite3
import Derived.Deep.RegionHeld3
namespace Go.Proofs.Ytejepddoindnlaa
open Go.RowKit

theorem ret_ib {k : IntKind} {a b : Int} {p q : Bool} (h : a = b) (h' : p = q) : Ending.returned (.tuple #[.int k a, .bool p]) = .returned (.tuple #[.int k b, .bool q]) := by rw [h, h']
/-! ### Get and Set -/
/-- What Get tells. -/
def getV (c : Nat → Int) (nm : ByteArray) : Int := if findIx nm < 17 then c (findIx nm) else 0
def isName (nm : ByteArray) : Bool := decide (findIx nm < 17)
/-- A configuration with another number. -/
def setV (c : Nat → Int) (nm : ByteArray) (n : Int) : Nat → Int := fun k => if findIx nm < 17 ∧ k = findIx nm then n else c k

theorem cfg_cell {w : World} {g : Nat} {c : Nat → Int} {s : Int} (h : Blk w g 24 (cfgCells c s)) (k : Nat) (hk : k < 17) : w.cell? ⟨g, k, none⟩ = some (.int .i64 (c k)) := by
  rw [h.cell k]
  have : k = 0 ∨ k = 1 ∨ k = 2 ∨ k = 3 ∨ k = 4 ∨ k = 5 ∨ k = 6 ∨ k = 7 ∨ k = 8 ∨ k = 9 ∨ k = 10 ∨ k = 11 ∨ k = 12 ∨ k = 13 ∨ k = 14 ∨ k = 15 ∨ k = 16 := by omega
  rcases this with rfl | rfl | rfl | rfl | rfl | rfl | rfl | rfl | rfl | rfl | rfl | rfl | rfl | rfl | rfl | rfl | rfl <;> rfl

theorem cfg_set (c : Nat → Int) (s : Int) (k : Nat) (hk : k < 17) (n : Int) : (cfgCells c s).setIfInBounds k (.int .i64 n) = cfgCells (fun j => if j = k then n else c j) s := by
  have : k = 0 ∨ k = 1 ∨ k = 2 ∨ k = 3 ∨ k = 4 ∨ k = 5 ∨ k = 6 ∨ k = 7 ∨ k = 8 ∨ k = 9 ∨ k = 10 ∨ k = 11 ∨ k = 12 ∨ k = 13 ∨ k = 14 ∨ k = 15 ∨ k = 16 := by omega
  rcases this with rfl | rfl | rfl | rfl | rfl | rfl | rfl | rfl | rfl | rfl | rfl | rfl | rfl | rfl | rfl | rfl | rfl <;> rfl

def zeroCfg : Array Value := cfgCells (fun _ => 0) 0

end Go.Proofs.Ytejepddoindnlaa
