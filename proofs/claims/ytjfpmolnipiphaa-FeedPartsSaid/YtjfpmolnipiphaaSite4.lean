/- Layer 7: what Ride, Get and Set tell; nothing that was in memory is changed. For every configuration, name and number. -/
import Derived.Test.YtjfpmolnipiphaaSite3
import Derived.Deep.RegionHeld3
namespace Go.Proofs.Ytjfpmolnipiphaa
open Go.RowKit

theorem ret_ib {k : IntKind} {a b : Int} {p q : Bool} (h : a = b) (h' : p = q) : Ending.returned (.tuple #[.int k a, .bool p]) = .returned (.tuple #[.int k b, .bool q]) := by rw [h, h']
/-! ### Get and Set -/
/-- What Get tells. -/
def getV (c : Nat → Int) (nm : ByteArray) : Int := if findIx nm < 17 then c (findIx nm) else 0
def isName (nm : ByteArray) : Bool := decide (findIx nm < 17)
/-- A configuration with another number. -/
def setV (c : Nat → Int) (nm : ByteArray) (n : Int) : Nat → Int := fun k => if findIx nm < 17 ∧ k = findIx nm then n else c k

theorem cfg_cell {w : World} {g : Nat} {c : Nat → Int} {s : Int} (h : Blk w g 24 (cfgCells c s)) (k : Nat) (hk : k < 17) : w.cell? ⟨g, k, none⟩ = some (.int .i64 (c k)) := by
  rw [h.cell k]
  have : k = 0 ∨ k = 1 ∨ k = 2 ∨ k = 3 ∨ k = 4 ∨ k = 5 ∨ k = 6 ∨ k = 7 ∨ k = 8 ∨ k = 9 ∨ k = 10 ∨ k = 11 ∨ k = 12 ∨ k = 13 ∨ k = 14 ∨ k = 15 ∨ k = 16 := by omega
  rcases this with rfl | rfl | rfl | rfl | rfl | rfl | rfl | rfl | rfl | rfl | rfl | rfl | rfl | rfl | rfl | rfl | rfl <;> rfl

theorem cfg_set (c : Nat → Int) (s : Int) (k : Nat) (hk : k < 17) (n : Int) : (cfgCells c s).setIfInBounds k (.int .i64 n) = cfgCells (fun j => if j = k then n else c j) s := by
  have : k = 0 ∨ k = 1 ∨ k = 2 ∨ k = 3 ∨ k = 4 ∨ k = 5 ∨ k = 6 ∨ k = 7 ∨ k = 8 ∨ k = 9 ∨ k = 10 ∨ k = 11 ∨ k = 12 ∨ k = 13 ∨ k = 14 ∨ k = 15 ∨ k = 16 := by omega
  rcases this with rfl | rfl | rfl | rfl | rfl | rfl | rfl | rfl | rfl | rfl | rfl | rfl | rfl | rfl | rfl | rfl | rfl <;> rfl

def zeroCfg : Array Value := cfgCells (fun _ => 0) 0

set_option maxRecDepth 100000 in
set_option maxHeartbeats 1000000 in
theorem set_yes (c : Nat → Int) (s : Int) (nm : ByteArray) (n : Int) (w : World) (hf : findIx nm < 17) :
    Calls Try.prog 14 #[.agg (cfgCells c s), .string nm, .int .i64 n] w fun e w' => e = .returned (.tuple #[.agg (cfgCells (setV c nm n) s), .bool true]) ∧ Below w.heap.size w w' := by
  have h1 : findV w.heap.size nm = .pointer (some ⟨w.heap.size, findIx nm, none⟩) := by unfold findV; rw [if_pos hf]
  have H1 := Lib.hid h1
  have HC := Lib.hid (show (cfgCells c s).setIfInBounds (findIx nm) (.int .i64 n) = cfgCells (setV c nm n) s by rw [cfg_set c s _ hf]; unfold setV; simp [hf])
  have HF := Lib.hid hf
  clear h1 hf
  go_enter Try.func14, Try.ntmps14
  go_wp2_with fail
  refine (find_any _ _ _).mono ?_
  rintro e w1 ⟨rfl, hB⟩
  rw [H1.out]
  have hg : Blk w1 w.heap.size 24 (cfgCells c s) := ((Blk.new w 24 (cfgCells c s)).alloc _).below hB (by simp; omega)
  have hr : Blk w1 (w.heap.size + 1) 24 (cfgCells (fun _ => 0) 0) := by
    have h := (Blk.new (w.alloc (.cells (cfgCells c s) 24)) 24 (cfgCells (fun _ => 0) 0)).below hB (by simp)
    simpa using h
  have hBB : Below w.heap.size w w1 := (((Below.refl _ _).alloc (Nat.le_refl _) _).alloc (by simp) _).trans (hB.mono (by simp; omega))
  have hg2 : Blk (w1.setCell ⟨w.heap.size, findIx nm, none⟩ (.int .i64 n)) w.heap.size 24 (cfgCells (setV c nm n) s) := by
    have h := hg.set_ (findIx nm) (.int .i64 n)
    rwa [HC.out] at h
  have hr2 : Blk (w1.setCell ⟨w.heap.size, findIx nm, none⟩ (.int .i64 n)) (w.heap.size + 1) 24 (cfgCells (fun _ => 0) 0) := hr.far (by simp) _
  have q0 := cfg_cell hg (findIx nm) HF.out
  have f0 := hg.frozen (findIx nm)
  have HL := lcfg hg2
  have HS := @scfg (setV c nm n) s _ _ _ hr2 rfl
  have HG := Lib.hid hg
  have HG2 := Lib.hid hg2
  have HR2 := Lib.hid hr2
  have HB := Lib.hid hBB
  clear hg hg2 hr hr2 hBB hB
  go_wp2_with fail
  have hend := Blk.setRow (cfgCells (setV c nm n) s) HR2.out
  refine bodyPost_ret (results_cell_tmp Try.results14 _ _ (w.heap.size + 1) 24 (cfgCells (setV c nm n) s) _ rfl hend Try.underlying24 rfl (by kernel_rfl)) rfl ?_
  refine ⟨rfl, ?_⟩
  exact (HB.out.setCell (Nat.le_refl _) _).trans ((Only.setRow _ HR2.out).below (by simp))

set_option maxRecDepth 100000 in
set_option maxHeartbeats 1000000 in
theorem set_no (c : Nat → Int) (s : Int) (nm : ByteArray) (n : Int) (w : World) (hf : ¬ findIx nm < 17) :
    Calls Try.prog 14 #[.agg (cfgCells c s), .string nm, .int .i64 n] w fun e w' => e = .returned (.tuple #[.agg (cfgCells c s), .bool false]) ∧ Below w.heap.size w w' := by
  have h1 : findV w.heap.size nm = .pointer none := by unfold findV; rw [if_neg hf]
  have H1 := Lib.hid h1
  clear h1 hf
  go_enter Try.func14, Try.ntmps14
  go_wp2_with fail
  refine (find_any _ _ _).mono ?_
  rintro e w1 ⟨rfl, hB⟩
  rw [H1.out]
  have hg : Blk w1 w.heap.size 24 (cfgCells c s) := ((Blk.new w 24 (cfgCells c s)).alloc _).below hB (by simp; omega)
  have hr : Blk w1 (w.heap.size + 1) 24 (cfgCells (fun _ => 0) 0) := by
    have h := (Blk.new (w.alloc (.cells (cfgCells c s) 24)) 24 (cfgCells (fun _ => 0) 0)).below hB (by simp)
    simpa using h
  have hBB : Below w.heap.size w w1 := (((Below.refl _ _).alloc (Nat.le_refl _) _).alloc (by simp) _).trans (hB.mono (by simp; omega))
  have HL := lcfg hg
  have HS := @scfg c s _ _ _ hr rfl
  have HR2 := Lib.hid hr
  have HB := Lib.hid hBB
  clear hg hr hBB hB
  go_wp2_with fail
  have hend := Blk.setRow (cfgCells c s) HR2.out
  refine bodyPost_ret (results_cell_tmp Try.results14 _ _ (w.heap.size + 1) 24 (cfgCells c s) _ rfl hend Try.underlying24 rfl (by kernel_rfl)) rfl ?_
  exact ⟨rfl, HB.out.trans ((Only.setRow _ HR2.out).below (by simp))⟩

theorem set_any (c : Nat → Int) (s : Int) (nm : ByteArray) (n : Int) (w : World) :
    Calls Try.prog 14 #[.agg (cfgCells c s), .string nm, .int .i64 n] w fun e w' => e = .returned (.tuple #[.agg (cfgCells (setV c nm n) s), .bool (isName nm)]) ∧ Below w.heap.size w w' := by
  by_cases hf : findIx nm < 17
  · have hN : isName nm = true := by unfold isName; exact decide_eq_true hf
    rw [hN]
    exact set_yes c s nm n w hf
  · have hN : isName nm = false := by unfold isName; exact decide_eq_false hf
    have hS : setV c nm n = c := by unfold setV; funext k; rw [if_neg (fun h => hf h.1)]
    rw [hN, hS]
    exact set_no c s nm n w hf
end Go.Proofs.Ytjfpmolnipiphaa
