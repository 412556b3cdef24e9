/- Layer 7: the small building, and the document's answers List, Good and Trip; nothing that was in memory is changed. For every configuration. -/
import Derived.Test.YtejepddoindnlaaSite4
namespace Go.Proofs.Ytejepddoindnlaa
open Go.RowKit

/-! ### the small building -/
def smallC (k : Nat) : Int := ([5, 1, 2, 4, 2, 4, 20, 100, 10, 1000, 2, 4, 4, 2, 0, 1, 1] : List Int).getD k 0

set_option maxRecDepth 100000 in
theorem small_any (w : World) :
    Calls Try.prog 15 #[] w fun e w' => e = .returned (.agg (cfgCells smallC 7)) ∧ Below w.heap.size w w' := by
  have hz : Blk (w.alloc (.cells (cfgCells (fun _ => 0) 0) 24)) w.heap.size 24 (cfgCells (fun _ => 0) 0) := Blk.new _ _ _
  have HS := run_storeBig (cs := #[.int .i64 5, .int .i64 1, .int .i64 2, .int .i64 4, .int .i64 2, .int .i64 4, .int .i64 20, .int .i64 100, .int .i64 10, .int .i64 1000, .int .i64 2, .int .i64 4, .int .i64 4, .int .i64 2, .int .i64 0, .int .i64 1, .int .i64 1, .int .u32 7]) hz (by kernel_rfl) rfl (by simp [Value.oneCell'])
  have HZ := Lib.hid hz
  clear hz
  go_enter Try.func15, Try.ntmps15
  go_wp2_with fail
  have hend := Blk.setRow (cfgCells smallC 7) HZ.out
  refine bodyPost_ret (results_cell_row Try.results15 _ _ w.heap.size 24 (cfgCells smallC 7) (0, 0) _ rfl hend Try.underlying24 rfl (by kernel_rfl)) rfl ?_
  exact ⟨rfl, ((Below.refl _ _).alloc (Nat.le_refl _) _).trans ((Only.setRow _ HZ.out).below (Nat.le_refl _))⟩

/-! ### the document's row of numbers -/
abbrev arrCells (c : Nat → Int) : Array Value := #[.int .i64 (c 0), .int .i64 (c 1), .int .i64 (c 2), .int .i64 (c 3), .int .i64 (c 4), .int .i64 (c 5), .int .i64 (c 6), .int .i64 (c 7), .int .i64 (c 8), .int .i64 (c 9), .int .i64 (c 10), .int .i64 (c 11), .int .i64 (c 12), .int .i64 (c 13), .int .i64 (c 14), .int .i64 (c 15), .int .i64 (c 16)]

theorem arr_cell {w : World} {g : Nat} {c : Nat → Int} (h : Blk w g 51 (arrCells c)) (k : Nat) (hk : k < 17) : w.cell? ⟨g, k, none⟩ = some (.int .i64 (c k)) := by
  rw [h.cell k]
  have : k = 0 ∨ k = 1 ∨ k = 2 ∨ k = 3 ∨ k = 4 ∨ k = 5 ∨ k = 6 ∨ k = 7 ∨ k = 8 ∨ k = 9 ∨ k = 10 ∨ k = 11 ∨ k = 12 ∨ k = 13 ∨ k = 14 ∨ k = 15 ∨ k = 16 := by omega
  rcases this with rfl | rfl | rfl | rfl | rfl | rfl | rfl | rfl | rfl | rfl | rfl | rfl | rfl | rfl | rfl | rfl | rfl <;> rfl

set_option maxRecDepth 100000 in
set_option maxHeartbeats 1000000 in
theorem list_any (c : Nat → Int) (s : Int) (w : World) :
    Calls Try.prog 22 #[.agg (cfgCells c s)] w fun e w' => e = .returned (.agg (arrCells c)) ∧ Below w.heap.size w w' := by
  have hz : Blk ((w.alloc (.cells (cfgCells c s) 24)).alloc (.cells (arrCells (fun _ => 0)) 51)) (w.heap.size + 1) 51 (arrCells (fun _ => 0)) := by
    have h := Blk.new (w.alloc (.cells (cfgCells c s) 24)) 51 (arrCells (fun _ => 0))
    simpa using h
  have HS := run_storeBig (cs := arrCells c) hz (by kernel_rfl) rfl (by simp [Value.oneCell'])
  have HZ := Lib.hid hz
  clear hz
  go_enter Try.func22, Try.ntmps22
  go_wp2_with fail
  have hend := Blk.setRow (arrCells c) HZ.out
  refine bodyPost_ret (results_cell_row Try.results22 _ _ (w.heap.size + 1) 51 (arrCells c) (0, 0) _ rfl hend Try.underlying51 rfl (by kernel_rfl)) rfl ?_
  exact ⟨rfl, (((Below.refl _ _).alloc (Nat.le_refl _) _).alloc (by simp) _).trans ((Only.setRow _ HZ.out).below (by simp))⟩
end Go.Proofs.Ytejepddoindnlaa
