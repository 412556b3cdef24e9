/- Layer 7: the small building, and the document's answers List, Good and Trip; nothing that was in memory is changed. For every configuration. -/
import Derived.Test.YtjfpmolnipiphaaSite4
namespace Go.Proofs.Ytjfpmolnipiphaa
open Go.RowKit

/-! ### the small building -/
def smallC (k : Nat) : Int := ([5, 1, 2, 4, 2, 4, 20, 100, 10, 1000, 2, 4, 4, 2, 0, 1, 1] : List Int).getD k 0

set_option maxRecDepth 100000 in
theorem small_any (w : World) :
    Calls Try.prog 15 #[] w fun e w' => e = .returned (.agg (cfgCells smallC 7)) ∧ Below w.heap.size w w' := by
  have hz : Blk (w.alloc (.cells (cfgCells (fun _ => 0) 0) 24)) w.heap.size 24 (cfgCells (fun _ => 0) 0) := Blk.new _ _ _
  have HS := run_storeBig (cs := #[.int .i64 5, .int .i64 1, .int .i64 2, .int .i64 4, .int .i64 2, .int .i64 4, .int .i64 20, .int .i64 100, .int .i64 10, .int .i64 1000, .int .i64 2, .int .i64 4, .int .i64 4, .int .i64 2, .int .i64 0, .int .i64 1, .int .i64 1, .int .u32 7]) hz (by kernel_rfl) rfl (by simp [Value.oneCell'])
  have HZ := Lib.hid hz
  clear hz
  go_enter Try.func15, Try.ntmps15
  go_wp2_with fail
  have hend := Blk.setRow (cfgCells smallC 7) HZ.out
  refine bodyPost_ret (results_cell_row Try.results15 _ _ w.heap.size 24 (cfgCells smallC 7) (0, 0) _ rfl hend Try.underlying24 rfl (by kernel_rfl)) rfl ?_
  exact ⟨rfl, ((Below.refl _ _).alloc (Nat.le_refl _) _).trans ((Only.setRow _ HZ.out).below (Nat.le_refl _))⟩

/-! ### the document's row of numbers -/
abbrev arrCells (c : Nat → Int) : Array Value := #[.int .i64 (c 0), .int .i64 (c 1), .int .i64 (c 2), .int .i64 (c 3), .int .i64 (c 4), .int .i64 (c 5), .int .i64 (c 6), .int .i64 (c 7), .int .i64 (c 8), .int .i64 (c 9), .int .i64 (c 10), .int .i64 (c 11), .int .i64 (c 12), .int .i64 (c 13), .int .i64 (c 14), .int .i64 (c 15), .int .i64 (c 16)]

end Go.Proofs.Ytjfpmolnipiphaa
