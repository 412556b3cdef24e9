/- The statement FeedParts, walked: for every configuration, filter and row of turns the Go law returns true, and nothing that was in memory is changed. -/
import Derived.Test.YtjfpmolnipiphaaFeedPartsA
import Derived.Test.YtjfpmolnipiphaaFeedPartsB
import Derived.Deep.LoopGhost
import Derived.Deep.QuietTactic
namespace Go.Proofs.Ytjfpmolnipiphaa
open Go.RowKit
set_option linter.unusedVariables false
set_option linter.unusedSimpArgs false

theorem parts_law (c : Nat → Int) (s kd n : Int) (zs : List Int) (A : Option Addr) (cap : Nat) (w : World) (hn : zs.length ≤ 9223372036854775807) (hA : ∀ k, k < zs.length → ∃ b o, A = some ⟨b, o, none⟩ ∧ b < w.heap.size ∧ w.cell? ⟨b, o + k, none⟩ = some (.int .i64 (zs.getD k 0))) :
    Calls Try.prog 3 #[.agg (cfgCells c s), .agg #[.int .i64 kd, .int .i64 n], .slice A zs.length cap] w fun e w' => e = .returned (.bool true) ∧ Below w.heap.size w w' := by
  cases hg : good c
  · exact parts_bad c s kd n _ w hg
  · cases hi : isV kd n
    · exact parts_off c s kd n _ w hg hi
    · by_cases hl : zs.length ≤ 100
      · exact parts_onA c s kd n zs A cap w hn hA hg hi hl
      · exact parts_onB c s kd n zs A cap w hn hA hg hi (by omega)
end Go.Proofs.Ytjfpmolnipiphaa
