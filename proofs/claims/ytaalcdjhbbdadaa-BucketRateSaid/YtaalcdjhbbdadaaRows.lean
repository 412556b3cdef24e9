/-
  No cell of these rows narrows 'for every input' (looked for: loops, veiled, ifaces, maps, wideKeys, modest, calm, conditions, laid).
  DERIVED. THE GIVEN ROWS OF THIS SEAT. 3 by the template 'for every input the law returns true; each argument reads behind the call as it read before'; 0 by the template 'total and deterministic' (their statements: YtaalcdjhbbdadaaTotals.lean).
  GIVEN WITH THE SEED: the statements are not yours to turn. If you find one false, say at which input.
  Laid BY PROGRAM, IN A SANDBOX (cutbox-rows.mjs): the forced cells as the released guide's own fill.sh prints them over the translation 6891d8f0ce67d254… (all of the seat's roots in one cut). By AI agents, Wed Nov 11 2026. No macro, syntax, notation, axiom, sorry.
-/
import Derived.Test.YtaalcdjhbbdadaaChecked
import GoSem.Claim
import GoSem.ClaimJoined
import GoSem.ClaimMapViews
import Derived.JoinedTies
import Derived.KernelRfl
namespace Go.Proofs.Ytaalcdjhbbdadaa
/- THE CELL 'sum', in the pinned program and in every row, IS THE sha256 OF THE DUMP (.gsa) THAT YtaalcdjhbbdadaaProg.lean LOADS. Nothing in Lean hashes anything: it is a label: what it is worth is what the hold of that sum in a sandbox is worth. -/
noncomputable def Try.pinned : Pinned := { name := "ytaalcdjhbbdadaa", sum := "6891d8f0ce67d254779191fa6f925a3c16b87da0a217051eab4165f1cb21d71c", checked := Try.checked }
namespace Rows
def none {H : Type} : Left H := { results := [], args := [] }

/-- 'hoistwaylaw13.BucketExact': WHATEVER THE INPUT: true; the input reads as it did. -/
def bucketExactSpec : ChangeSpec := { name := "bucketExact", fn := fun _ => fun
  | [d1, d2, d3] => { results := [.lit (.bool true)], args := [d1, d2, d3] }
  | _ => none }
def bucketExactRow : OpenClaim := { program := "ytaalcdjhbbdadaa", sum := "6891d8f0ce67d254779191fa6f925a3c16b87da0a217051eab4165f1cb21d71c", func := "hoistway/hoistwaylaw13.BucketExact", spec := "bucketExact", unfollowed := true, recurses := true, apart := false }
def BucketExactSaid : Prop := bucketExactRow.holds Try.pinned (OpenSpec.ofChange bucketExactSpec)

/-- ITS FALSE NEIGHBOUR: 'it returns false'. Refute it at one input. -/
def bucketExactWrong : ChangeSpec := { name := "bucketExact", fn := fun _ => fun
  | [d1, d2, d3] => { results := [.lit (.bool false)], args := [d1, d2, d3] }
  | _ => none }
def BucketExactWrongFalsely : Prop := bucketExactRow.holds Try.pinned (OpenSpec.ofChange bucketExactWrong)

/-- 'hoistwaylaw13.BucketRate': WHATEVER THE INPUT: true; the input reads as it did. -/
def bucketRateSpec : ChangeSpec := { name := "bucketRate", fn := fun _ => fun
  | [d1, d2] => { results := [.lit (.bool true)], args := [d1, d2] }
  | _ => none }
def bucketRateRow : OpenClaim := { program := "ytaalcdjhbbdadaa", sum := "6891d8f0ce67d254779191fa6f925a3c16b87da0a217051eab4165f1cb21d71c", func := "hoistway/hoistwaylaw13.BucketRate", spec := "bucketRate", unfollowed := true, recurses := true, apart := false }
def BucketRateSaid : Prop := bucketRateRow.holds Try.pinned (OpenSpec.ofChange bucketRateSpec)

/-- ITS FALSE NEIGHBOUR: 'it returns false'. Refute it at one input. -/
def bucketRateWrong : ChangeSpec := { name := "bucketRate", fn := fun _ => fun
  | [d1, d2] => { results := [.lit (.bool false)], args := [d1, d2] }
  | _ => none }
def BucketRateWrongFalsely : Prop := bucketRateRow.holds Try.pinned (OpenSpec.ofChange bucketRateWrong)

/-- 'hoistwaylaw13.BucketGrows': WHATEVER THE INPUT: true; the input reads as it did. -/
def bucketGrowsSpec : ChangeSpec := { name := "bucketGrows", fn := fun _ => fun
  | [d1, d2, d3, d4] => { results := [.lit (.bool true)], args := [d1, d2, d3, d4] }
  | _ => none }
def bucketGrowsRow : OpenClaim := { program := "ytaalcdjhbbdadaa", sum := "6891d8f0ce67d254779191fa6f925a3c16b87da0a217051eab4165f1cb21d71c", func := "hoistway/hoistwaylaw13.BucketGrows", spec := "bucketGrows", unfollowed := true, recurses := true, apart := false }
def BucketGrowsSaid : Prop := bucketGrowsRow.holds Try.pinned (OpenSpec.ofChange bucketGrowsSpec)

/-- ITS FALSE NEIGHBOUR: 'it returns false'. Refute it at one input. -/
def bucketGrowsWrong : ChangeSpec := { name := "bucketGrows", fn := fun _ => fun
  | [d1, d2, d3, d4] => { results := [.lit (.bool false)], args := [d1, d2, d3, d4] }
  | _ => none }
def BucketGrowsWrongFalsely : Prop := bucketGrowsRow.holds Try.pinned (OpenSpec.ofChange bucketGrowsWrong)

/- THE SECOND FORM. 'bulk': how many values and letters a reading holds, each counted each time it is reached (what is shared counts as often as it is met; a slice's spare places count too). A statement '..UptoSaid' is the law's where the arguments, and the package variables that the reading takes, are together of bulk at most 1048576: NARROWER than '..Said'. Prove '..Said' where nothing that the law and all that it calls make is longer than what came in: it says more and counts as full. Else prove '..UptoSaid'. A law counts once. -/
mutual
def uptoBulk {H : Type} : DataW H → Nat
  | .lit (.string bytes) => bytes.length + 1
  | .lit _ => 1
  | .nil => 1
  | .ptr d => uptoBulk d + 1
  | .slice elems spare => uptoBulkAll elems + uptoBulkAll spare + 1
  | .agg parts => uptoBulkAll parts + 1
  | .iface _ d => uptoBulk d + 1
  | .map entries => uptoBulkEntries entries + 1
  | .held _ => 1
def uptoBulkAll {H : Type} : List (DataW H) → Nat
  | [] => 0
  | d :: r => uptoBulk d + uptoBulkAll r
def uptoBulkEntries {H : Type} : List (Lit × DataW H) → Nat
  | [] => 0
  | x :: r => uptoBulkEntry x + uptoBulkEntries r
def uptoBulkEntry {H : Type} : Lit × DataW H → Nat
  | (.string bytes, d) => bytes.length + uptoBulk d + 1
  | (_, d) => uptoBulk d + 1
 end
def uptoSmall : (H : Type) → List (DataW H) → Bool := fun _ ds => decide (uptoBulkAll ds ≤ 1048576)
def OpenSpec.upto (s : _root_.Go.ChangeSpec) : _root_.Go.OpenSpec := { _root_.Go.OpenSpec.ofChange s with cond := some uptoSmall }

/-- 'hoistwaylaw13.BucketExact', WHERE WHAT IT READS IS OF BULK AT MOST 1048576: true; the input reads as it did. -/
def bucketExactUptoRow : OpenClaim := { program := "ytaalcdjhbbdadaa", sum := "6891d8f0ce67d254779191fa6f925a3c16b87da0a217051eab4165f1cb21d71c", func := "hoistway/hoistwaylaw13.BucketExact", spec := "bucketExact", unfollowed := true, recurses := true, apart := false, narrowed := true }
def BucketExactUptoSaid : Prop := bucketExactUptoRow.holds Try.pinned (OpenSpec.upto bucketExactSpec)

/-- 'hoistwaylaw13.BucketRate', WHERE WHAT IT READS IS OF BULK AT MOST 1048576: true; the input reads as it did. -/
def bucketRateUptoRow : OpenClaim := { program := "ytaalcdjhbbdadaa", sum := "6891d8f0ce67d254779191fa6f925a3c16b87da0a217051eab4165f1cb21d71c", func := "hoistway/hoistwaylaw13.BucketRate", spec := "bucketRate", unfollowed := true, recurses := true, apart := false, narrowed := true }
def BucketRateUptoSaid : Prop := bucketRateUptoRow.holds Try.pinned (OpenSpec.upto bucketRateSpec)

/-- 'hoistwaylaw13.BucketGrows', WHERE WHAT IT READS IS OF BULK AT MOST 1048576: true; the input reads as it did. -/
def bucketGrowsUptoRow : OpenClaim := { program := "ytaalcdjhbbdadaa", sum := "6891d8f0ce67d254779191fa6f925a3c16b87da0a217051eab4165f1cb21d71c", func := "hoistway/hoistwaylaw13.BucketGrows", spec := "bucketGrows", unfollowed := true, recurses := true, apart := false, narrowed := true }
def BucketGrowsUptoSaid : Prop := bucketGrowsUptoRow.holds Try.pinned (OpenSpec.upto bucketGrowsSpec)

end Rows
end Go.Proofs.Ytaalcdjhbbdadaa
