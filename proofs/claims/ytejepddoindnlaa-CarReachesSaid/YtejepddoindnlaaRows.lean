/-
  No cell of these rows narrows 'for every input' (looked for: loops, veiled, ifaces, maps, wideKeys, modest, calm, conditions, laid).
  DERIVED. THE GIVEN ROWS OF THIS SEAT. 3 by the template 'for every input the law returns true; each argument reads behind the call as it read before'; 0 by the template 'total and deterministic' (their statements: YtejepddoindnlaaTotals.lean).
  GIVEN WITH THE SEED: the statements are not yours to turn. If you find one false, say at which input.
  Laid BY PROGRAM, IN A SANDBOX (cutbox-rows.mjs): the forced cells as the released guide's own fill.sh prints them over the translation 571754ebc6407eba… (all of the seat's roots in one cut). By AI agents, Wed Nov 11 2026. No macro, syntax, notation, axiom, sorry.
-/
import Derived.Test.YtejepddoindnlaaChecked
import GoSem.Claim
import GoSem.ClaimJoined
import GoSem.ClaimMapViews
import Derived.JoinedTies
import Derived.KernelRfl
namespace Go.Proofs.Ytejepddoindnlaa
/- THE CELL 'sum', in the pinned program and in every row, IS THE sha256 OF THE DUMP (.gsa) THAT YtejepddoindnlaaProg.lean LOADS. Nothing in Lean hashes anything: it is a label: what it is worth is what the hold of that sum in a sandbox is worth. -/
noncomputable def Try.pinned : Pinned := { name := "ytejepddoindnlaa", sum := "571754ebc6407eba0c00318fc6291606dceb2b74fee1c25bc58fcdb6138e3a51", checked := Try.checked }
namespace Rows
def none {H : Type} : Left H := { results := [], args := [] }

/-- 'hoistwaylaw16.CarExact': WHATEVER THE INPUT: true; the input reads as it did. -/
def carExactSpec : ChangeSpec := { name := "carExact", fn := fun _ => fun
  | [d1, d2, d3] => { results := [.lit (.bool true)], args := [d1, d2, d3] }
  | _ => none }
def carExactRow : OpenClaim := { program := "ytejepddoindnlaa", sum := "571754ebc6407eba0c00318fc6291606dceb2b74fee1c25bc58fcdb6138e3a51", func := "hoistway/hoistwaylaw16.CarExact", spec := "carExact", unfollowed := true, recurses := true, apart := false }
def CarExactSaid : Prop := carExactRow.holds Try.pinned (OpenSpec.ofChange carExactSpec)

/-- ITS FALSE NEIGHBOUR: 'it returns false'. Refute it at one input. -/
def carExactWrong : ChangeSpec := { name := "carExact", fn := fun _ => fun
  | [d1, d2, d3] => { results := [.lit (.bool false)], args := [d1, d2, d3] }
  | _ => none }
def CarExactWrongFalsely : Prop := carExactRow.holds Try.pinned (OpenSpec.ofChange carExactWrong)

/-- 'hoistwaylaw16.CarStays': WHATEVER THE INPUT: true; the input reads as it did. -/
def carStaysSpec : ChangeSpec := { name := "carStays", fn := fun _ => fun
  | [d1, d2] => { results := [.lit (.bool true)], args := [d1, d2] }
  | _ => none }
def carStaysRow : OpenClaim := { program := "ytejepddoindnlaa", sum := "571754ebc6407eba0c00318fc6291606dceb2b74fee1c25bc58fcdb6138e3a51", func := "hoistway/hoistwaylaw16.CarStays", spec := "carStays", unfollowed := true, recurses := true, apart := false }
def CarStaysSaid : Prop := carStaysRow.holds Try.pinned (OpenSpec.ofChange carStaysSpec)

/-- ITS FALSE NEIGHBOUR: 'it returns false'. Refute it at one input. -/
def carStaysWrong : ChangeSpec := { name := "carStays", fn := fun _ => fun
  | [d1, d2] => { results := [.lit (.bool false)], args := [d1, d2] }
  | _ => none }
def CarStaysWrongFalsely : Prop := carStaysRow.holds Try.pinned (OpenSpec.ofChange carStaysWrong)

/-- 'hoistwaylaw16.CarReaches': WHATEVER THE INPUT: true; the input reads as it did. -/
def carReachesSpec : ChangeSpec := { name := "carReaches", fn := fun _ => fun
  | [d1, d2, d3, d4] => { results := [.lit (.bool true)], args := [d1, d2, d3, d4] }
  | _ => none }
def carReachesRow : OpenClaim := { program := "ytejepddoindnlaa", sum := "571754ebc6407eba0c00318fc6291606dceb2b74fee1c25bc58fcdb6138e3a51", func := "hoistway/hoistwaylaw16.CarReaches", spec := "carReaches", unfollowed := true, recurses := true, apart := false }
def CarReachesSaid : Prop := carReachesRow.holds Try.pinned (OpenSpec.ofChange carReachesSpec)

/-- ITS FALSE NEIGHBOUR: 'it returns false'. Refute it at one input. -/
def carReachesWrong : ChangeSpec := { name := "carReaches", fn := fun _ => fun
  | [d1, d2, d3, d4] => { results := [.lit (.bool false)], args := [d1, d2, d3, d4] }
  | _ => none }
def CarReachesWrongFalsely : Prop := carReachesRow.holds Try.pinned (OpenSpec.ofChange carReachesWrong)

/- THE SECOND FORM. 'bulk': how many values and letters a reading holds, each counted each time it is reached (what is shared counts as often as it is met; a slice's spare places count too). A statement '..UptoSaid' is the law's where the arguments, and the package variables that the reading takes, are together of bulk at most 1048576: NARROWER than '..Said'. Prove '..Said' where nothing that the law and all that it calls make is longer than what came in: it says more and counts as full. Else prove '..UptoSaid'. A law counts once. -/
mutual
def uptoBulk {H : Type} : DataW H → Nat
  | .lit (.string bytes) => bytes.length + 1
  | .lit _ => 1
  | .nil => 1
  | .ptr d => uptoBulk d + 1
  | .slice elems spare => uptoBulkAll elems + uptoBulkAll spare + 1
  | .agg parts => uptoBulkAll parts + 1
  | .iface _ d => uptoBulk d + 1
  | .map entries => uptoBulkEntries entries + 1
  | .held _ => 1
def uptoBulkAll {H : Type} : List (DataW H) → Nat
  | [] => 0
  | d :: r => uptoBulk d + uptoBulkAll r
def uptoBulkEntries {H : Type} : List (Lit × DataW H) → Nat
  | [] => 0
  | x :: r => uptoBulkEntry x + uptoBulkEntries r
def uptoBulkEntry {H : Type} : Lit × DataW H → Nat
  | (.string bytes, d) => bytes.length + uptoBulk d + 1
  | (_, d) => uptoBulk d + 1
 end
def uptoSmall : (H : Type) → List (DataW H) → Bool := fun _ ds => decide (uptoBulkAll ds ≤ 1048576)
def OpenSpec.upto (s : _root_.Go.ChangeSpec) : _root_.Go.OpenSpec := { _root_.Go.OpenSpec.ofChange s with cond := some uptoSmall }

/-- 'hoistwaylaw16.CarExact', WHERE WHAT IT READS IS OF BULK AT MOST 1048576: true; the input reads as it did. -/
def carExactUptoRow : OpenClaim := { program := "ytejepddoindnlaa", sum := "571754ebc6407eba0c00318fc6291606dceb2b74fee1c25bc58fcdb6138e3a51", func := "hoistway/hoistwaylaw16.CarExact", spec := "carExact", unfollowed := true, recurses := true, apart := false, narrowed := true }
def CarExactUptoSaid : Prop := carExactUptoRow.holds Try.pinned (OpenSpec.upto carExactSpec)

/-- 'hoistwaylaw16.CarStays', WHERE WHAT IT READS IS OF BULK AT MOST 1048576: true; the input reads as it did. -/
def carStaysUptoRow : OpenClaim := { program := "ytejepddoindnlaa", sum := "571754ebc6407eba0c00318fc6291606dceb2b74fee1c25bc58fcdb6138e3a51", func := "hoistway/hoistwaylaw16.CarStays", spec := "carStays", unfollowed := true, recurses := true, apart := false, narrowed := true }
def CarStaysUptoSaid : Prop := carStaysUptoRow.holds Try.pinned (OpenSpec.upto carStaysSpec)

/-- 'hoistwaylaw16.CarReaches', WHERE WHAT IT READS IS OF BULK AT MOST 1048576: true; the input reads as it did. -/
def carReachesUptoRow : OpenClaim := { program := "ytejepddoindnlaa", sum := "571754ebc6407eba0c00318fc6291606dceb2b74fee1c25bc58fcdb6138e3a51", func := "hoistway/hoistwaylaw16.CarReaches", spec := "carReaches", unfollowed := true, recurses := true, apart := false, narrowed := true }
def CarReachesUptoSaid : Prop := carReachesUptoRow.holds Try.pinned (OpenSpec.upto carReachesSpec)

end Rows
end Go.Proofs.Ytejepddoindnlaa
