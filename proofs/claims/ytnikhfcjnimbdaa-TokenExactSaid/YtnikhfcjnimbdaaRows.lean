/-
  No cell of these rows narrows 'for every input' (looked for: loops, veiled, ifaces, maps, wideKeys, modest, calm, conditions, laid).
  DERIVED. THE GIVEN ROWS OF THIS SEAT. 3 by the template 'for every input the law returns true; each argument reads behind the call as it read before'; 0 by the template 'total and deterministic' (their statements: YtnikhfcjnimbdaaTotals.lean).
  GIVEN WITH THE SEED: the statements are not yours to turn. If you find one false, say at which input.
  Laid BY PROGRAM, IN A SANDBOX (cutbox-rows.mjs): the forced cells as the released guide's own fill.sh prints them over the translation e7d994527b793cdb… (all of the seat's roots in one cut). By AI agents, Wed Nov 11 2026. No macro, syntax, notation, axiom, sorry.
-/
import Derived.Test.YtnikhfcjnimbdaaChecked
import GoSem.Claim
import GoSem.ClaimJoined
import GoSem.ClaimMapViews
import Derived.JoinedTies
import Derived.KernelRfl
namespace Go.Proofs.Ytnikhfcjnimbdaa
/- THE CELL 'sum', in the pinned program and in every row, IS THE sha256 OF THE DUMP (.gsa) THAT YtnikhfcjnimbdaaProg.lean LOADS. Nothing in Lean hashes anything: it is a label: what it is worth is what the hold of that sum in a sandbox is worth. -/
noncomputable def Try.pinned : Pinned := { name := "ytnikhfcjnimbdaa", sum := "e7d994527b793cdbb7e6889360ae3759c0fcb442b73d0662c7ef67fd8cbfa806", checked := Try.checked }
namespace Rows
def none {H : Type} : Left H := { results := [], args := [] }

/-- 'hoistwaylaw12.TokenExact': WHATEVER THE INPUT: true; the input reads as it did. -/
def tokenExactSpec : ChangeSpec := { name := "tokenExact", fn := fun _ => fun
  | [d1, d2, d3, d4, d5] => { results := [.lit (.bool true)], args := [d1, d2, d3, d4, d5] }
  | _ => none }
def tokenExactRow : OpenClaim := { program := "ytnikhfcjnimbdaa", sum := "e7d994527b793cdbb7e6889360ae3759c0fcb442b73d0662c7ef67fd8cbfa806", func := "hoistway/hoistwaylaw12.TokenExact", spec := "tokenExact", apart := false }
def TokenExactSaid : Prop := tokenExactRow.holds Try.pinned (OpenSpec.ofChange tokenExactSpec)

/-- ITS FALSE NEIGHBOUR: 'it returns false'. Refute it at one input. -/
def tokenExactWrong : ChangeSpec := { name := "tokenExact", fn := fun _ => fun
  | [d1, d2, d3, d4, d5] => { results := [.lit (.bool false)], args := [d1, d2, d3, d4, d5] }
  | _ => none }
def TokenExactWrongFalsely : Prop := tokenExactRow.holds Try.pinned (OpenSpec.ofChange tokenExactWrong)

/-- 'hoistwaylaw12.TokenRoles': WHATEVER THE INPUT: true; the input reads as it did. -/
def tokenRolesSpec : ChangeSpec := { name := "tokenRoles", fn := fun _ => fun
  | [d1, d2, d3] => { results := [.lit (.bool true)], args := [d1, d2, d3] }
  | _ => none }
def tokenRolesRow : OpenClaim := { program := "ytnikhfcjnimbdaa", sum := "e7d994527b793cdbb7e6889360ae3759c0fcb442b73d0662c7ef67fd8cbfa806", func := "hoistway/hoistwaylaw12.TokenRoles", spec := "tokenRoles", apart := false }
def TokenRolesSaid : Prop := tokenRolesRow.holds Try.pinned (OpenSpec.ofChange tokenRolesSpec)

/-- ITS FALSE NEIGHBOUR: 'it returns false'. Refute it at one input. -/
def tokenRolesWrong : ChangeSpec := { name := "tokenRoles", fn := fun _ => fun
  | [d1, d2, d3] => { results := [.lit (.bool false)], args := [d1, d2, d3] }
  | _ => none }
def TokenRolesWrongFalsely : Prop := tokenRolesRow.holds Try.pinned (OpenSpec.ofChange tokenRolesWrong)

/-- 'hoistwaylaw12.TokenBits': WHATEVER THE INPUT: true; the input reads as it did. -/
def tokenBitsSpec : ChangeSpec := { name := "tokenBits", fn := fun _ => fun
  | [d1, d2, d3, d4, d5] => { results := [.lit (.bool true)], args := [d1, d2, d3, d4, d5] }
  | _ => none }
def tokenBitsRow : OpenClaim := { program := "ytnikhfcjnimbdaa", sum := "e7d994527b793cdbb7e6889360ae3759c0fcb442b73d0662c7ef67fd8cbfa806", func := "hoistway/hoistwaylaw12.TokenBits", spec := "tokenBits", apart := false }
def TokenBitsSaid : Prop := tokenBitsRow.holds Try.pinned (OpenSpec.ofChange tokenBitsSpec)

/-- ITS FALSE NEIGHBOUR: 'it returns false'. Refute it at one input. -/
def tokenBitsWrong : ChangeSpec := { name := "tokenBits", fn := fun _ => fun
  | [d1, d2, d3, d4, d5] => { results := [.lit (.bool false)], args := [d1, d2, d3, d4, d5] }
  | _ => none }
def TokenBitsWrongFalsely : Prop := tokenBitsRow.holds Try.pinned (OpenSpec.ofChange tokenBitsWrong)

/- THE SECOND FORM. 'bulk': how many values and letters a reading holds, each counted each time it is reached (what is shared counts as often as it is met; a slice's spare places count too). A statement '..UptoSaid' is the law's where the arguments, and the package variables that the reading takes, are together of bulk at most 1048576: NARROWER than '..Said'. Prove '..Said' where nothing that the law and all that it calls make is longer than what came in: it says more and counts as full. Else prove '..UptoSaid'. A law counts once. -/
mutual
def uptoBulk {H : Type} : DataW H → Nat
  | .lit (.string bytes) => bytes.length + 1
  | .lit _ => 1
  | .nil => 1
  | .ptr d => uptoBulk d + 1
  | .slice elems spare => uptoBulkAll elems + uptoBulkAll spare + 1
  | .agg parts => uptoBulkAll parts + 1
  | .iface _ d => uptoBulk d + 1
  | .map entries => uptoBulkEntries entries + 1
  | .held _ => 1
def uptoBulkAll {H : Type} : List (DataW H) → Nat
  | [] => 0
  | d :: r => uptoBulk d + uptoBulkAll r
def uptoBulkEntries {H : Type} : List (Lit × DataW H) → Nat
  | [] => 0
  | x :: r => uptoBulkEntry x + uptoBulkEntries r
def uptoBulkEntry {H : Type} : Lit × DataW H → Nat
  | (.string bytes, d) => bytes.length + uptoBulk d + 1
  | (_, d) => uptoBulk d + 1
 end
def uptoSmall : (H : Type) → List (DataW H) → Bool := fun _ ds => decide (uptoBulkAll ds ≤ 1048576)
def OpenSpec.upto (s : _root_.Go.ChangeSpec) : _root_.Go.OpenSpec := { _root_.Go.OpenSpec.ofChange s with cond := some uptoSmall }

/-- 'hoistwaylaw12.TokenExact', WHERE WHAT IT READS IS OF BULK AT MOST 1048576: true; the input reads as it did. -/
def tokenExactUptoRow : OpenClaim := { program := "ytnikhfcjnimbdaa", sum := "e7d994527b793cdbb7e6889360ae3759c0fcb442b73d0662c7ef67fd8cbfa806", func := "hoistway/hoistwaylaw12.TokenExact", spec := "tokenExact", apart := false, narrowed := true }
def TokenExactUptoSaid : Prop := tokenExactUptoRow.holds Try.pinned (OpenSpec.upto tokenExactSpec)

/-- 'hoistwaylaw12.TokenRoles', WHERE WHAT IT READS IS OF BULK AT MOST 1048576: true; the input reads as it did. -/
def tokenRolesUptoRow : OpenClaim := { program := "ytnikhfcjnimbdaa", sum := "e7d994527b793cdbb7e6889360ae3759c0fcb442b73d0662c7ef67fd8cbfa806", func := "hoistway/hoistwaylaw12.TokenRoles", spec := "tokenRoles", apart := false, narrowed := true }
def TokenRolesUptoSaid : Prop := tokenRolesUptoRow.holds Try.pinned (OpenSpec.upto tokenRolesSpec)

/-- 'hoistwaylaw12.TokenBits', WHERE WHAT IT READS IS OF BULK AT MOST 1048576: true; the input reads as it did. -/
def tokenBitsUptoRow : OpenClaim := { program := "ytnikhfcjnimbdaa", sum := "e7d994527b793cdbb7e6889360ae3759c0fcb442b73d0662c7ef67fd8cbfa806", func := "hoistway/hoistwaylaw12.TokenBits", spec := "tokenBits", apart := false, narrowed := true }
def TokenBitsUptoSaid : Prop := tokenBitsUptoRow.holds Try.pinned (OpenSpec.upto tokenBitsSpec)

end Rows
end Go.Proofs.Ytnikhfcjnimbdaa
