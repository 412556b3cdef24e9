/-
  No cell of these rows narrows 'for every input' (looked for: loops, veiled, ifaces, maps, wideKeys, modest, calm, conditions, laid).
  DERIVED. THE GIVEN ROWS OF THIS SEAT. 4 by the template 'for every input the law returns true; each argument reads behind the call as it read before'; 0 by the template 'total and deterministic' (their statements: YtdnkdanpcbjnbaaTotals.lean).
  GIVEN WITH THE SEED: the statements are not yours to turn. If you find one false, say at which input.
  Laid BY PROGRAM, IN A SANDBOX (cutbox-rows.mjs): the forced cells as the released guide's own fill.sh prints them over the translation b953826596e01fa5… (all of the seat's roots in one cut). By AI agents, Wed Nov 11 2026. No macro, syntax, notation, axiom, sorry.
-/
import Derived.Test.YtdnkdanpcbjnbaaChecked
import GoSem.Claim
import GoSem.ClaimJoined
import GoSem.ClaimMapViews
import Derived.JoinedTies
import Derived.KernelRfl
namespace Go.Proofs.Ytdnkdanpcbjnbaa
/- THE CELL 'sum', in the pinned program and in every row, IS THE sha256 OF THE DUMP (.gsa) THAT YtdnkdanpcbjnbaaProg.lean LOADS. Nothing in Lean hashes anything: it is a label: what it is worth is what the hold of that sum in a sandbox is worth. -/
noncomputable def Try.pinned : Pinned := { name := "ytdnkdanpcbjnbaa", sum := "b953826596e01fa575ad8ed15e31192c0fe3d25b769cc891c19f24c66ff301b2", checked := Try.checked }
namespace Rows
def none {H : Type} : Left H := { results := [], args := [] }

/-- 'hoistwaylaw07.SiteExact': WHATEVER THE INPUT: true; the input reads as it did. -/
def siteExactSpec : ChangeSpec := { name := "siteExact", fn := fun _ => fun
  | [d1, d2] => { results := [.lit (.bool true)], args := [d1, d2] }
  | _ => none }
def siteExactRow : OpenClaim := { program := "ytdnkdanpcbjnbaa", sum := "b953826596e01fa575ad8ed15e31192c0fe3d25b769cc891c19f24c66ff301b2", func := "hoistway/hoistwaylaw07.SiteExact", spec := "siteExact", unfollowed := true, recurses := true, apart := false }
def SiteExactSaid : Prop := siteExactRow.holds Try.pinned (OpenSpec.ofChange siteExactSpec)

/-- ITS FALSE NEIGHBOUR: 'it returns false'. Refute it at one input. -/
def siteExactWrong : ChangeSpec := { name := "siteExact", fn := fun _ => fun
  | [d1, d2] => { results := [.lit (.bool false)], args := [d1, d2] }
  | _ => none }
def SiteExactWrongFalsely : Prop := siteExactRow.holds Try.pinned (OpenSpec.ofChange siteExactWrong)

/-- 'hoistwaylaw07.SiteNames': WHATEVER THE INPUT: true; the input reads as it did. -/
def siteNamesSpec : ChangeSpec := { name := "siteNames", fn := fun _ => fun
  | [d1, d2, d3, d4] => { results := [.lit (.bool true)], args := [d1, d2, d3, d4] }
  | _ => none }
def siteNamesRow : OpenClaim := { program := "ytdnkdanpcbjnbaa", sum := "b953826596e01fa575ad8ed15e31192c0fe3d25b769cc891c19f24c66ff301b2", func := "hoistway/hoistwaylaw07.SiteNames", spec := "siteNames", unfollowed := true, recurses := true, apart := false }
def SiteNamesSaid : Prop := siteNamesRow.holds Try.pinned (OpenSpec.ofChange siteNamesSpec)

/-- ITS FALSE NEIGHBOUR: 'it returns false'. Refute it at one input. -/
def siteNamesWrong : ChangeSpec := { name := "siteNames", fn := fun _ => fun
  | [d1, d2, d3, d4] => { results := [.lit (.bool false)], args := [d1, d2, d3, d4] }
  | _ => none }
def SiteNamesWrongFalsely : Prop := siteNamesRow.holds Try.pinned (OpenSpec.ofChange siteNamesWrong)

/-- 'hoistwaylaw07.SiteBounds': WHATEVER THE INPUT: true; the input reads as it did. -/
def siteBoundsSpec : ChangeSpec := { name := "siteBounds", fn := fun _ => fun
  | [d1, d2] => { results := [.lit (.bool true)], args := [d1, d2] }
  | _ => none }
def siteBoundsRow : OpenClaim := { program := "ytdnkdanpcbjnbaa", sum := "b953826596e01fa575ad8ed15e31192c0fe3d25b769cc891c19f24c66ff301b2", func := "hoistway/hoistwaylaw07.SiteBounds", spec := "siteBounds", unfollowed := true, recurses := true, apart := false }
def SiteBoundsSaid : Prop := siteBoundsRow.holds Try.pinned (OpenSpec.ofChange siteBoundsSpec)

/-- ITS FALSE NEIGHBOUR: 'it returns false'. Refute it at one input. -/
def siteBoundsWrong : ChangeSpec := { name := "siteBounds", fn := fun _ => fun
  | [d1, d2] => { results := [.lit (.bool false)], args := [d1, d2] }
  | _ => none }
def SiteBoundsWrongFalsely : Prop := siteBoundsRow.holds Try.pinned (OpenSpec.ofChange siteBoundsWrong)

/-- 'hoistwaylaw07.SiteSets': WHATEVER THE INPUT: true; the input reads as it did. -/
def siteSetsSpec : ChangeSpec := { name := "siteSets", fn := fun _ => fun
  | [d1, d2, d3] => { results := [.lit (.bool true)], args := [d1, d2, d3] }
  | _ => none }
def siteSetsRow : OpenClaim := { program := "ytdnkdanpcbjnbaa", sum := "b953826596e01fa575ad8ed15e31192c0fe3d25b769cc891c19f24c66ff301b2", func := "hoistway/hoistwaylaw07.SiteSets", spec := "siteSets", unfollowed := true, recurses := true, apart := false }
def SiteSetsSaid : Prop := siteSetsRow.holds Try.pinned (OpenSpec.ofChange siteSetsSpec)

/-- ITS FALSE NEIGHBOUR: 'it returns false'. Refute it at one input. -/
def siteSetsWrong : ChangeSpec := { name := "siteSets", fn := fun _ => fun
  | [d1, d2, d3] => { results := [.lit (.bool false)], args := [d1, d2, d3] }
  | _ => none }
def SiteSetsWrongFalsely : Prop := siteSetsRow.holds Try.pinned (OpenSpec.ofChange siteSetsWrong)

/- THE SECOND FORM. 'bulk': how many values and letters a reading holds, each counted each time it is reached (what is shared counts as often as it is met; a slice's spare places count too). A statement '..UptoSaid' is the law's where the arguments, and the package variables that the reading takes, are together of bulk at most 1048576: NARROWER than '..Said'. Prove '..Said' where nothing that the law and all that it calls make is longer than what came in: it says more and counts as full. Else prove '..UptoSaid'. A law counts once. -/
mutual
def uptoBulk {H : Type} : DataW H → Nat
  | .lit (.string bytes) => bytes.length + 1
  | .lit _ => 1
  | .nil => 1
  | .ptr d => uptoBulk d + 1
  | .slice elems spare => uptoBulkAll elems + uptoBulkAll spare + 1
  | .agg parts => uptoBulkAll parts + 1
  | .iface _ d => uptoBulk d + 1
  | .map entries => uptoBulkEntries entries + 1
  | .held _ => 1
def uptoBulkAll {H : Type} : List (DataW H) → Nat
  | [] => 0
  | d :: r => uptoBulk d + uptoBulkAll r
def uptoBulkEntries {H : Type} : List (Lit × DataW H) → Nat
  | [] => 0
  | x :: r => uptoBulkEntry x + uptoBulkEntries r
def uptoBulkEntry {H : Type} : Lit × DataW H → Nat
  | (.string bytes, d) => bytes.length + uptoBulk d + 1
  | (_, d) => uptoBulk d + 1
 end
def uptoSmall : (H : Type) → List (DataW H) → Bool := fun _ ds => decide (uptoBulkAll ds ≤ 1048576)
def OpenSpec.upto (s : _root_.Go.ChangeSpec) : _root_.Go.OpenSpec := { _root_.Go.OpenSpec.ofChange s with cond := some uptoSmall }

/-- 'hoistwaylaw07.SiteExact', WHERE WHAT IT READS IS OF BULK AT MOST 1048576: true; the input reads as it did. -/
def siteExactUptoRow : OpenClaim := { program := "ytdnkdanpcbjnbaa", sum := "b953826596e01fa575ad8ed15e31192c0fe3d25b769cc891c19f24c66ff301b2", func := "hoistway/hoistwaylaw07.SiteExact", spec := "siteExact", unfollowed := true, recurses := true, apart := false, narrowed := true }
def SiteExactUptoSaid : Prop := siteExactUptoRow.holds Try.pinned (OpenSpec.upto siteExactSpec)

/-- 'hoistwaylaw07.SiteNames', WHERE WHAT IT READS IS OF BULK AT MOST 1048576: true; the input reads as it did. -/
def siteNamesUptoRow : OpenClaim := { program := "ytdnkdanpcbjnbaa", sum := "b953826596e01fa575ad8ed15e31192c0fe3d25b769cc891c19f24c66ff301b2", func := "hoistway/hoistwaylaw07.SiteNames", spec := "siteNames", unfollowed := true, recurses := true, apart := false, narrowed := true }
def SiteNamesUptoSaid : Prop := siteNamesUptoRow.holds Try.pinned (OpenSpec.upto siteNamesSpec)

/-- 'hoistwaylaw07.SiteBounds', WHERE WHAT IT READS IS OF BULK AT MOST 1048576: true; the input reads as it did. -/
def siteBoundsUptoRow : OpenClaim := { program := "ytdnkdanpcbjnbaa", sum := "b953826596e01fa575ad8ed15e31192c0fe3d25b769cc891c19f24c66ff301b2", func := "hoistway/hoistwaylaw07.SiteBounds", spec := "siteBounds", unfollowed := true, recurses := true, apart := false, narrowed := true }
def SiteBoundsUptoSaid : Prop := siteBoundsUptoRow.holds Try.pinned (OpenSpec.upto siteBoundsSpec)

/-- 'hoistwaylaw07.SiteSets', WHERE WHAT IT READS IS OF BULK AT MOST 1048576: true; the input reads as it did. -/
def siteSetsUptoRow : OpenClaim := { program := "ytdnkdanpcbjnbaa", sum := "b953826596e01fa575ad8ed15e31192c0fe3d25b769cc891c19f24c66ff301b2", func := "hoistway/hoistwaylaw07.SiteSets", spec := "siteSets", unfollowed := true, recurses := true, apart := false, narrowed := true }
def SiteSetsUptoSaid : Prop := siteSetsUptoRow.holds Try.pinned (OpenSpec.upto siteSetsSpec)

end Rows
end Go.Proofs.Ytdnkdanpcbjnbaa
