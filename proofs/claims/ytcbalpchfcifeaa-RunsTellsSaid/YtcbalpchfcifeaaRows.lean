/-
  No cell of these rows narrows 'for every input' (looked for: loops, veiled, ifaces, maps, wideKeys, modest, calm, conditions, laid).
  DERIVED. THE GIVEN ROWS OF THIS SEAT. 6 by the template 'for every input the law returns true; each argument reads behind the call as it read before'; 0 by the template 'total and deterministic' (their statements: YtcbalpchfcifeaaTotals.lean).
  GIVEN WITH THE SEED: the statements are not yours to turn. If you find one false, say at which input.
  Laid BY PROGRAM, IN A SANDBOX (cutbox-rows.mjs): the forced cells as the released guide's own fill.sh prints them over the translation 38e8a8ec70624528… (all of the seat's roots in one cut). By AI agents, Wed Nov 11 2026. No macro, syntax, notation, axiom, sorry.
-/
import Derived.Test.YtcbalpchfcifeaaChecked
import GoSem.Claim
import GoSem.ClaimJoined
import GoSem.ClaimMapViews
import Derived.JoinedTies
import Derived.KernelRfl
namespace Go.Proofs.Ytcbalpchfcifeaa
/- THE CELL 'sum', in the pinned program and in every row, IS THE sha256 OF THE DUMP (.gsa) THAT YtcbalpchfcifeaaProg.lean LOADS. Nothing in Lean hashes anything: it is a label: what it is worth is what the hold of that sum in a sandbox is worth. -/
noncomputable def Try.pinned : Pinned := { name := "ytcbalpchfcifeaa", sum := "38e8a8ec7062452828f145b02990cb4fd66a017140fd86d51e6c1068527bea52", checked := Try.checked }
namespace Rows
def none {H : Type} : Left H := { results := [], args := [] }

/-- 'decklelaw05.RunsTells': WHATEVER THE INPUT: true; the input reads as it did. -/
def runsTellsSpec : ChangeSpec := { name := "runsTells", fn := fun _ => fun
  | [d1, d2] => { results := [.lit (.bool true)], args := [d1, d2] }
  | _ => none }
def runsTellsRow : OpenClaim := { program := "ytcbalpchfcifeaa", sum := "38e8a8ec7062452828f145b02990cb4fd66a017140fd86d51e6c1068527bea52", func := "deckle/decklelaw05.RunsTells", spec := "runsTells", inPlace := ["internal/bytealg.MakeNoZero"], recurses := true, apart := false }
def RunsTellsSaid : Prop := runsTellsRow.holds Try.pinned (OpenSpec.ofChange runsTellsSpec)

/-- ITS FALSE NEIGHBOUR: 'it returns false'. Refute it at one input. -/
def runsTellsWrong : ChangeSpec := { name := "runsTells", fn := fun _ => fun
  | [d1, d2] => { results := [.lit (.bool false)], args := [d1, d2] }
  | _ => none }
def RunsTellsWrongFalsely : Prop := runsTellsRow.holds Try.pinned (OpenSpec.ofChange runsTellsWrong)

/-- 'decklelaw05.RunsBack': WHATEVER THE INPUT: true; the input reads as it did. -/
def runsBackSpec : ChangeSpec := { name := "runsBack", fn := fun _ => fun
  | [d1, d2] => { results := [.lit (.bool true)], args := [d1, d2] }
  | _ => none }
def runsBackRow : OpenClaim := { program := "ytcbalpchfcifeaa", sum := "38e8a8ec7062452828f145b02990cb4fd66a017140fd86d51e6c1068527bea52", func := "deckle/decklelaw05.RunsBack", spec := "runsBack", inPlace := ["internal/bytealg.MakeNoZero"], apart := false }
def RunsBackSaid : Prop := runsBackRow.holds Try.pinned (OpenSpec.ofChange runsBackSpec)

/-- ITS FALSE NEIGHBOUR: 'it returns false'. Refute it at one input. -/
def runsBackWrong : ChangeSpec := { name := "runsBack", fn := fun _ => fun
  | [d1, d2] => { results := [.lit (.bool false)], args := [d1, d2] }
  | _ => none }
def RunsBackWrongFalsely : Prop := runsBackRow.holds Try.pinned (OpenSpec.ofChange runsBackWrong)

/-- 'decklelaw05.RunsOnce': WHATEVER THE INPUT: true; the input reads as it did. -/
def runsOnceSpec : ChangeSpec := { name := "runsOnce", fn := fun _ => fun
  | [d1, d2] => { results := [.lit (.bool true)], args := [d1, d2] }
  | _ => none }
def runsOnceRow : OpenClaim := { program := "ytcbalpchfcifeaa", sum := "38e8a8ec7062452828f145b02990cb4fd66a017140fd86d51e6c1068527bea52", func := "deckle/decklelaw05.RunsOnce", spec := "runsOnce", inPlace := ["internal/bytealg.MakeNoZero"], apart := false }
def RunsOnceSaid : Prop := runsOnceRow.holds Try.pinned (OpenSpec.ofChange runsOnceSpec)

/-- ITS FALSE NEIGHBOUR: 'it returns false'. Refute it at one input. -/
def runsOnceWrong : ChangeSpec := { name := "runsOnce", fn := fun _ => fun
  | [d1, d2] => { results := [.lit (.bool false)], args := [d1, d2] }
  | _ => none }
def RunsOnceWrongFalsely : Prop := runsOnceRow.holds Try.pinned (OpenSpec.ofChange runsOnceWrong)

/-- 'decklelaw05.RunsShort': WHATEVER THE INPUT: true; the input reads as it did. -/
def runsShortSpec : ChangeSpec := { name := "runsShort", fn := fun _ => fun
  | [d1, d2, d3] => { results := [.lit (.bool true)], args := [d1, d2, d3] }
  | _ => none }
def runsShortRow : OpenClaim := { program := "ytcbalpchfcifeaa", sum := "38e8a8ec7062452828f145b02990cb4fd66a017140fd86d51e6c1068527bea52", func := "deckle/decklelaw05.RunsShort", spec := "runsShort", inPlace := ["internal/bytealg.MakeNoZero"], apart := false }
def RunsShortSaid : Prop := runsShortRow.holds Try.pinned (OpenSpec.ofChange runsShortSpec)

/-- ITS FALSE NEIGHBOUR: 'it returns false'. Refute it at one input. -/
def runsShortWrong : ChangeSpec := { name := "runsShort", fn := fun _ => fun
  | [d1, d2, d3] => { results := [.lit (.bool false)], args := [d1, d2, d3] }
  | _ => none }
def RunsShortWrongFalsely : Prop := runsShortRow.holds Try.pinned (OpenSpec.ofChange runsShortWrong)

/-- 'decklelaw05.RunsParts': WHATEVER THE INPUT: true; the input reads as it did. -/
def runsPartsSpec : ChangeSpec := { name := "runsParts", fn := fun _ => fun
  | [d1, d2, d3, d4] => { results := [.lit (.bool true)], args := [d1, d2, d3, d4] }
  | _ => none }
def runsPartsRow : OpenClaim := { program := "ytcbalpchfcifeaa", sum := "38e8a8ec7062452828f145b02990cb4fd66a017140fd86d51e6c1068527bea52", func := "deckle/decklelaw05.RunsParts", spec := "runsParts", inPlace := ["internal/bytealg.MakeNoZero"], apart := false }
def RunsPartsSaid : Prop := runsPartsRow.holds Try.pinned (OpenSpec.ofChange runsPartsSpec)

/-- ITS FALSE NEIGHBOUR: 'it returns false'. Refute it at one input. -/
def runsPartsWrong : ChangeSpec := { name := "runsParts", fn := fun _ => fun
  | [d1, d2, d3, d4] => { results := [.lit (.bool false)], args := [d1, d2, d3, d4] }
  | _ => none }
def RunsPartsWrongFalsely : Prop := runsPartsRow.holds Try.pinned (OpenSpec.ofChange runsPartsWrong)

/-- 'decklelaw05.RunsLong': WHATEVER THE INPUT: true; the input reads as it did. -/
def runsLongSpec : ChangeSpec := { name := "runsLong", fn := fun _ => fun
  | [d] => { results := [.lit (.bool true)], args := [d] }
  | _ => none }
def runsLongRow : OpenClaim := { program := "ytcbalpchfcifeaa", sum := "38e8a8ec7062452828f145b02990cb4fd66a017140fd86d51e6c1068527bea52", func := "deckle/decklelaw05.RunsLong", spec := "runsLong", inPlace := ["internal/bytealg.MakeNoZero"], apart := false }
def RunsLongSaid : Prop := runsLongRow.holds Try.pinned (OpenSpec.ofChange runsLongSpec)

/-- ITS FALSE NEIGHBOUR: 'it returns false'. Refute it at one input. -/
def runsLongWrong : ChangeSpec := { name := "runsLong", fn := fun _ => fun
  | [d] => { results := [.lit (.bool false)], args := [d] }
  | _ => none }
def RunsLongWrongFalsely : Prop := runsLongRow.holds Try.pinned (OpenSpec.ofChange runsLongWrong)

/- THE SECOND FORM. 'bulk': how many values and letters a reading holds, each counted each time it is reached (what is shared counts as often as it is met; a slice's spare places count too). A statement '..UptoSaid' is the law's where the arguments, and the package variables that the reading takes, are together of bulk at most 1048576: NARROWER than '..Said'. Prove '..Said' where nothing that the law and all that it calls make is longer than what came in: it says more and counts as full. Else prove '..UptoSaid'. A law counts once. -/
mutual
def uptoBulk {H : Type} : DataW H → Nat
  | .lit (.string bytes) => bytes.length + 1
  | .lit _ => 1
  | .nil => 1
  | .ptr d => uptoBulk d + 1
  | .slice elems spare => uptoBulkAll elems + uptoBulkAll spare + 1
  | .agg parts => uptoBulkAll parts + 1
  | .iface _ d => uptoBulk d + 1
  | .map entries => uptoBulkEntries entries + 1
  | .held _ => 1
def uptoBulkAll {H : Type} : List (DataW H) → Nat
  | [] => 0
  | d :: r => uptoBulk d + uptoBulkAll r
def uptoBulkEntries {H : Type} : List (Lit × DataW H) → Nat
  | [] => 0
  | x :: r => uptoBulkEntry x + uptoBulkEntries r
def uptoBulkEntry {H : Type} : Lit × DataW H → Nat
  | (.string bytes, d) => bytes.length + uptoBulk d + 1
  | (_, d) => uptoBulk d + 1
 end
def uptoSmall : (H : Type) → List (DataW H) → Bool := fun _ ds => decide (uptoBulkAll ds ≤ 1048576)
def OpenSpec.upto (s : _root_.Go.ChangeSpec) : _root_.Go.OpenSpec := { _root_.Go.OpenSpec.ofChange s with cond := some uptoSmall }

/-- 'decklelaw05.RunsTells', WHERE WHAT IT READS IS OF BULK AT MOST 1048576: true; the input reads as it did. -/
def runsTellsUptoRow : OpenClaim := { program := "ytcbalpchfcifeaa", sum := "38e8a8ec7062452828f145b02990cb4fd66a017140fd86d51e6c1068527bea52", func := "deckle/decklelaw05.RunsTells", spec := "runsTells", inPlace := ["internal/bytealg.MakeNoZero"], recurses := true, apart := false, narrowed := true }
def RunsTellsUptoSaid : Prop := runsTellsUptoRow.holds Try.pinned (OpenSpec.upto runsTellsSpec)

/-- 'decklelaw05.RunsBack', WHERE WHAT IT READS IS OF BULK AT MOST 1048576: true; the input reads as it did. -/
def runsBackUptoRow : OpenClaim := { program := "ytcbalpchfcifeaa", sum := "38e8a8ec7062452828f145b02990cb4fd66a017140fd86d51e6c1068527bea52", func := "deckle/decklelaw05.RunsBack", spec := "runsBack", inPlace := ["internal/bytealg.MakeNoZero"], apart := false, narrowed := true }
def RunsBackUptoSaid : Prop := runsBackUptoRow.holds Try.pinned (OpenSpec.upto runsBackSpec)

/-- 'decklelaw05.RunsOnce', WHERE WHAT IT READS IS OF BULK AT MOST 1048576: true; the input reads as it did. -/
def runsOnceUptoRow : OpenClaim := { program := "ytcbalpchfcifeaa", sum := "38e8a8ec7062452828f145b02990cb4fd66a017140fd86d51e6c1068527bea52", func := "deckle/decklelaw05.RunsOnce", spec := "runsOnce", inPlace := ["internal/bytealg.MakeNoZero"], apart := false, narrowed := true }
def RunsOnceUptoSaid : Prop := runsOnceUptoRow.holds Try.pinned (OpenSpec.upto runsOnceSpec)

/-- 'decklelaw05.RunsShort', WHERE WHAT IT READS IS OF BULK AT MOST 1048576: true; the input reads as it did. -/
def runsShortUptoRow : OpenClaim := { program := "ytcbalpchfcifeaa", sum := "38e8a8ec7062452828f145b02990cb4fd66a017140fd86d51e6c1068527bea52", func := "deckle/decklelaw05.RunsShort", spec := "runsShort", inPlace := ["internal/bytealg.MakeNoZero"], apart := false, narrowed := true }
def RunsShortUptoSaid : Prop := runsShortUptoRow.holds Try.pinned (OpenSpec.upto runsShortSpec)

/-- 'decklelaw05.RunsParts', WHERE WHAT IT READS IS OF BULK AT MOST 1048576: true; the input reads as it did. -/
def runsPartsUptoRow : OpenClaim := { program := "ytcbalpchfcifeaa", sum := "38e8a8ec7062452828f145b02990cb4fd66a017140fd86d51e6c1068527bea52", func := "deckle/decklelaw05.RunsParts", spec := "runsParts", inPlace := ["internal/bytealg.MakeNoZero"], apart := false, narrowed := true }
def RunsPartsUptoSaid : Prop := runsPartsUptoRow.holds Try.pinned (OpenSpec.upto runsPartsSpec)

/-- 'decklelaw05.RunsLong', WHERE WHAT IT READS IS OF BULK AT MOST 1048576: true; the input reads as it did. -/
def runsLongUptoRow : OpenClaim := { program := "ytcbalpchfcifeaa", sum := "38e8a8ec7062452828f145b02990cb4fd66a017140fd86d51e6c1068527bea52", func := "deckle/decklelaw05.RunsLong", spec := "runsLong", inPlace := ["internal/bytealg.MakeNoZero"], apart := false, narrowed := true }
def RunsLongUptoSaid : Prop := runsLongUptoRow.holds Try.pinned (OpenSpec.upto runsLongSpec)

end Rows
end Go.Proofs.Ytcbalpchfcifeaa
