/-
  No cell of these rows narrows 'for every input' (looked for: loops, veiled, ifaces, maps, wideKeys, modest, calm, conditions, laid).
  DERIVED. THE GIVEN ROWS OF THIS SEAT. 6 by the template 'for every input the law returns true; each argument reads behind the call as it read before'; 0 by the template 'total and deterministic' (their statements: YtecdklheppcihaaTotals.lean).
  GIVEN WITH THE SEED: the statements are not yours to turn. If you find one false, say at which input.
  Laid BY PROGRAM, IN A SANDBOX (cutbox-rows.mjs): the forced cells as the released guide's own fill.sh prints them over the translation f8b49ed0752e978d… (all of the seat's roots in one cut). By AI agents, Wed Nov 11 2026. No macro, syntax, notation, axiom, sorry.
-/
import Derived.Test.YtecdklheppcihaaChecked
import GoSem.Claim
import GoSem.ClaimJoined
import GoSem.ClaimMapViews
import Derived.JoinedTies
import Derived.KernelRfl
namespace Go.Proofs.Ytecdklheppcihaa
/- THE CELL 'sum', in the pinned program and in every row, IS THE sha256 OF THE DUMP (.gsa) THAT YtecdklheppcihaaProg.lean LOADS. Nothing in Lean hashes anything: it is a label: what it is worth is what the hold of that sum in a sandbox is worth. -/
noncomputable def Try.pinned : Pinned := { name := "ytecdklheppcihaa", sum := "f8b49ed0752e978d3d5c19286f917d2ede3c688cdc22219bdcb2e00b95f91dfd", checked := Try.checked }
namespace Rows
def none {H : Type} : Left H := { results := [], args := [] }

/-- 'decklelaw11.TightTells': WHATEVER THE INPUT: true; the input reads as it did. -/
def tightTellsSpec : ChangeSpec := { name := "tightTells", fn := fun _ => fun
  | [d1, d2, d3] => { results := [.lit (.bool true)], args := [d1, d2, d3] }
  | _ => none }
def tightTellsRow : OpenClaim := { program := "ytecdklheppcihaa", sum := "f8b49ed0752e978d3d5c19286f917d2ede3c688cdc22219bdcb2e00b95f91dfd", func := "deckle/decklelaw11.TightTells", spec := "tightTells", unfollowed := true, recurses := true, apart := false }
def TightTellsSaid : Prop := tightTellsRow.holds Try.pinned (OpenSpec.ofChange tightTellsSpec)

/-- ITS FALSE NEIGHBOUR: 'it returns false'. Refute it at one input. -/
def tightTellsWrong : ChangeSpec := { name := "tightTells", fn := fun _ => fun
  | [d1, d2, d3] => { results := [.lit (.bool false)], args := [d1, d2, d3] }
  | _ => none }
def TightTellsWrongFalsely : Prop := tightTellsRow.holds Try.pinned (OpenSpec.ofChange tightTellsWrong)

/-- 'decklelaw11.TightNumbers': WHATEVER THE INPUT: true; the input reads as it did. -/
def tightNumbersSpec : ChangeSpec := { name := "tightNumbers", fn := fun _ => fun
  | [d] => { results := [.lit (.bool true)], args := [d] }
  | _ => none }
def tightNumbersRow : OpenClaim := { program := "ytecdklheppcihaa", sum := "f8b49ed0752e978d3d5c19286f917d2ede3c688cdc22219bdcb2e00b95f91dfd", func := "deckle/decklelaw11.TightNumbers", spec := "tightNumbers", unfollowed := true, recurses := true, apart := false }
def TightNumbersSaid : Prop := tightNumbersRow.holds Try.pinned (OpenSpec.ofChange tightNumbersSpec)

/-- ITS FALSE NEIGHBOUR: 'it returns false'. Refute it at one input. -/
def tightNumbersWrong : ChangeSpec := { name := "tightNumbers", fn := fun _ => fun
  | [d] => { results := [.lit (.bool false)], args := [d] }
  | _ => none }
def TightNumbersWrongFalsely : Prop := tightNumbersRow.holds Try.pinned (OpenSpec.ofChange tightNumbersWrong)

/-- 'decklelaw11.TightShape': WHATEVER THE INPUT: true; the input reads as it did. -/
def tightShapeSpec : ChangeSpec := { name := "tightShape", fn := fun _ => fun
  | [d] => { results := [.lit (.bool true)], args := [d] }
  | _ => none }
def tightShapeRow : OpenClaim := { program := "ytecdklheppcihaa", sum := "f8b49ed0752e978d3d5c19286f917d2ede3c688cdc22219bdcb2e00b95f91dfd", func := "deckle/decklelaw11.TightShape", spec := "tightShape", unfollowed := true, recurses := true, apart := false }
def TightShapeSaid : Prop := tightShapeRow.holds Try.pinned (OpenSpec.ofChange tightShapeSpec)

/-- ITS FALSE NEIGHBOUR: 'it returns false'. Refute it at one input. -/
def tightShapeWrong : ChangeSpec := { name := "tightShape", fn := fun _ => fun
  | [d] => { results := [.lit (.bool false)], args := [d] }
  | _ => none }
def TightShapeWrongFalsely : Prop := tightShapeRow.holds Try.pinned (OpenSpec.ofChange tightShapeWrong)

/-- 'decklelaw11.TightKids': WHATEVER THE INPUT: true; the input reads as it did. -/
def tightKidsSpec : ChangeSpec := { name := "tightKids", fn := fun _ => fun
  | [d1, d2] => { results := [.lit (.bool true)], args := [d1, d2] }
  | _ => none }
def tightKidsRow : OpenClaim := { program := "ytecdklheppcihaa", sum := "f8b49ed0752e978d3d5c19286f917d2ede3c688cdc22219bdcb2e00b95f91dfd", func := "deckle/decklelaw11.TightKids", spec := "tightKids", unfollowed := true, recurses := true, apart := false }
def TightKidsSaid : Prop := tightKidsRow.holds Try.pinned (OpenSpec.ofChange tightKidsSpec)

/-- ITS FALSE NEIGHBOUR: 'it returns false'. Refute it at one input. -/
def tightKidsWrong : ChangeSpec := { name := "tightKids", fn := fun _ => fun
  | [d1, d2] => { results := [.lit (.bool false)], args := [d1, d2] }
  | _ => none }
def TightKidsWrongFalsely : Prop := tightKidsRow.holds Try.pinned (OpenSpec.ofChange tightKidsWrong)

/-- 'decklelaw11.TightOnce': WHATEVER THE INPUT: true; the input reads as it did. -/
def tightOnceSpec : ChangeSpec := { name := "tightOnce", fn := fun _ => fun
  | [d] => { results := [.lit (.bool true)], args := [d] }
  | _ => none }
def tightOnceRow : OpenClaim := { program := "ytecdklheppcihaa", sum := "f8b49ed0752e978d3d5c19286f917d2ede3c688cdc22219bdcb2e00b95f91dfd", func := "deckle/decklelaw11.TightOnce", spec := "tightOnce", unfollowed := true, recurses := true, apart := false }
def TightOnceSaid : Prop := tightOnceRow.holds Try.pinned (OpenSpec.ofChange tightOnceSpec)

/-- ITS FALSE NEIGHBOUR: 'it returns false'. Refute it at one input. -/
def tightOnceWrong : ChangeSpec := { name := "tightOnce", fn := fun _ => fun
  | [d] => { results := [.lit (.bool false)], args := [d] }
  | _ => none }
def TightOnceWrongFalsely : Prop := tightOnceRow.holds Try.pinned (OpenSpec.ofChange tightOnceWrong)

/-- 'decklelaw11.TightAlone': WHATEVER THE INPUT: true; the input reads as it did. -/
def tightAloneSpec : ChangeSpec := { name := "tightAlone", fn := fun _ => fun
  | [d] => { results := [.lit (.bool true)], args := [d] }
  | _ => none }
def tightAloneRow : OpenClaim := { program := "ytecdklheppcihaa", sum := "f8b49ed0752e978d3d5c19286f917d2ede3c688cdc22219bdcb2e00b95f91dfd", func := "deckle/decklelaw11.TightAlone", spec := "tightAlone", unfollowed := true, recurses := true, apart := false }
def TightAloneSaid : Prop := tightAloneRow.holds Try.pinned (OpenSpec.ofChange tightAloneSpec)

/-- ITS FALSE NEIGHBOUR: 'it returns false'. Refute it at one input. -/
def tightAloneWrong : ChangeSpec := { name := "tightAlone", fn := fun _ => fun
  | [d] => { results := [.lit (.bool false)], args := [d] }
  | _ => none }
def TightAloneWrongFalsely : Prop := tightAloneRow.holds Try.pinned (OpenSpec.ofChange tightAloneWrong)

/- THE SECOND FORM. 'bulk': how many values and letters a reading holds, each counted each time it is reached (what is shared counts as often as it is met; a slice's spare places count too). A statement '..UptoSaid' is the law's where the arguments, and the package variables that the reading takes, are together of bulk at most 1048576: NARROWER than '..Said'. Prove '..Said' where nothing that the law and all that it calls make is longer than what came in: it says more and counts as full. Else prove '..UptoSaid'. A law counts once. -/
mutual
def uptoBulk {H : Type} : DataW H → Nat
  | .lit (.string bytes) => bytes.length + 1
  | .lit _ => 1
  | .nil => 1
  | .ptr d => uptoBulk d + 1
  | .slice elems spare => uptoBulkAll elems + uptoBulkAll spare + 1
  | .agg parts => uptoBulkAll parts + 1
  | .iface _ d => uptoBulk d + 1
  | .map entries => uptoBulkEntries entries + 1
  | .held _ => 1
def uptoBulkAll {H : Type} : List (DataW H) → Nat
  | [] => 0
  | d :: r => uptoBulk d + uptoBulkAll r
def uptoBulkEntries {H : Type} : List (Lit × DataW H) → Nat
  | [] => 0
  | x :: r => uptoBulkEntry x + uptoBulkEntries r
def uptoBulkEntry {H : Type} : Lit × DataW H → Nat
  | (.string bytes, d) => bytes.length + uptoBulk d + 1
  | (_, d) => uptoBulk d + 1
 end
def uptoSmall : (H : Type) → List (DataW H) → Bool := fun _ ds => decide (uptoBulkAll ds ≤ 1048576)
def OpenSpec.upto (s : _root_.Go.ChangeSpec) : _root_.Go.OpenSpec := { _root_.Go.OpenSpec.ofChange s with cond := some uptoSmall }

/-- 'decklelaw11.TightTells', WHERE WHAT IT READS IS OF BULK AT MOST 1048576: true; the input reads as it did. -/
def tightTellsUptoRow : OpenClaim := { program := "ytecdklheppcihaa", sum := "f8b49ed0752e978d3d5c19286f917d2ede3c688cdc22219bdcb2e00b95f91dfd", func := "deckle/decklelaw11.TightTells", spec := "tightTells", unfollowed := true, recurses := true, apart := false, narrowed := true }
def TightTellsUptoSaid : Prop := tightTellsUptoRow.holds Try.pinned (OpenSpec.upto tightTellsSpec)

/-- 'decklelaw11.TightNumbers', WHERE WHAT IT READS IS OF BULK AT MOST 1048576: true; the input reads as it did. -/
def tightNumbersUptoRow : OpenClaim := { program := "ytecdklheppcihaa", sum := "f8b49ed0752e978d3d5c19286f917d2ede3c688cdc22219bdcb2e00b95f91dfd", func := "deckle/decklelaw11.TightNumbers", spec := "tightNumbers", unfollowed := true, recurses := true, apart := false, narrowed := true }
def TightNumbersUptoSaid : Prop := tightNumbersUptoRow.holds Try.pinned (OpenSpec.upto tightNumbersSpec)

/-- 'decklelaw11.TightShape', WHERE WHAT IT READS IS OF BULK AT MOST 1048576: true; the input reads as it did. -/
def tightShapeUptoRow : OpenClaim := { program := "ytecdklheppcihaa", sum := "f8b49ed0752e978d3d5c19286f917d2ede3c688cdc22219bdcb2e00b95f91dfd", func := "deckle/decklelaw11.TightShape", spec := "tightShape", unfollowed := true, recurses := true, apart := false, narrowed := true }
def TightShapeUptoSaid : Prop := tightShapeUptoRow.holds Try.pinned (OpenSpec.upto tightShapeSpec)

/-- 'decklelaw11.TightKids', WHERE WHAT IT READS IS OF BULK AT MOST 1048576: true; the input reads as it did. -/
def tightKidsUptoRow : OpenClaim := { program := "ytecdklheppcihaa", sum := "f8b49ed0752e978d3d5c19286f917d2ede3c688cdc22219bdcb2e00b95f91dfd", func := "deckle/decklelaw11.TightKids", spec := "tightKids", unfollowed := true, recurses := true, apart := false, narrowed := true }
def TightKidsUptoSaid : Prop := tightKidsUptoRow.holds Try.pinned (OpenSpec.upto tightKidsSpec)

/-- 'decklelaw11.TightOnce', WHERE WHAT IT READS IS OF BULK AT MOST 1048576: true; the input reads as it did. -/
def tightOnceUptoRow : OpenClaim := { program := "ytecdklheppcihaa", sum := "f8b49ed0752e978d3d5c19286f917d2ede3c688cdc22219bdcb2e00b95f91dfd", func := "deckle/decklelaw11.TightOnce", spec := "tightOnce", unfollowed := true, recurses := true, apart := false, narrowed := true }
def TightOnceUptoSaid : Prop := tightOnceUptoRow.holds Try.pinned (OpenSpec.upto tightOnceSpec)

/-- 'decklelaw11.TightAlone', WHERE WHAT IT READS IS OF BULK AT MOST 1048576: true; the input reads as it did. -/
def tightAloneUptoRow : OpenClaim := { program := "ytecdklheppcihaa", sum := "f8b49ed0752e978d3d5c19286f917d2ede3c688cdc22219bdcb2e00b95f91dfd", func := "deckle/decklelaw11.TightAlone", spec := "tightAlone", unfollowed := true, recurses := true, apart := false, narrowed := true }
def TightAloneUptoSaid : Prop := tightAloneUptoRow.holds Try.pinned (OpenSpec.upto tightAloneSpec)

end Rows
end Go.Proofs.Ytecdklheppcihaa
