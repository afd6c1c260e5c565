/-
  No cell of these rows narrows 'for every input' (looked for: loops, veiled, ifaces, maps, wideKeys, modest, calm, conditions, laid).
  DERIVED. THE GIVEN ROWS OF THIS SEAT. 5 by the template 'for every input the law returns true; each argument reads behind the call as it read before'; 0 by the template 'total and deterministic' (their statements: YtngpdacbmkfbcaaTotals.lean).
  GIVEN WITH THE SEED: the statements are not yours to turn. If you find one false, say at which input.
  Laid BY PROGRAM, IN A SANDBOX (cutbox-rows.mjs): the forced cells as the released guide's own fill.sh prints them over the translation 1f80a6bda7dd2c92… (all of the seat's roots in one cut). By AI agents, Wed Nov 11 2026. No macro, syntax, notation, axiom, sorry.
-/
import Derived.Test.YtngpdacbmkfbcaaChecked
import GoSem.Claim
import GoSem.ClaimJoined
import GoSem.ClaimMapViews
import Derived.JoinedTies
import Derived.KernelRfl
namespace Go.Proofs.Ytngpdacbmkfbcaa
/- THE CELL 'sum', in the pinned program and in every row, IS THE sha256 OF THE DUMP (.gsa) THAT YtngpdacbmkfbcaaProg.lean LOADS. Nothing in Lean hashes anything: it is a label: what it is worth is what the hold of that sum in a sandbox is worth. -/
noncomputable def Try.pinned : Pinned := { name := "ytngpdacbmkfbcaa", sum := "1f80a6bda7dd2c9226eb8ea697bb6b2bbfadb11027b6b34359ef2c327e85ee9b", checked := Try.checked }
namespace Rows
def none {H : Type} : Left H := { results := [], args := [] }

/-- 'decklelaw09.ShapeTells': WHATEVER THE INPUT: true; the input reads as it did. -/
def shapeTellsSpec : ChangeSpec := { name := "shapeTells", fn := fun _ => fun
  | [d1, d2, d3] => { results := [.lit (.bool true)], args := [d1, d2, d3] }
  | _ => none }
def shapeTellsRow : OpenClaim := { program := "ytngpdacbmkfbcaa", sum := "1f80a6bda7dd2c9226eb8ea697bb6b2bbfadb11027b6b34359ef2c327e85ee9b", func := "deckle/decklelaw09.ShapeTells", spec := "shapeTells", unfollowed := true, recurses := true, apart := false }
def ShapeTellsSaid : Prop := shapeTellsRow.holds Try.pinned (OpenSpec.ofChange shapeTellsSpec)

/-- ITS FALSE NEIGHBOUR: 'it returns false'. Refute it at one input. -/
def shapeTellsWrong : ChangeSpec := { name := "shapeTells", fn := fun _ => fun
  | [d1, d2, d3] => { results := [.lit (.bool false)], args := [d1, d2, d3] }
  | _ => none }
def ShapeTellsWrongFalsely : Prop := shapeTellsRow.holds Try.pinned (OpenSpec.ofChange shapeTellsWrong)

/-- 'decklelaw09.ShapeBack': WHATEVER THE INPUT: true; the input reads as it did. -/
def shapeBackSpec : ChangeSpec := { name := "shapeBack", fn := fun _ => fun
  | [d1, d2, d3] => { results := [.lit (.bool true)], args := [d1, d2, d3] }
  | _ => none }
def shapeBackRow : OpenClaim := { program := "ytngpdacbmkfbcaa", sum := "1f80a6bda7dd2c9226eb8ea697bb6b2bbfadb11027b6b34359ef2c327e85ee9b", func := "deckle/decklelaw09.ShapeBack", spec := "shapeBack", unfollowed := true, recurses := true, apart := false }
def ShapeBackSaid : Prop := shapeBackRow.holds Try.pinned (OpenSpec.ofChange shapeBackSpec)

/-- ITS FALSE NEIGHBOUR: 'it returns false'. Refute it at one input. -/
def shapeBackWrong : ChangeSpec := { name := "shapeBack", fn := fun _ => fun
  | [d1, d2, d3] => { results := [.lit (.bool false)], args := [d1, d2, d3] }
  | _ => none }
def ShapeBackWrongFalsely : Prop := shapeBackRow.holds Try.pinned (OpenSpec.ofChange shapeBackWrong)

/-- 'decklelaw09.ShapeRows': WHATEVER THE INPUT: true; the input reads as it did. -/
def shapeRowsSpec : ChangeSpec := { name := "shapeRows", fn := fun _ => fun
  | [d1, d2, d3, d4] => { results := [.lit (.bool true)], args := [d1, d2, d3, d4] }
  | _ => none }
def shapeRowsRow : OpenClaim := { program := "ytngpdacbmkfbcaa", sum := "1f80a6bda7dd2c9226eb8ea697bb6b2bbfadb11027b6b34359ef2c327e85ee9b", func := "deckle/decklelaw09.ShapeRows", spec := "shapeRows", unfollowed := true, recurses := true, apart := false }
def ShapeRowsSaid : Prop := shapeRowsRow.holds Try.pinned (OpenSpec.ofChange shapeRowsSpec)

/-- ITS FALSE NEIGHBOUR: 'it returns false'. Refute it at one input. -/
def shapeRowsWrong : ChangeSpec := { name := "shapeRows", fn := fun _ => fun
  | [d1, d2, d3, d4] => { results := [.lit (.bool false)], args := [d1, d2, d3, d4] }
  | _ => none }
def ShapeRowsWrongFalsely : Prop := shapeRowsRow.holds Try.pinned (OpenSpec.ofChange shapeRowsWrong)

/-- 'decklelaw09.ShapeCounts': WHATEVER THE INPUT: true; the input reads as it did. -/
def shapeCountsSpec : ChangeSpec := { name := "shapeCounts", fn := fun _ => fun
  | [d] => { results := [.lit (.bool true)], args := [d] }
  | _ => none }
def shapeCountsRow : OpenClaim := { program := "ytngpdacbmkfbcaa", sum := "1f80a6bda7dd2c9226eb8ea697bb6b2bbfadb11027b6b34359ef2c327e85ee9b", func := "deckle/decklelaw09.ShapeCounts", spec := "shapeCounts", unfollowed := true, recurses := true, apart := false }
def ShapeCountsSaid : Prop := shapeCountsRow.holds Try.pinned (OpenSpec.ofChange shapeCountsSpec)

/-- ITS FALSE NEIGHBOUR: 'it returns false'. Refute it at one input. -/
def shapeCountsWrong : ChangeSpec := { name := "shapeCounts", fn := fun _ => fun
  | [d] => { results := [.lit (.bool false)], args := [d] }
  | _ => none }
def ShapeCountsWrongFalsely : Prop := shapeCountsRow.holds Try.pinned (OpenSpec.ofChange shapeCountsWrong)

/-- 'decklelaw09.ShapeNext': WHATEVER THE INPUT: true; the input reads as it did. -/
def shapeNextSpec : ChangeSpec := { name := "shapeNext", fn := fun _ => fun
  | [d1, d2] => { results := [.lit (.bool true)], args := [d1, d2] }
  | _ => none }
def shapeNextRow : OpenClaim := { program := "ytngpdacbmkfbcaa", sum := "1f80a6bda7dd2c9226eb8ea697bb6b2bbfadb11027b6b34359ef2c327e85ee9b", func := "deckle/decklelaw09.ShapeNext", spec := "shapeNext", unfollowed := true, recurses := true, apart := false }
def ShapeNextSaid : Prop := shapeNextRow.holds Try.pinned (OpenSpec.ofChange shapeNextSpec)

/-- ITS FALSE NEIGHBOUR: 'it returns false'. Refute it at one input. -/
def shapeNextWrong : ChangeSpec := { name := "shapeNext", fn := fun _ => fun
  | [d1, d2] => { results := [.lit (.bool false)], args := [d1, d2] }
  | _ => none }
def ShapeNextWrongFalsely : Prop := shapeNextRow.holds Try.pinned (OpenSpec.ofChange shapeNextWrong)

/- THE SECOND FORM. 'bulk': how many values and letters a reading holds, each counted each time it is reached (what is shared counts as often as it is met; a slice's spare places count too). A statement '..UptoSaid' is the law's where the arguments, and the package variables that the reading takes, are together of bulk at most 1048576: NARROWER than '..Said'. Prove '..Said' where nothing that the law and all that it calls make is longer than what came in: it says more and counts as full. Else prove '..UptoSaid'. A law counts once. -/
mutual
def uptoBulk {H : Type} : DataW H → Nat
  | .lit (.string bytes) => bytes.length + 1
  | .lit _ => 1
  | .nil => 1
  | .ptr d => uptoBulk d + 1
  | .slice elems spare => uptoBulkAll elems + uptoBulkAll spare + 1
  | .agg parts => uptoBulkAll parts + 1
  | .iface _ d => uptoBulk d + 1
  | .map entries => uptoBulkEntries entries + 1
  | .held _ => 1
def uptoBulkAll {H : Type} : List (DataW H) → Nat
  | [] => 0
  | d :: r => uptoBulk d + uptoBulkAll r
def uptoBulkEntries {H : Type} : List (Lit × DataW H) → Nat
  | [] => 0
  | x :: r => uptoBulkEntry x + uptoBulkEntries r
def uptoBulkEntry {H : Type} : Lit × DataW H → Nat
  | (.string bytes, d) => bytes.length + uptoBulk d + 1
  | (_, d) => uptoBulk d + 1
 end
def uptoSmall : (H : Type) → List (DataW H) → Bool := fun _ ds => decide (uptoBulkAll ds ≤ 1048576)
def OpenSpec.upto (s : _root_.Go.ChangeSpec) : _root_.Go.OpenSpec := { _root_.Go.OpenSpec.ofChange s with cond := some uptoSmall }

/-- 'decklelaw09.ShapeTells', WHERE WHAT IT READS IS OF BULK AT MOST 1048576: true; the input reads as it did. -/
def shapeTellsUptoRow : OpenClaim := { program := "ytngpdacbmkfbcaa", sum := "1f80a6bda7dd2c9226eb8ea697bb6b2bbfadb11027b6b34359ef2c327e85ee9b", func := "deckle/decklelaw09.ShapeTells", spec := "shapeTells", unfollowed := true, recurses := true, apart := false, narrowed := true }
def ShapeTellsUptoSaid : Prop := shapeTellsUptoRow.holds Try.pinned (OpenSpec.upto shapeTellsSpec)

/-- 'decklelaw09.ShapeBack', WHERE WHAT IT READS IS OF BULK AT MOST 1048576: true; the input reads as it did. -/
def shapeBackUptoRow : OpenClaim := { program := "ytngpdacbmkfbcaa", sum := "1f80a6bda7dd2c9226eb8ea697bb6b2bbfadb11027b6b34359ef2c327e85ee9b", func := "deckle/decklelaw09.ShapeBack", spec := "shapeBack", unfollowed := true, recurses := true, apart := false, narrowed := true }
def ShapeBackUptoSaid : Prop := shapeBackUptoRow.holds Try.pinned (OpenSpec.upto shapeBackSpec)

/-- 'decklelaw09.ShapeRows', WHERE WHAT IT READS IS OF BULK AT MOST 1048576: true; the input reads as it did. -/
def shapeRowsUptoRow : OpenClaim := { program := "ytngpdacbmkfbcaa", sum := "1f80a6bda7dd2c9226eb8ea697bb6b2bbfadb11027b6b34359ef2c327e85ee9b", func := "deckle/decklelaw09.ShapeRows", spec := "shapeRows", unfollowed := true, recurses := true, apart := false, narrowed := true }
def ShapeRowsUptoSaid : Prop := shapeRowsUptoRow.holds Try.pinned (OpenSpec.upto shapeRowsSpec)

/-- 'decklelaw09.ShapeCounts', WHERE WHAT IT READS IS OF BULK AT MOST 1048576: true; the input reads as it did. -/
def shapeCountsUptoRow : OpenClaim := { program := "ytngpdacbmkfbcaa", sum := "1f80a6bda7dd2c9226eb8ea697bb6b2bbfadb11027b6b34359ef2c327e85ee9b", func := "deckle/decklelaw09.ShapeCounts", spec := "shapeCounts", unfollowed := true, recurses := true, apart := false, narrowed := true }
def ShapeCountsUptoSaid : Prop := shapeCountsUptoRow.holds Try.pinned (OpenSpec.upto shapeCountsSpec)

/-- 'decklelaw09.ShapeNext', WHERE WHAT IT READS IS OF BULK AT MOST 1048576: true; the input reads as it did. -/
def shapeNextUptoRow : OpenClaim := { program := "ytngpdacbmkfbcaa", sum := "1f80a6bda7dd2c9226eb8ea697bb6b2bbfadb11027b6b34359ef2c327e85ee9b", func := "deckle/decklelaw09.ShapeNext", spec := "shapeNext", unfollowed := true, recurses := true, apart := false, narrowed := true }
def ShapeNextUptoSaid : Prop := shapeNextUptoRow.holds Try.pinned (OpenSpec.upto shapeNextSpec)

end Rows
end Go.Proofs.Ytngpdacbmkfbcaa
