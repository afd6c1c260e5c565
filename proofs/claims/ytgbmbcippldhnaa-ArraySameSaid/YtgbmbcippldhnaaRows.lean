/-
  No cell of these rows narrows 'for every input' (looked for: loops, veiled, ifaces, maps, wideKeys, modest, calm, conditions, laid).
  DERIVED. THE GIVEN ROWS OF THIS SEAT. 5 by the template 'for every input the law returns true; each argument reads behind the call as it read before'; 0 by the template 'total and deterministic' (their statements: YtgbmbcippldhnaaTotals.lean).
  GIVEN WITH THE SEED: the statements are not yours to turn. If you find one false, say at which input.
  Laid BY PROGRAM, IN A SANDBOX (cutbox-rows.mjs): the forced cells as the released guide's own fill.sh prints them over the translation 213871fbdfc77dcc… (all of the seat's roots in one cut). By AI agents, Wed Nov 11 2026. No macro, syntax, notation, axiom, sorry.
-/
import Derived.Test.YtgbmbcippldhnaaChecked
import GoSem.Claim
import GoSem.ClaimJoined
import GoSem.ClaimMapViews
import Derived.JoinedTies
import Derived.KernelRfl
namespace Go.Proofs.Ytgbmbcippldhnaa
/- THE CELL 'sum', in the pinned program and in every row, IS THE sha256 OF THE DUMP (.gsa) THAT YtgbmbcippldhnaaProg.lean LOADS. Nothing in Lean hashes anything: it is a label: what it is worth is what the hold of that sum in a sandbox is worth. -/
noncomputable def Try.pinned : Pinned := { name := "ytgbmbcippldhnaa", sum := "213871fbdfc77dcc953c81b6f21ba49beacb901074e2ab68852b3fbce5ea9630", checked := Try.checked }
namespace Rows
def none {H : Type} : Left H := { results := [], args := [] }

/-- 'decklelaw10.ArrayTells': WHATEVER THE INPUT: true; the input reads as it did. -/
def arrayTellsSpec : ChangeSpec := { name := "arrayTells", fn := fun _ => fun
  | [d1, d2] => { results := [.lit (.bool true)], args := [d1, d2] }
  | _ => none }
def arrayTellsRow : OpenClaim := { program := "ytgbmbcippldhnaa", sum := "213871fbdfc77dcc953c81b6f21ba49beacb901074e2ab68852b3fbce5ea9630", func := "deckle/decklelaw10.ArrayTells", spec := "arrayTells", unfollowed := true, recurses := true, apart := false }
def ArrayTellsSaid : Prop := arrayTellsRow.holds Try.pinned (OpenSpec.ofChange arrayTellsSpec)

/-- ITS FALSE NEIGHBOUR: 'it returns false'. Refute it at one input. -/
def arrayTellsWrong : ChangeSpec := { name := "arrayTells", fn := fun _ => fun
  | [d1, d2] => { results := [.lit (.bool false)], args := [d1, d2] }
  | _ => none }
def ArrayTellsWrongFalsely : Prop := arrayTellsRow.holds Try.pinned (OpenSpec.ofChange arrayTellsWrong)

/-- 'decklelaw10.ArrayKids': WHATEVER THE INPUT: true; the input reads as it did. -/
def arrayKidsSpec : ChangeSpec := { name := "arrayKids", fn := fun _ => fun
  | [d] => { results := [.lit (.bool true)], args := [d] }
  | _ => none }
def arrayKidsRow : OpenClaim := { program := "ytgbmbcippldhnaa", sum := "213871fbdfc77dcc953c81b6f21ba49beacb901074e2ab68852b3fbce5ea9630", func := "deckle/decklelaw10.ArrayKids", spec := "arrayKids", unfollowed := true, recurses := true, apart := false }
def ArrayKidsSaid : Prop := arrayKidsRow.holds Try.pinned (OpenSpec.ofChange arrayKidsSpec)

/-- ITS FALSE NEIGHBOUR: 'it returns false'. Refute it at one input. -/
def arrayKidsWrong : ChangeSpec := { name := "arrayKids", fn := fun _ => fun
  | [d] => { results := [.lit (.bool false)], args := [d] }
  | _ => none }
def ArrayKidsWrongFalsely : Prop := arrayKidsRow.holds Try.pinned (OpenSpec.ofChange arrayKidsWrong)

/-- 'decklelaw10.ArrayTakes': WHATEVER THE INPUT: true; the input reads as it did. -/
def arrayTakesSpec : ChangeSpec := { name := "arrayTakes", fn := fun _ => fun
  | [d1, d2] => { results := [.lit (.bool true)], args := [d1, d2] }
  | _ => none }
def arrayTakesRow : OpenClaim := { program := "ytgbmbcippldhnaa", sum := "213871fbdfc77dcc953c81b6f21ba49beacb901074e2ab68852b3fbce5ea9630", func := "deckle/decklelaw10.ArrayTakes", spec := "arrayTakes", unfollowed := true, recurses := true, apart := false }
def ArrayTakesSaid : Prop := arrayTakesRow.holds Try.pinned (OpenSpec.ofChange arrayTakesSpec)

/-- ITS FALSE NEIGHBOUR: 'it returns false'. Refute it at one input. -/
def arrayTakesWrong : ChangeSpec := { name := "arrayTakes", fn := fun _ => fun
  | [d1, d2] => { results := [.lit (.bool false)], args := [d1, d2] }
  | _ => none }
def ArrayTakesWrongFalsely : Prop := arrayTakesRow.holds Try.pinned (OpenSpec.ofChange arrayTakesWrong)

/-- 'decklelaw10.ArrayDeep': WHATEVER THE INPUT: true; the input reads as it did. -/
def arrayDeepSpec : ChangeSpec := { name := "arrayDeep", fn := fun _ => fun
  | [d] => { results := [.lit (.bool true)], args := [d] }
  | _ => none }
def arrayDeepRow : OpenClaim := { program := "ytgbmbcippldhnaa", sum := "213871fbdfc77dcc953c81b6f21ba49beacb901074e2ab68852b3fbce5ea9630", func := "deckle/decklelaw10.ArrayDeep", spec := "arrayDeep", unfollowed := true, recurses := true, apart := false }
def ArrayDeepSaid : Prop := arrayDeepRow.holds Try.pinned (OpenSpec.ofChange arrayDeepSpec)

/-- ITS FALSE NEIGHBOUR: 'it returns false'. Refute it at one input. -/
def arrayDeepWrong : ChangeSpec := { name := "arrayDeep", fn := fun _ => fun
  | [d] => { results := [.lit (.bool false)], args := [d] }
  | _ => none }
def ArrayDeepWrongFalsely : Prop := arrayDeepRow.holds Try.pinned (OpenSpec.ofChange arrayDeepWrong)

/-- 'decklelaw10.ArraySame': WHATEVER THE INPUT: true; the input reads as it did. -/
def arraySameSpec : ChangeSpec := { name := "arraySame", fn := fun _ => fun
  | [d1, d2, d3] => { results := [.lit (.bool true)], args := [d1, d2, d3] }
  | _ => none }
def arraySameRow : OpenClaim := { program := "ytgbmbcippldhnaa", sum := "213871fbdfc77dcc953c81b6f21ba49beacb901074e2ab68852b3fbce5ea9630", func := "deckle/decklelaw10.ArraySame", spec := "arraySame", unfollowed := true, recurses := true, apart := false }
def ArraySameSaid : Prop := arraySameRow.holds Try.pinned (OpenSpec.ofChange arraySameSpec)

/-- ITS FALSE NEIGHBOUR: 'it returns false'. Refute it at one input. -/
def arraySameWrong : ChangeSpec := { name := "arraySame", fn := fun _ => fun
  | [d1, d2, d3] => { results := [.lit (.bool false)], args := [d1, d2, d3] }
  | _ => none }
def ArraySameWrongFalsely : Prop := arraySameRow.holds Try.pinned (OpenSpec.ofChange arraySameWrong)

/- THE SECOND FORM. 'bulk': how many values and letters a reading holds, each counted each time it is reached (what is shared counts as often as it is met; a slice's spare places count too). A statement '..UptoSaid' is the law's where the arguments, and the package variables that the reading takes, are together of bulk at most 1048576: NARROWER than '..Said'. Prove '..Said' where nothing that the law and all that it calls make is longer than what came in: it says more and counts as full. Else prove '..UptoSaid'. A law counts once. -/
mutual
def uptoBulk {H : Type} : DataW H → Nat
  | .lit (.string bytes) => bytes.length + 1
  | .lit _ => 1
  | .nil => 1
  | .ptr d => uptoBulk d + 1
  | .slice elems spare => uptoBulkAll elems + uptoBulkAll spare + 1
  | .agg parts => uptoBulkAll parts + 1
  | .iface _ d => uptoBulk d + 1
  | .map entries => uptoBulkEntries entries + 1
  | .held _ => 1
def uptoBulkAll {H : Type} : List (DataW H) → Nat
  | [] => 0
  | d :: r => uptoBulk d + uptoBulkAll r
def uptoBulkEntries {H : Type} : List (Lit × DataW H) → Nat
  | [] => 0
  | x :: r => uptoBulkEntry x + uptoBulkEntries r
def uptoBulkEntry {H : Type} : Lit × DataW H → Nat
  | (.string bytes, d) => bytes.length + uptoBulk d + 1
  | (_, d) => uptoBulk d + 1
 end
def uptoSmall : (H : Type) → List (DataW H) → Bool := fun _ ds => decide (uptoBulkAll ds ≤ 1048576)
def OpenSpec.upto (s : _root_.Go.ChangeSpec) : _root_.Go.OpenSpec := { _root_.Go.OpenSpec.ofChange s with cond := some uptoSmall }

/-- 'decklelaw10.ArrayTells', WHERE WHAT IT READS IS OF BULK AT MOST 1048576: true; the input reads as it did. -/
def arrayTellsUptoRow : OpenClaim := { program := "ytgbmbcippldhnaa", sum := "213871fbdfc77dcc953c81b6f21ba49beacb901074e2ab68852b3fbce5ea9630", func := "deckle/decklelaw10.ArrayTells", spec := "arrayTells", unfollowed := true, recurses := true, apart := false, narrowed := true }
def ArrayTellsUptoSaid : Prop := arrayTellsUptoRow.holds Try.pinned (OpenSpec.upto arrayTellsSpec)

/-- 'decklelaw10.ArrayKids', WHERE WHAT IT READS IS OF BULK AT MOST 1048576: true; the input reads as it did. -/
def arrayKidsUptoRow : OpenClaim := { program := "ytgbmbcippldhnaa", sum := "213871fbdfc77dcc953c81b6f21ba49beacb901074e2ab68852b3fbce5ea9630", func := "deckle/decklelaw10.ArrayKids", spec := "arrayKids", unfollowed := true, recurses := true, apart := false, narrowed := true }
def ArrayKidsUptoSaid : Prop := arrayKidsUptoRow.holds Try.pinned (OpenSpec.upto arrayKidsSpec)

/-- 'decklelaw10.ArrayTakes', WHERE WHAT IT READS IS OF BULK AT MOST 1048576: true; the input reads as it did. -/
def arrayTakesUptoRow : OpenClaim := { program := "ytgbmbcippldhnaa", sum := "213871fbdfc77dcc953c81b6f21ba49beacb901074e2ab68852b3fbce5ea9630", func := "deckle/decklelaw10.ArrayTakes", spec := "arrayTakes", unfollowed := true, recurses := true, apart := false, narrowed := true }
def ArrayTakesUptoSaid : Prop := arrayTakesUptoRow.holds Try.pinned (OpenSpec.upto arrayTakesSpec)

/-- 'decklelaw10.ArrayDeep', WHERE WHAT IT READS IS OF BULK AT MOST 1048576: true; the input reads as it did. -/
def arrayDeepUptoRow : OpenClaim := { program := "ytgbmbcippldhnaa", sum := "213871fbdfc77dcc953c81b6f21ba49beacb901074e2ab68852b3fbce5ea9630", func := "deckle/decklelaw10.ArrayDeep", spec := "arrayDeep", unfollowed := true, recurses := true, apart := false, narrowed := true }
def ArrayDeepUptoSaid : Prop := arrayDeepUptoRow.holds Try.pinned (OpenSpec.upto arrayDeepSpec)

/-- 'decklelaw10.ArraySame', WHERE WHAT IT READS IS OF BULK AT MOST 1048576: true; the input reads as it did. -/
def arraySameUptoRow : OpenClaim := { program := "ytgbmbcippldhnaa", sum := "213871fbdfc77dcc953c81b6f21ba49beacb901074e2ab68852b3fbce5ea9630", func := "deckle/decklelaw10.ArraySame", spec := "arraySame", unfollowed := true, recurses := true, apart := false, narrowed := true }
def ArraySameUptoSaid : Prop := arraySameUptoRow.holds Try.pinned (OpenSpec.upto arraySameSpec)

end Rows
end Go.Proofs.Ytgbmbcippldhnaa
