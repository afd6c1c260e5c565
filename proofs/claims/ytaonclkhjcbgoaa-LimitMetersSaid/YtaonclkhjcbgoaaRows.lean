/-
  No cell of these rows narrows 'for every input' (looked for: loops, veiled, ifaces, maps, wideKeys, modest, calm, conditions, laid).
  DERIVED. THE GIVEN ROWS OF THIS SEAT. 4 by the template 'for every input the law returns true; each argument reads behind the call as it read before'; 0 by the template 'total and deterministic' (their statements: YtaonclkhjcbgoaaTotals.lean).
  GIVEN WITH THE SEED: the statements are not yours to turn. If you find one false, say at which input.
  Laid BY PROGRAM, IN A SANDBOX (cutbox-rows.mjs): the forced cells as the released guide's own fill.sh prints them over the translation 9a06d8a7b6dac128… (all of the seat's roots in one cut). By AI agents, Wed Nov 11 2026. No macro, syntax, notation, axiom, sorry.
-/
import Derived.Test.YtaonclkhjcbgoaaChecked
import GoSem.Claim
import GoSem.ClaimJoined
import GoSem.ClaimMapViews
import Derived.JoinedTies
import Derived.KernelRfl
namespace Go.Proofs.Ytaonclkhjcbgoaa
/- THE CELL 'sum', in the pinned program and in every row, IS THE sha256 OF THE DUMP (.gsa) THAT YtaonclkhjcbgoaaProg.lean LOADS. Nothing in Lean hashes anything: it is a label: what it is worth is what the hold of that sum in a sandbox is worth. -/
noncomputable def Try.pinned : Pinned := { name := "ytaonclkhjcbgoaa", sum := "9a06d8a7b6dac1280bb2637f4bd292d05d63d807089bf46c52a371fb1086dbdd", checked := Try.checked }
namespace Rows
def none {H : Type} : Left H := { results := [], args := [] }

/-- 'decklelaw19.LimitMeters': WHATEVER THE INPUT: true; the input reads as it did. -/
def limitMetersSpec : ChangeSpec := { name := "limitMeters", fn := fun _ => fun
  | [d1, d2, d3] => { results := [.lit (.bool true)], args := [d1, d2, d3] }
  | _ => none }
def limitMetersRow : OpenClaim := { program := "ytaonclkhjcbgoaa", sum := "9a06d8a7b6dac1280bb2637f4bd292d05d63d807089bf46c52a371fb1086dbdd", func := "deckle/decklelaw19.LimitMeters", spec := "limitMeters", apart := false }
def LimitMetersSaid : Prop := limitMetersRow.holds Try.pinned (OpenSpec.ofChange limitMetersSpec)

/-- ITS FALSE NEIGHBOUR: 'it returns false'. Refute it at one input. -/
def limitMetersWrong : ChangeSpec := { name := "limitMeters", fn := fun _ => fun
  | [d1, d2, d3] => { results := [.lit (.bool false)], args := [d1, d2, d3] }
  | _ => none }
def LimitMetersWrongFalsely : Prop := limitMetersRow.holds Try.pinned (OpenSpec.ofChange limitMetersWrong)

/-- 'decklelaw19.LimitHolds': WHATEVER THE INPUT: true; the input reads as it did. -/
def limitHoldsSpec : ChangeSpec := { name := "limitHolds", fn := fun _ => fun
  | [d1, d2] => { results := [.lit (.bool true)], args := [d1, d2] }
  | _ => none }
def limitHoldsRow : OpenClaim := { program := "ytaonclkhjcbgoaa", sum := "9a06d8a7b6dac1280bb2637f4bd292d05d63d807089bf46c52a371fb1086dbdd", func := "deckle/decklelaw19.LimitHolds", spec := "limitHolds", apart := false }
def LimitHoldsSaid : Prop := limitHoldsRow.holds Try.pinned (OpenSpec.ofChange limitHoldsSpec)

/-- ITS FALSE NEIGHBOUR: 'it returns false'. Refute it at one input. -/
def limitHoldsWrong : ChangeSpec := { name := "limitHolds", fn := fun _ => fun
  | [d1, d2] => { results := [.lit (.bool false)], args := [d1, d2] }
  | _ => none }
def LimitHoldsWrongFalsely : Prop := limitHoldsRow.holds Try.pinned (OpenSpec.ofChange limitHoldsWrong)

/-- 'decklelaw19.LimitEnough': WHATEVER THE INPUT: true; the input reads as it did. -/
def limitEnoughSpec : ChangeSpec := { name := "limitEnough", fn := fun _ => fun
  | [d1, d2, d3] => { results := [.lit (.bool true)], args := [d1, d2, d3] }
  | _ => none }
def limitEnoughRow : OpenClaim := { program := "ytaonclkhjcbgoaa", sum := "9a06d8a7b6dac1280bb2637f4bd292d05d63d807089bf46c52a371fb1086dbdd", func := "deckle/decklelaw19.LimitEnough", spec := "limitEnough", apart := false }
def LimitEnoughSaid : Prop := limitEnoughRow.holds Try.pinned (OpenSpec.ofChange limitEnoughSpec)

/-- ITS FALSE NEIGHBOUR: 'it returns false'. Refute it at one input. -/
def limitEnoughWrong : ChangeSpec := { name := "limitEnough", fn := fun _ => fun
  | [d1, d2, d3] => { results := [.lit (.bool false)], args := [d1, d2, d3] }
  | _ => none }
def LimitEnoughWrongFalsely : Prop := limitEnoughRow.holds Try.pinned (OpenSpec.ofChange limitEnoughWrong)

/-- 'decklelaw19.LimitOrder': WHATEVER THE INPUT: true; the input reads as it did. -/
def limitOrderSpec : ChangeSpec := { name := "limitOrder", fn := fun _ => fun
  | [d1, d2, d3] => { results := [.lit (.bool true)], args := [d1, d2, d3] }
  | _ => none }
def limitOrderRow : OpenClaim := { program := "ytaonclkhjcbgoaa", sum := "9a06d8a7b6dac1280bb2637f4bd292d05d63d807089bf46c52a371fb1086dbdd", func := "deckle/decklelaw19.LimitOrder", spec := "limitOrder", apart := false }
def LimitOrderSaid : Prop := limitOrderRow.holds Try.pinned (OpenSpec.ofChange limitOrderSpec)

/-- ITS FALSE NEIGHBOUR: 'it returns false'. Refute it at one input. -/
def limitOrderWrong : ChangeSpec := { name := "limitOrder", fn := fun _ => fun
  | [d1, d2, d3] => { results := [.lit (.bool false)], args := [d1, d2, d3] }
  | _ => none }
def LimitOrderWrongFalsely : Prop := limitOrderRow.holds Try.pinned (OpenSpec.ofChange limitOrderWrong)

/- THE SECOND FORM. 'bulk': how many values and letters a reading holds, each counted each time it is reached (what is shared counts as often as it is met; a slice's spare places count too). A statement '..UptoSaid' is the law's where the arguments, and the package variables that the reading takes, are together of bulk at most 1048576: NARROWER than '..Said'. Prove '..Said' where nothing that the law and all that it calls make is longer than what came in: it says more and counts as full. Else prove '..UptoSaid'. A law counts once. -/
mutual
def uptoBulk {H : Type} : DataW H → Nat
  | .lit (.string bytes) => bytes.length + 1
  | .lit _ => 1
  | .nil => 1
  | .ptr d => uptoBulk d + 1
  | .slice elems spare => uptoBulkAll elems + uptoBulkAll spare + 1
  | .agg parts => uptoBulkAll parts + 1
  | .iface _ d => uptoBulk d + 1
  | .map entries => uptoBulkEntries entries + 1
  | .held _ => 1
def uptoBulkAll {H : Type} : List (DataW H) → Nat
  | [] => 0
  | d :: r => uptoBulk d + uptoBulkAll r
def uptoBulkEntries {H : Type} : List (Lit × DataW H) → Nat
  | [] => 0
  | x :: r => uptoBulkEntry x + uptoBulkEntries r
def uptoBulkEntry {H : Type} : Lit × DataW H → Nat
  | (.string bytes, d) => bytes.length + uptoBulk d + 1
  | (_, d) => uptoBulk d + 1
 end
def uptoSmall : (H : Type) → List (DataW H) → Bool := fun _ ds => decide (uptoBulkAll ds ≤ 1048576)
def OpenSpec.upto (s : _root_.Go.ChangeSpec) : _root_.Go.OpenSpec := { _root_.Go.OpenSpec.ofChange s with cond := some uptoSmall }

/-- 'decklelaw19.LimitMeters', WHERE WHAT IT READS IS OF BULK AT MOST 1048576: true; the input reads as it did. -/
def limitMetersUptoRow : OpenClaim := { program := "ytaonclkhjcbgoaa", sum := "9a06d8a7b6dac1280bb2637f4bd292d05d63d807089bf46c52a371fb1086dbdd", func := "deckle/decklelaw19.LimitMeters", spec := "limitMeters", apart := false, narrowed := true }
def LimitMetersUptoSaid : Prop := limitMetersUptoRow.holds Try.pinned (OpenSpec.upto limitMetersSpec)

/-- 'decklelaw19.LimitHolds', WHERE WHAT IT READS IS OF BULK AT MOST 1048576: true; the input reads as it did. -/
def limitHoldsUptoRow : OpenClaim := { program := "ytaonclkhjcbgoaa", sum := "9a06d8a7b6dac1280bb2637f4bd292d05d63d807089bf46c52a371fb1086dbdd", func := "deckle/decklelaw19.LimitHolds", spec := "limitHolds", apart := false, narrowed := true }
def LimitHoldsUptoSaid : Prop := limitHoldsUptoRow.holds Try.pinned (OpenSpec.upto limitHoldsSpec)

/-- 'decklelaw19.LimitEnough', WHERE WHAT IT READS IS OF BULK AT MOST 1048576: true; the input reads as it did. -/
def limitEnoughUptoRow : OpenClaim := { program := "ytaonclkhjcbgoaa", sum := "9a06d8a7b6dac1280bb2637f4bd292d05d63d807089bf46c52a371fb1086dbdd", func := "deckle/decklelaw19.LimitEnough", spec := "limitEnough", apart := false, narrowed := true }
def LimitEnoughUptoSaid : Prop := limitEnoughUptoRow.holds Try.pinned (OpenSpec.upto limitEnoughSpec)

/-- 'decklelaw19.LimitOrder', WHERE WHAT IT READS IS OF BULK AT MOST 1048576: true; the input reads as it did. -/
def limitOrderUptoRow : OpenClaim := { program := "ytaonclkhjcbgoaa", sum := "9a06d8a7b6dac1280bb2637f4bd292d05d63d807089bf46c52a371fb1086dbdd", func := "deckle/decklelaw19.LimitOrder", spec := "limitOrder", apart := false, narrowed := true }
def LimitOrderUptoSaid : Prop := limitOrderUptoRow.holds Try.pinned (OpenSpec.upto limitOrderSpec)

end Rows
end Go.Proofs.Ytaonclkhjcbgoaa
