/-
  No cell of these rows narrows 'for every input' (looked for: loops, veiled, ifaces, maps, wideKeys, modest, calm, conditions, laid).
  DERIVED. THE GIVEN ROWS OF THIS SEAT. 6 by the template 'for every input the law returns true; each argument reads behind the call as it read before'; 0 by the template 'total and deterministic' (their statements: YtbmaijdkebjnhaaTotals.lean).
  GIVEN WITH THE SEED: the statements are not yours to turn. If you find one false, say at which input.
  Laid BY PROGRAM, IN A SANDBOX (cutbox-rows.mjs): the forced cells as the released guide's own fill.sh prints them over the translation d386cfc068a3b22f… (all of the seat's roots in one cut). By AI agents, Wed Nov 11 2026. No macro, syntax, notation, axiom, sorry.
-/
import Derived.Test.YtbmaijdkebjnhaaChecked
import GoSem.Claim
import GoSem.ClaimJoined
import GoSem.ClaimMapViews
import Derived.JoinedTies
import Derived.KernelRfl
namespace Go.Proofs.Ytbmaijdkebjnhaa
/- THE CELL 'sum', in the pinned program and in every row, IS THE sha256 OF THE DUMP (.gsa) THAT YtbmaijdkebjnhaaProg.lean LOADS. Nothing in Lean hashes anything: it is a label: what it is worth is what the hold of that sum in a sandbox is worth. -/
noncomputable def Try.pinned : Pinned := { name := "ytbmaijdkebjnhaa", sum := "d386cfc068a3b22fb8966e83f450e90cb2947acfb2af39077a9fcf99347b26cf", checked := Try.checked }
namespace Rows
def none {H : Type} : Left H := { results := [], args := [] }

/-- 'lockorderlaw15.FlowChange': WHATEVER THE INPUT: true; the input reads as it did. -/
def flowChangeSpec : ChangeSpec := { name := "flowChange", fn := fun _ => fun
  | [d1, d2, d3, d4] => { results := [.lit (.bool true)], args := [d1, d2, d3, d4] }
  | _ => none }
def flowChangeRow : OpenClaim := { program := "ytbmaijdkebjnhaa", sum := "d386cfc068a3b22fb8966e83f450e90cb2947acfb2af39077a9fcf99347b26cf", func := "lockorder/lockorderlaw15.FlowChange", spec := "flowChange", unfollowed := true, recurses := true, apart := false }
def FlowChangeSaid : Prop := flowChangeRow.holds Try.pinned (OpenSpec.ofChange flowChangeSpec)

/-- ITS FALSE NEIGHBOUR: 'it returns false'. Refute it at one input. -/
def flowChangeWrong : ChangeSpec := { name := "flowChange", fn := fun _ => fun
  | [d1, d2, d3, d4] => { results := [.lit (.bool false)], args := [d1, d2, d3, d4] }
  | _ => none }
def FlowChangeWrongFalsely : Prop := flowChangeRow.holds Try.pinned (OpenSpec.ofChange flowChangeWrong)

/-- 'lockorderlaw15.FlowNext': WHATEVER THE INPUT: true; the input reads as it did. -/
def flowNextSpec : ChangeSpec := { name := "flowNext", fn := fun _ => fun
  | [d1, d2, d3] => { results := [.lit (.bool true)], args := [d1, d2, d3] }
  | _ => none }
def flowNextRow : OpenClaim := { program := "ytbmaijdkebjnhaa", sum := "d386cfc068a3b22fb8966e83f450e90cb2947acfb2af39077a9fcf99347b26cf", func := "lockorder/lockorderlaw15.FlowNext", spec := "flowNext", unfollowed := true, recurses := true, apart := false }
def FlowNextSaid : Prop := flowNextRow.holds Try.pinned (OpenSpec.ofChange flowNextSpec)

/-- ITS FALSE NEIGHBOUR: 'it returns false'. Refute it at one input. -/
def flowNextWrong : ChangeSpec := { name := "flowNext", fn := fun _ => fun
  | [d1, d2, d3] => { results := [.lit (.bool false)], args := [d1, d2, d3] }
  | _ => none }
def FlowNextWrongFalsely : Prop := flowNextRow.holds Try.pinned (OpenSpec.ofChange flowNextWrong)

/-- 'lockorderlaw15.FlowOne': WHATEVER THE INPUT: true; the input reads as it did. -/
def flowOneSpec : ChangeSpec := { name := "flowOne", fn := fun _ => fun
  | [d1, d2, d3] => { results := [.lit (.bool true)], args := [d1, d2, d3] }
  | _ => none }
def flowOneRow : OpenClaim := { program := "ytbmaijdkebjnhaa", sum := "d386cfc068a3b22fb8966e83f450e90cb2947acfb2af39077a9fcf99347b26cf", func := "lockorder/lockorderlaw15.FlowOne", spec := "flowOne", unfollowed := true, recurses := true, apart := false }
def FlowOneSaid : Prop := flowOneRow.holds Try.pinned (OpenSpec.ofChange flowOneSpec)

/-- ITS FALSE NEIGHBOUR: 'it returns false'. Refute it at one input. -/
def flowOneWrong : ChangeSpec := { name := "flowOne", fn := fun _ => fun
  | [d1, d2, d3] => { results := [.lit (.bool false)], args := [d1, d2, d3] }
  | _ => none }
def FlowOneWrongFalsely : Prop := flowOneRow.holds Try.pinned (OpenSpec.ofChange flowOneWrong)

/-- 'lockorderlaw15.FlowInside': WHATEVER THE INPUT: true; the input reads as it did. -/
def flowInsideSpec : ChangeSpec := { name := "flowInside", fn := fun _ => fun
  | [d1, d2, d3] => { results := [.lit (.bool true)], args := [d1, d2, d3] }
  | _ => none }
def flowInsideRow : OpenClaim := { program := "ytbmaijdkebjnhaa", sum := "d386cfc068a3b22fb8966e83f450e90cb2947acfb2af39077a9fcf99347b26cf", func := "lockorder/lockorderlaw15.FlowInside", spec := "flowInside", unfollowed := true, recurses := true, apart := false }
def FlowInsideSaid : Prop := flowInsideRow.holds Try.pinned (OpenSpec.ofChange flowInsideSpec)

/-- ITS FALSE NEIGHBOUR: 'it returns false'. Refute it at one input. -/
def flowInsideWrong : ChangeSpec := { name := "flowInside", fn := fun _ => fun
  | [d1, d2, d3] => { results := [.lit (.bool false)], args := [d1, d2, d3] }
  | _ => none }
def FlowInsideWrongFalsely : Prop := flowInsideRow.holds Try.pinned (OpenSpec.ofChange flowInsideWrong)

/-- 'lockorderlaw15.FlowInstances': WHATEVER THE INPUT: true; the input reads as it did. -/
def flowInstancesSpec : ChangeSpec := { name := "flowInstances", fn := fun _ => fun
  | [d1, d2, d3, d4, d5] => { results := [.lit (.bool true)], args := [d1, d2, d3, d4, d5] }
  | _ => none }
def flowInstancesRow : OpenClaim := { program := "ytbmaijdkebjnhaa", sum := "d386cfc068a3b22fb8966e83f450e90cb2947acfb2af39077a9fcf99347b26cf", func := "lockorder/lockorderlaw15.FlowInstances", spec := "flowInstances", unfollowed := true, recurses := true, apart := false }
def FlowInstancesSaid : Prop := flowInstancesRow.holds Try.pinned (OpenSpec.ofChange flowInstancesSpec)

/-- ITS FALSE NEIGHBOUR: 'it returns false'. Refute it at one input. -/
def flowInstancesWrong : ChangeSpec := { name := "flowInstances", fn := fun _ => fun
  | [d1, d2, d3, d4, d5] => { results := [.lit (.bool false)], args := [d1, d2, d3, d4, d5] }
  | _ => none }
def FlowInstancesWrongFalsely : Prop := flowInstancesRow.holds Try.pinned (OpenSpec.ofChange flowInstancesWrong)

/-- 'lockorderlaw18.ModelSame': WHATEVER THE INPUT: true; the input reads as it did. -/
def modelSameSpec : ChangeSpec := { name := "modelSame", fn := fun _ => fun
  | [d1, d2, d3, d4] => { results := [.lit (.bool true)], args := [d1, d2, d3, d4] }
  | _ => none }
def modelSameRow : OpenClaim := { program := "ytbmaijdkebjnhaa", sum := "d386cfc068a3b22fb8966e83f450e90cb2947acfb2af39077a9fcf99347b26cf", func := "lockorder/lockorderlaw18.ModelSame", spec := "modelSame", unfollowed := true, recurses := true, apart := false }
def ModelSameSaid : Prop := modelSameRow.holds Try.pinned (OpenSpec.ofChange modelSameSpec)

/-- ITS FALSE NEIGHBOUR: 'it returns false'. Refute it at one input. -/
def modelSameWrong : ChangeSpec := { name := "modelSame", fn := fun _ => fun
  | [d1, d2, d3, d4] => { results := [.lit (.bool false)], args := [d1, d2, d3, d4] }
  | _ => none }
def ModelSameWrongFalsely : Prop := modelSameRow.holds Try.pinned (OpenSpec.ofChange modelSameWrong)

/- THE SECOND FORM. 'bulk': how many values and letters a reading holds, each counted each time it is reached (what is shared counts as often as it is met; a slice's spare places count too). A statement '..UptoSaid' is the law's where the arguments, and the package variables that the reading takes, are together of bulk at most 1048576: NARROWER than '..Said'. Prove '..Said' where nothing that the law and all that it calls make is longer than what came in: it says more and counts as full. Else prove '..UptoSaid'. A law counts once. -/
mutual
def uptoBulk {H : Type} : DataW H → Nat
  | .lit (.string bytes) => bytes.length + 1
  | .lit _ => 1
  | .nil => 1
  | .ptr d => uptoBulk d + 1
  | .slice elems spare => uptoBulkAll elems + uptoBulkAll spare + 1
  | .agg parts => uptoBulkAll parts + 1
  | .iface _ d => uptoBulk d + 1
  | .map entries => uptoBulkEntries entries + 1
  | .held _ => 1
def uptoBulkAll {H : Type} : List (DataW H) → Nat
  | [] => 0
  | d :: r => uptoBulk d + uptoBulkAll r
def uptoBulkEntries {H : Type} : List (Lit × DataW H) → Nat
  | [] => 0
  | x :: r => uptoBulkEntry x + uptoBulkEntries r
def uptoBulkEntry {H : Type} : Lit × DataW H → Nat
  | (.string bytes, d) => bytes.length + uptoBulk d + 1
  | (_, d) => uptoBulk d + 1
 end
def uptoSmall : (H : Type) → List (DataW H) → Bool := fun _ ds => decide (uptoBulkAll ds ≤ 1048576)
def OpenSpec.upto (s : _root_.Go.ChangeSpec) : _root_.Go.OpenSpec := { _root_.Go.OpenSpec.ofChange s with cond := some uptoSmall }

/-- 'lockorderlaw15.FlowChange', WHERE WHAT IT READS IS OF BULK AT MOST 1048576: true; the input reads as it did. -/
def flowChangeUptoRow : OpenClaim := { program := "ytbmaijdkebjnhaa", sum := "d386cfc068a3b22fb8966e83f450e90cb2947acfb2af39077a9fcf99347b26cf", func := "lockorder/lockorderlaw15.FlowChange", spec := "flowChange", unfollowed := true, recurses := true, apart := false, narrowed := true }
def FlowChangeUptoSaid : Prop := flowChangeUptoRow.holds Try.pinned (OpenSpec.upto flowChangeSpec)

/-- 'lockorderlaw15.FlowNext', WHERE WHAT IT READS IS OF BULK AT MOST 1048576: true; the input reads as it did. -/
def flowNextUptoRow : OpenClaim := { program := "ytbmaijdkebjnhaa", sum := "d386cfc068a3b22fb8966e83f450e90cb2947acfb2af39077a9fcf99347b26cf", func := "lockorder/lockorderlaw15.FlowNext", spec := "flowNext", unfollowed := true, recurses := true, apart := false, narrowed := true }
def FlowNextUptoSaid : Prop := flowNextUptoRow.holds Try.pinned (OpenSpec.upto flowNextSpec)

/-- 'lockorderlaw15.FlowOne', WHERE WHAT IT READS IS OF BULK AT MOST 1048576: true; the input reads as it did. -/
def flowOneUptoRow : OpenClaim := { program := "ytbmaijdkebjnhaa", sum := "d386cfc068a3b22fb8966e83f450e90cb2947acfb2af39077a9fcf99347b26cf", func := "lockorder/lockorderlaw15.FlowOne", spec := "flowOne", unfollowed := true, recurses := true, apart := false, narrowed := true }
def FlowOneUptoSaid : Prop := flowOneUptoRow.holds Try.pinned (OpenSpec.upto flowOneSpec)

/-- 'lockorderlaw15.FlowInside', WHERE WHAT IT READS IS OF BULK AT MOST 1048576: true; the input reads as it did. -/
def flowInsideUptoRow : OpenClaim := { program := "ytbmaijdkebjnhaa", sum := "d386cfc068a3b22fb8966e83f450e90cb2947acfb2af39077a9fcf99347b26cf", func := "lockorder/lockorderlaw15.FlowInside", spec := "flowInside", unfollowed := true, recurses := true, apart := false, narrowed := true }
def FlowInsideUptoSaid : Prop := flowInsideUptoRow.holds Try.pinned (OpenSpec.upto flowInsideSpec)

/-- 'lockorderlaw15.FlowInstances', WHERE WHAT IT READS IS OF BULK AT MOST 1048576: true; the input reads as it did. -/
def flowInstancesUptoRow : OpenClaim := { program := "ytbmaijdkebjnhaa", sum := "d386cfc068a3b22fb8966e83f450e90cb2947acfb2af39077a9fcf99347b26cf", func := "lockorder/lockorderlaw15.FlowInstances", spec := "flowInstances", unfollowed := true, recurses := true, apart := false, narrowed := true }
def FlowInstancesUptoSaid : Prop := flowInstancesUptoRow.holds Try.pinned (OpenSpec.upto flowInstancesSpec)

/-- 'lockorderlaw18.ModelSame', WHERE WHAT IT READS IS OF BULK AT MOST 1048576: true; the input reads as it did. -/
def modelSameUptoRow : OpenClaim := { program := "ytbmaijdkebjnhaa", sum := "d386cfc068a3b22fb8966e83f450e90cb2947acfb2af39077a9fcf99347b26cf", func := "lockorder/lockorderlaw18.ModelSame", spec := "modelSame", unfollowed := true, recurses := true, apart := false, narrowed := true }
def ModelSameUptoSaid : Prop := modelSameUptoRow.holds Try.pinned (OpenSpec.upto modelSameSpec)

end Rows
end Go.Proofs.Ytbmaijdkebjnhaa
