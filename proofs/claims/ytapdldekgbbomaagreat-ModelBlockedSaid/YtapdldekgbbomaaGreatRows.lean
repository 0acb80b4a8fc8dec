/-
  No cell of these rows narrows 'for every input' (looked for: loops, veiled, ifaces, maps, wideKeys, modest, calm, conditions, laid).
  DERIVED. THE GIVEN ROWS OF THIS SEAT. 4 by the template 'for every input the law returns true; each argument reads behind the call as it read before'; 0 by the template 'total and deterministic' (their statements: YtapdldekgbbomaaGreatTotals.lean).
  GIVEN WITH THE SEED: the statements are not yours to turn. If you find one false, say at which input.
  Laid BY PROGRAM, IN A SANDBOX (cutbox-rows.mjs): the forced cells as the released guide's own fill.sh prints them over the translation 5d22c8e6f5fdd959… (all of the seat's roots in one cut). By AI agents, Wed Nov 11 2026. No macro, syntax, notation, axiom, sorry.
-/
import Derived.Test.YtapdldekgbbomaaGreatChecked
import GoSem.Claim
import GoSem.ClaimJoined
import GoSem.ClaimMapViews
import Derived.JoinedTies
import Derived.KernelRfl
namespace Go.Proofs.YtapdldekgbbomaaGreat
/- THE CELL 'sum', in the pinned program and in every row, IS THE sha256 OF THE DUMP (.gsa) THAT YtapdldekgbbomaaGreatProg.lean LOADS. Nothing in Lean hashes anything: it is a label: what it is worth is what the hold of that sum in a sandbox is worth. -/
noncomputable def Tryz.pinned : Pinned := { name := "ytapdldekgbbomaagreat", sum := "5d22c8e6f5fdd959800232978fcf04e41a7d049bea5e0f4437d55ba31b1bd294", checked := Tryz.checked }
namespace Rows
def none {H : Type} : Left H := { results := [], args := [] }

/-- 'lockorderlaw18.ModelVisit': WHATEVER THE INPUT: true; the input reads as it did. -/
def modelVisitSpec : ChangeSpec := { name := "modelVisit", fn := fun _ => fun
  | [d1, d2, d3, d4, d5] => { results := [.lit (.bool true)], args := [d1, d2, d3, d4, d5] }
  | _ => none }
def modelVisitRow : OpenClaim := { program := "ytapdldekgbbomaagreat", sum := "5d22c8e6f5fdd959800232978fcf04e41a7d049bea5e0f4437d55ba31b1bd294", func := "lockorder/lockorderlaw18.ModelVisit", spec := "modelVisit", unfollowed := true, recurses := true, apart := false }
def ModelVisitSaid : Prop := modelVisitRow.holds Tryz.pinned (OpenSpec.ofChange modelVisitSpec)

/-- ITS FALSE NEIGHBOUR: 'it returns false'. Refute it at one input. -/
def modelVisitWrong : ChangeSpec := { name := "modelVisit", fn := fun _ => fun
  | [d1, d2, d3, d4, d5] => { results := [.lit (.bool false)], args := [d1, d2, d3, d4, d5] }
  | _ => none }
def ModelVisitWrongFalsely : Prop := modelVisitRow.holds Tryz.pinned (OpenSpec.ofChange modelVisitWrong)

/-- 'lockorderlaw18.ModelSteps': WHATEVER THE INPUT: true; the input reads as it did. -/
def modelStepsSpec : ChangeSpec := { name := "modelSteps", fn := fun _ => fun
  | [d1, d2, d3, d4] => { results := [.lit (.bool true)], args := [d1, d2, d3, d4] }
  | _ => none }
def modelStepsRow : OpenClaim := { program := "ytapdldekgbbomaagreat", sum := "5d22c8e6f5fdd959800232978fcf04e41a7d049bea5e0f4437d55ba31b1bd294", func := "lockorder/lockorderlaw18.ModelSteps", spec := "modelSteps", unfollowed := true, recurses := true, apart := false }
def ModelStepsSaid : Prop := modelStepsRow.holds Tryz.pinned (OpenSpec.ofChange modelStepsSpec)

/-- ITS FALSE NEIGHBOUR: 'it returns false'. Refute it at one input. -/
def modelStepsWrong : ChangeSpec := { name := "modelSteps", fn := fun _ => fun
  | [d1, d2, d3, d4] => { results := [.lit (.bool false)], args := [d1, d2, d3, d4] }
  | _ => none }
def ModelStepsWrongFalsely : Prop := modelStepsRow.holds Tryz.pinned (OpenSpec.ofChange modelStepsWrong)

/-- 'lockorderlaw18.ModelMatched': WHATEVER THE INPUT: true; the input reads as it did. -/
def modelMatchedSpec : ChangeSpec := { name := "modelMatched", fn := fun _ => fun
  | [d1, d2, d3] => { results := [.lit (.bool true)], args := [d1, d2, d3] }
  | _ => none }
def modelMatchedRow : OpenClaim := { program := "ytapdldekgbbomaagreat", sum := "5d22c8e6f5fdd959800232978fcf04e41a7d049bea5e0f4437d55ba31b1bd294", func := "lockorder/lockorderlaw18.ModelMatched", spec := "modelMatched", unfollowed := true, recurses := true, apart := false }
def ModelMatchedSaid : Prop := modelMatchedRow.holds Tryz.pinned (OpenSpec.ofChange modelMatchedSpec)

/-- ITS FALSE NEIGHBOUR: 'it returns false'. Refute it at one input. -/
def modelMatchedWrong : ChangeSpec := { name := "modelMatched", fn := fun _ => fun
  | [d1, d2, d3] => { results := [.lit (.bool false)], args := [d1, d2, d3] }
  | _ => none }
def ModelMatchedWrongFalsely : Prop := modelMatchedRow.holds Tryz.pinned (OpenSpec.ofChange modelMatchedWrong)

/-- 'lockorderlaw18.ModelBlocked': WHATEVER THE INPUT: true; the input reads as it did. -/
def modelBlockedSpec : ChangeSpec := { name := "modelBlocked", fn := fun _ => fun
  | [d1, d2, d3] => { results := [.lit (.bool true)], args := [d1, d2, d3] }
  | _ => none }
def modelBlockedRow : OpenClaim := { program := "ytapdldekgbbomaagreat", sum := "5d22c8e6f5fdd959800232978fcf04e41a7d049bea5e0f4437d55ba31b1bd294", func := "lockorder/lockorderlaw18.ModelBlocked", spec := "modelBlocked", unfollowed := true, recurses := true, apart := false }
def ModelBlockedSaid : Prop := modelBlockedRow.holds Tryz.pinned (OpenSpec.ofChange modelBlockedSpec)

/-- ITS FALSE NEIGHBOUR: 'it returns false'. Refute it at one input. -/
def modelBlockedWrong : ChangeSpec := { name := "modelBlocked", fn := fun _ => fun
  | [d1, d2, d3] => { results := [.lit (.bool false)], args := [d1, d2, d3] }
  | _ => none }
def ModelBlockedWrongFalsely : Prop := modelBlockedRow.holds Tryz.pinned (OpenSpec.ofChange modelBlockedWrong)

/- THE SECOND FORM. 'bulk': how many values and letters a reading holds, each counted each time it is reached (what is shared counts as often as it is met; a slice's spare places count too). A statement '..UptoSaid' is the law's where the arguments, and the package variables that the reading takes, are together of bulk at most 1048576: NARROWER than '..Said'. Prove '..Said' where nothing that the law and all that it calls make is longer than what came in: it says more and counts as full. Else prove '..UptoSaid'. A law counts once. -/
mutual
def uptoBulk {H : Type} : DataW H → Nat
  | .lit (.string bytes) => bytes.length + 1
  | .lit _ => 1
  | .nil => 1
  | .ptr d => uptoBulk d + 1
  | .slice elems spare => uptoBulkAll elems + uptoBulkAll spare + 1
  | .agg parts => uptoBulkAll parts + 1
  | .iface _ d => uptoBulk d + 1
  | .map entries => uptoBulkEntries entries + 1
  | .held _ => 1
def uptoBulkAll {H : Type} : List (DataW H) → Nat
  | [] => 0
  | d :: r => uptoBulk d + uptoBulkAll r
def uptoBulkEntries {H : Type} : List (Lit × DataW H) → Nat
  | [] => 0
  | x :: r => uptoBulkEntry x + uptoBulkEntries r
def uptoBulkEntry {H : Type} : Lit × DataW H → Nat
  | (.string bytes, d) => bytes.length + uptoBulk d + 1
  | (_, d) => uptoBulk d + 1
 end
def uptoSmall : (H : Type) → List (DataW H) → Bool := fun _ ds => decide (uptoBulkAll ds ≤ 1048576)
def OpenSpec.upto (s : _root_.Go.ChangeSpec) : _root_.Go.OpenSpec := { _root_.Go.OpenSpec.ofChange s with cond := some uptoSmall }

/-- 'lockorderlaw18.ModelVisit', WHERE WHAT IT READS IS OF BULK AT MOST 1048576: true; the input reads as it did. -/
def modelVisitUptoRow : OpenClaim := { program := "ytapdldekgbbomaagreat", sum := "5d22c8e6f5fdd959800232978fcf04e41a7d049bea5e0f4437d55ba31b1bd294", func := "lockorder/lockorderlaw18.ModelVisit", spec := "modelVisit", unfollowed := true, recurses := true, apart := false, narrowed := true }
def ModelVisitUptoSaid : Prop := modelVisitUptoRow.holds Tryz.pinned (OpenSpec.upto modelVisitSpec)

/-- 'lockorderlaw18.ModelSteps', WHERE WHAT IT READS IS OF BULK AT MOST 1048576: true; the input reads as it did. -/
def modelStepsUptoRow : OpenClaim := { program := "ytapdldekgbbomaagreat", sum := "5d22c8e6f5fdd959800232978fcf04e41a7d049bea5e0f4437d55ba31b1bd294", func := "lockorder/lockorderlaw18.ModelSteps", spec := "modelSteps", unfollowed := true, recurses := true, apart := false, narrowed := true }
def ModelStepsUptoSaid : Prop := modelStepsUptoRow.holds Tryz.pinned (OpenSpec.upto modelStepsSpec)

/-- 'lockorderlaw18.ModelMatched', WHERE WHAT IT READS IS OF BULK AT MOST 1048576: true; the input reads as it did. -/
def modelMatchedUptoRow : OpenClaim := { program := "ytapdldekgbbomaagreat", sum := "5d22c8e6f5fdd959800232978fcf04e41a7d049bea5e0f4437d55ba31b1bd294", func := "lockorder/lockorderlaw18.ModelMatched", spec := "modelMatched", unfollowed := true, recurses := true, apart := false, narrowed := true }
def ModelMatchedUptoSaid : Prop := modelMatchedUptoRow.holds Tryz.pinned (OpenSpec.upto modelMatchedSpec)

/-- 'lockorderlaw18.ModelBlocked', WHERE WHAT IT READS IS OF BULK AT MOST 1048576: true; the input reads as it did. -/
def modelBlockedUptoRow : OpenClaim := { program := "ytapdldekgbbomaagreat", sum := "5d22c8e6f5fdd959800232978fcf04e41a7d049bea5e0f4437d55ba31b1bd294", func := "lockorder/lockorderlaw18.ModelBlocked", spec := "modelBlocked", unfollowed := true, recurses := true, apart := false, narrowed := true }
def ModelBlockedUptoSaid : Prop := modelBlockedUptoRow.holds Tryz.pinned (OpenSpec.upto modelBlockedSpec)

end Rows
end Go.Proofs.YtapdldekgbbomaaGreat
