/-
  No cell of these rows narrows 'for every input' (looked for: loops, veiled, ifaces, maps, wideKeys, modest, calm, conditions, laid).
  DERIVED. THE GIVEN ROWS OF THIS SEAT. 12 by the template 'for every input the law returns true; each argument reads behind the call as it read before'; 0 by the template 'total and deterministic' (their statements: YtonbocmibeikmaaGreatTotals.lean).
  GIVEN WITH THE SEED: the statements are not yours to turn. If you find one false, say at which input.
  Laid BY PROGRAM, IN A SANDBOX (cutbox-rows.mjs): the forced cells as the released guide's own fill.sh prints them over the translation ec24a3fcc044b4d8… (all of the seat's roots in one cut). By AI agents, Wed Nov 11 2026. No macro, syntax, notation, axiom, sorry.
-/
import Derived.Test.YtonbocmibeikmaaGreatChecked
import GoSem.Claim
import GoSem.ClaimJoined
import GoSem.ClaimMapViews
import Derived.JoinedTies
import Derived.KernelRfl
namespace Go.Proofs.YtonbocmibeikmaaGreat
/- THE CELL 'sum', in the pinned program and in every row, IS THE sha256 OF THE DUMP (.gsa) THAT YtonbocmibeikmaaGreatProg.lean LOADS. Nothing in Lean hashes anything: it is a label: what it is worth is what the hold of that sum in a sandbox is worth. -/
noncomputable def Tryz.pinned : Pinned := { name := "ytonbocmibeikmaagreat", sum := "ec24a3fcc044b4d846dbdf86f115e4fd31e4292aabba790c597e8f9cbdf589b1", checked := Tryz.checked }
namespace Rows
def none {H : Type} : Left H := { results := [], args := [] }

/-- 'lockorderlaw17.ReachMay': WHATEVER THE INPUT: true; the input reads as it did. -/
def reachMaySpec : ChangeSpec := { name := "reachMay", fn := fun _ => fun
  | [d1, d2, d3, d4] => { results := [.lit (.bool true)], args := [d1, d2, d3, d4] }
  | _ => none }
def reachMayRow : OpenClaim := { program := "ytonbocmibeikmaagreat", sum := "ec24a3fcc044b4d846dbdf86f115e4fd31e4292aabba790c597e8f9cbdf589b1", func := "lockorder/lockorderlaw17.ReachMay", spec := "reachMay", unfollowed := true, recurses := true, apart := false }
def ReachMaySaid : Prop := reachMayRow.holds Tryz.pinned (OpenSpec.ofChange reachMaySpec)

/-- ITS FALSE NEIGHBOUR: 'it returns false'. Refute it at one input. -/
def reachMayWrong : ChangeSpec := { name := "reachMay", fn := fun _ => fun
  | [d1, d2, d3, d4] => { results := [.lit (.bool false)], args := [d1, d2, d3, d4] }
  | _ => none }
def ReachMayWrongFalsely : Prop := reachMayRow.holds Tryz.pinned (OpenSpec.ofChange reachMayWrong)

/-- 'lockorderlaw17.ReachSteps': WHATEVER THE INPUT: true; the input reads as it did. -/
def reachStepsSpec : ChangeSpec := { name := "reachSteps", fn := fun _ => fun
  | [d1, d2, d3, d4] => { results := [.lit (.bool true)], args := [d1, d2, d3, d4] }
  | _ => none }
def reachStepsRow : OpenClaim := { program := "ytonbocmibeikmaagreat", sum := "ec24a3fcc044b4d846dbdf86f115e4fd31e4292aabba790c597e8f9cbdf589b1", func := "lockorder/lockorderlaw17.ReachSteps", spec := "reachSteps", unfollowed := true, recurses := true, apart := false }
def ReachStepsSaid : Prop := reachStepsRow.holds Tryz.pinned (OpenSpec.ofChange reachStepsSpec)

/-- ITS FALSE NEIGHBOUR: 'it returns false'. Refute it at one input. -/
def reachStepsWrong : ChangeSpec := { name := "reachSteps", fn := fun _ => fun
  | [d1, d2, d3, d4] => { results := [.lit (.bool false)], args := [d1, d2, d3, d4] }
  | _ => none }
def ReachStepsWrongFalsely : Prop := reachStepsRow.holds Tryz.pinned (OpenSpec.ofChange reachStepsWrong)

/-- 'lockorderlaw17.ReachCalls': WHATEVER THE INPUT: true; the input reads as it did. -/
def reachCallsSpec : ChangeSpec := { name := "reachCalls", fn := fun _ => fun
  | [d1, d2, d3] => { results := [.lit (.bool true)], args := [d1, d2, d3] }
  | _ => none }
def reachCallsRow : OpenClaim := { program := "ytonbocmibeikmaagreat", sum := "ec24a3fcc044b4d846dbdf86f115e4fd31e4292aabba790c597e8f9cbdf589b1", func := "lockorder/lockorderlaw17.ReachCalls", spec := "reachCalls", unfollowed := true, recurses := true, apart := false }
def ReachCallsSaid : Prop := reachCallsRow.holds Tryz.pinned (OpenSpec.ofChange reachCallsSpec)

/-- ITS FALSE NEIGHBOUR: 'it returns false'. Refute it at one input. -/
def reachCallsWrong : ChangeSpec := { name := "reachCalls", fn := fun _ => fun
  | [d1, d2, d3] => { results := [.lit (.bool false)], args := [d1, d2, d3] }
  | _ => none }
def ReachCallsWrongFalsely : Prop := reachCallsRow.holds Tryz.pinned (OpenSpec.ofChange reachCallsWrong)

/-- 'lockorderlaw17.ReachCap': WHATEVER THE INPUT: true; the input reads as it did. -/
def reachCapSpec : ChangeSpec := { name := "reachCap", fn := fun _ => fun
  | [d1, d2, d3, d4] => { results := [.lit (.bool true)], args := [d1, d2, d3, d4] }
  | _ => none }
def reachCapRow : OpenClaim := { program := "ytonbocmibeikmaagreat", sum := "ec24a3fcc044b4d846dbdf86f115e4fd31e4292aabba790c597e8f9cbdf589b1", func := "lockorder/lockorderlaw17.ReachCap", spec := "reachCap", unfollowed := true, recurses := true, apart := false }
def ReachCapSaid : Prop := reachCapRow.holds Tryz.pinned (OpenSpec.ofChange reachCapSpec)

/-- ITS FALSE NEIGHBOUR: 'it returns false'. Refute it at one input. -/
def reachCapWrong : ChangeSpec := { name := "reachCap", fn := fun _ => fun
  | [d1, d2, d3, d4] => { results := [.lit (.bool false)], args := [d1, d2, d3, d4] }
  | _ => none }
def ReachCapWrongFalsely : Prop := reachCapRow.holds Tryz.pinned (OpenSpec.ofChange reachCapWrong)

/-- 'lockorderlaw17.ReachBefore': WHATEVER THE INPUT: true; the input reads as it did. -/
def reachBeforeSpec : ChangeSpec := { name := "reachBefore", fn := fun _ => fun
  | [d1, d2] => { results := [.lit (.bool true)], args := [d1, d2] }
  | _ => none }
def reachBeforeRow : OpenClaim := { program := "ytonbocmibeikmaagreat", sum := "ec24a3fcc044b4d846dbdf86f115e4fd31e4292aabba790c597e8f9cbdf589b1", func := "lockorder/lockorderlaw17.ReachBefore", spec := "reachBefore", unfollowed := true, recurses := true, apart := false }
def ReachBeforeSaid : Prop := reachBeforeRow.holds Tryz.pinned (OpenSpec.ofChange reachBeforeSpec)

/-- ITS FALSE NEIGHBOUR: 'it returns false'. Refute it at one input. -/
def reachBeforeWrong : ChangeSpec := { name := "reachBefore", fn := fun _ => fun
  | [d1, d2] => { results := [.lit (.bool false)], args := [d1, d2] }
  | _ => none }
def ReachBeforeWrongFalsely : Prop := reachBeforeRow.holds Tryz.pinned (OpenSpec.ofChange reachBeforeWrong)

/-- 'lockorderlaw17.ReachExits': WHATEVER THE INPUT: true; the input reads as it did. -/
def reachExitsSpec : ChangeSpec := { name := "reachExits", fn := fun _ => fun
  | [d1, d2] => { results := [.lit (.bool true)], args := [d1, d2] }
  | _ => none }
def reachExitsRow : OpenClaim := { program := "ytonbocmibeikmaagreat", sum := "ec24a3fcc044b4d846dbdf86f115e4fd31e4292aabba790c597e8f9cbdf589b1", func := "lockorder/lockorderlaw17.ReachExits", spec := "reachExits", unfollowed := true, recurses := true, apart := false }
def ReachExitsSaid : Prop := reachExitsRow.holds Tryz.pinned (OpenSpec.ofChange reachExitsSpec)

/-- ITS FALSE NEIGHBOUR: 'it returns false'. Refute it at one input. -/
def reachExitsWrong : ChangeSpec := { name := "reachExits", fn := fun _ => fun
  | [d1, d2] => { results := [.lit (.bool false)], args := [d1, d2] }
  | _ => none }
def ReachExitsWrongFalsely : Prop := reachExitsRow.holds Tryz.pinned (OpenSpec.ofChange reachExitsWrong)

/-- 'lockorderlaw28.InvariantTables': WHATEVER THE INPUT: true; the input reads as it did. -/
def invariantTablesSpec : ChangeSpec := { name := "invariantTables", fn := fun _ => fun
  | [d1, d2] => { results := [.lit (.bool true)], args := [d1, d2] }
  | _ => none }
def invariantTablesRow : OpenClaim := { program := "ytonbocmibeikmaagreat", sum := "ec24a3fcc044b4d846dbdf86f115e4fd31e4292aabba790c597e8f9cbdf589b1", func := "lockorder/lockorderlaw28.InvariantTables", spec := "invariantTables", unfollowed := true, recurses := true, apart := false }
def InvariantTablesSaid : Prop := invariantTablesRow.holds Tryz.pinned (OpenSpec.ofChange invariantTablesSpec)

/-- ITS FALSE NEIGHBOUR: 'it returns false'. Refute it at one input. -/
def invariantTablesWrong : ChangeSpec := { name := "invariantTables", fn := fun _ => fun
  | [d1, d2] => { results := [.lit (.bool false)], args := [d1, d2] }
  | _ => none }
def InvariantTablesWrongFalsely : Prop := invariantTablesRow.holds Tryz.pinned (OpenSpec.ofChange invariantTablesWrong)

/-- 'lockorderlaw28.InvariantCheck': WHATEVER THE INPUT: true; the input reads as it did. -/
def invariantCheckSpec : ChangeSpec := { name := "invariantCheck", fn := fun _ => fun
  | [d1, d2, d3] => { results := [.lit (.bool true)], args := [d1, d2, d3] }
  | _ => none }
def invariantCheckRow : OpenClaim := { program := "ytonbocmibeikmaagreat", sum := "ec24a3fcc044b4d846dbdf86f115e4fd31e4292aabba790c597e8f9cbdf589b1", func := "lockorder/lockorderlaw28.InvariantCheck", spec := "invariantCheck", unfollowed := true, recurses := true, apart := false }
def InvariantCheckSaid : Prop := invariantCheckRow.holds Tryz.pinned (OpenSpec.ofChange invariantCheckSpec)

/-- ITS FALSE NEIGHBOUR: 'it returns false'. Refute it at one input. -/
def invariantCheckWrong : ChangeSpec := { name := "invariantCheck", fn := fun _ => fun
  | [d1, d2, d3] => { results := [.lit (.bool false)], args := [d1, d2, d3] }
  | _ => none }
def InvariantCheckWrongFalsely : Prop := invariantCheckRow.holds Tryz.pinned (OpenSpec.ofChange invariantCheckWrong)

/-- 'lockorderlaw28.InvariantRaw': WHATEVER THE INPUT: true; the input reads as it did. -/
def invariantRawSpec : ChangeSpec := { name := "invariantRaw", fn := fun _ => fun
  | [d1, d2, d3, d4, d5, d6, d7] => { results := [.lit (.bool true)], args := [d1, d2, d3, d4, d5, d6, d7] }
  | _ => none }
def invariantRawRow : OpenClaim := { program := "ytonbocmibeikmaagreat", sum := "ec24a3fcc044b4d846dbdf86f115e4fd31e4292aabba790c597e8f9cbdf589b1", func := "lockorder/lockorderlaw28.InvariantRaw", spec := "invariantRaw", unfollowed := true, recurses := true, apart := false }
def InvariantRawSaid : Prop := invariantRawRow.holds Tryz.pinned (OpenSpec.ofChange invariantRawSpec)

/-- ITS FALSE NEIGHBOUR: 'it returns false'. Refute it at one input. -/
def invariantRawWrong : ChangeSpec := { name := "invariantRaw", fn := fun _ => fun
  | [d1, d2, d3, d4, d5, d6, d7] => { results := [.lit (.bool false)], args := [d1, d2, d3, d4, d5, d6, d7] }
  | _ => none }
def InvariantRawWrongFalsely : Prop := invariantRawRow.holds Tryz.pinned (OpenSpec.ofChange invariantRawWrong)

/-- 'lockorderlaw28.InvariantSound': WHATEVER THE INPUT: true; the input reads as it did. -/
def invariantSoundSpec : ChangeSpec := { name := "invariantSound", fn := fun _ => fun
  | [d1, d2, d3, d4] => { results := [.lit (.bool true)], args := [d1, d2, d3, d4] }
  | _ => none }
def invariantSoundRow : OpenClaim := { program := "ytonbocmibeikmaagreat", sum := "ec24a3fcc044b4d846dbdf86f115e4fd31e4292aabba790c597e8f9cbdf589b1", func := "lockorder/lockorderlaw28.InvariantSound", spec := "invariantSound", unfollowed := true, recurses := true, apart := false }
def InvariantSoundSaid : Prop := invariantSoundRow.holds Tryz.pinned (OpenSpec.ofChange invariantSoundSpec)

/-- ITS FALSE NEIGHBOUR: 'it returns false'. Refute it at one input. -/
def invariantSoundWrong : ChangeSpec := { name := "invariantSound", fn := fun _ => fun
  | [d1, d2, d3, d4] => { results := [.lit (.bool false)], args := [d1, d2, d3, d4] }
  | _ => none }
def InvariantSoundWrongFalsely : Prop := invariantSoundRow.holds Tryz.pinned (OpenSpec.ofChange invariantSoundWrong)

/-- 'lockorderlaw28.InvariantDepths': WHATEVER THE INPUT: true; the input reads as it did. -/
def invariantDepthsSpec : ChangeSpec := { name := "invariantDepths", fn := fun _ => fun
  | [d1, d2, d3, d4, d5, d6] => { results := [.lit (.bool true)], args := [d1, d2, d3, d4, d5, d6] }
  | _ => none }
def invariantDepthsRow : OpenClaim := { program := "ytonbocmibeikmaagreat", sum := "ec24a3fcc044b4d846dbdf86f115e4fd31e4292aabba790c597e8f9cbdf589b1", func := "lockorder/lockorderlaw28.InvariantDepths", spec := "invariantDepths", unfollowed := true, recurses := true, apart := false }
def InvariantDepthsSaid : Prop := invariantDepthsRow.holds Tryz.pinned (OpenSpec.ofChange invariantDepthsSpec)

/-- ITS FALSE NEIGHBOUR: 'it returns false'. Refute it at one input. -/
def invariantDepthsWrong : ChangeSpec := { name := "invariantDepths", fn := fun _ => fun
  | [d1, d2, d3, d4, d5, d6] => { results := [.lit (.bool false)], args := [d1, d2, d3, d4, d5, d6] }
  | _ => none }
def InvariantDepthsWrongFalsely : Prop := invariantDepthsRow.holds Tryz.pinned (OpenSpec.ofChange invariantDepthsWrong)

/-- 'lockorderlaw18.ModelCovered': WHATEVER THE INPUT: true; the input reads as it did. -/
def modelCoveredSpec : ChangeSpec := { name := "modelCovered", fn := fun _ => fun
  | [d1, d2, d3, d4] => { results := [.lit (.bool true)], args := [d1, d2, d3, d4] }
  | _ => none }
def modelCoveredRow : OpenClaim := { program := "ytonbocmibeikmaagreat", sum := "ec24a3fcc044b4d846dbdf86f115e4fd31e4292aabba790c597e8f9cbdf589b1", func := "lockorder/lockorderlaw18.ModelCovered", spec := "modelCovered", unfollowed := true, recurses := true, apart := false }
def ModelCoveredSaid : Prop := modelCoveredRow.holds Tryz.pinned (OpenSpec.ofChange modelCoveredSpec)

/-- ITS FALSE NEIGHBOUR: 'it returns false'. Refute it at one input. -/
def modelCoveredWrong : ChangeSpec := { name := "modelCovered", fn := fun _ => fun
  | [d1, d2, d3, d4] => { results := [.lit (.bool false)], args := [d1, d2, d3, d4] }
  | _ => none }
def ModelCoveredWrongFalsely : Prop := modelCoveredRow.holds Tryz.pinned (OpenSpec.ofChange modelCoveredWrong)

/- THE SECOND FORM. 'bulk': how many values and letters a reading holds, each counted each time it is reached (what is shared counts as often as it is met; a slice's spare places count too). A statement '..UptoSaid' is the law's where the arguments, and the package variables that the reading takes, are together of bulk at most 1048576: NARROWER than '..Said'. Prove '..Said' where nothing that the law and all that it calls make is longer than what came in: it says more and counts as full. Else prove '..UptoSaid'. A law counts once. -/
mutual
def uptoBulk {H : Type} : DataW H → Nat
  | .lit (.string bytes) => bytes.length + 1
  | .lit _ => 1
  | .nil => 1
  | .ptr d => uptoBulk d + 1
  | .slice elems spare => uptoBulkAll elems + uptoBulkAll spare + 1
  | .agg parts => uptoBulkAll parts + 1
  | .iface _ d => uptoBulk d + 1
  | .map entries => uptoBulkEntries entries + 1
  | .held _ => 1
def uptoBulkAll {H : Type} : List (DataW H) → Nat
  | [] => 0
  | d :: r => uptoBulk d + uptoBulkAll r
def uptoBulkEntries {H : Type} : List (Lit × DataW H) → Nat
  | [] => 0
  | x :: r => uptoBulkEntry x + uptoBulkEntries r
def uptoBulkEntry {H : Type} : Lit × DataW H → Nat
  | (.string bytes, d) => bytes.length + uptoBulk d + 1
  | (_, d) => uptoBulk d + 1
 end
def uptoSmall : (H : Type) → List (DataW H) → Bool := fun _ ds => decide (uptoBulkAll ds ≤ 1048576)
def OpenSpec.upto (s : _root_.Go.ChangeSpec) : _root_.Go.OpenSpec := { _root_.Go.OpenSpec.ofChange s with cond := some uptoSmall }

/-- 'lockorderlaw17.ReachMay', WHERE WHAT IT READS IS OF BULK AT MOST 1048576: true; the input reads as it did. -/
def reachMayUptoRow : OpenClaim := { program := "ytonbocmibeikmaagreat", sum := "ec24a3fcc044b4d846dbdf86f115e4fd31e4292aabba790c597e8f9cbdf589b1", func := "lockorder/lockorderlaw17.ReachMay", spec := "reachMay", unfollowed := true, recurses := true, apart := false, narrowed := true }
def ReachMayUptoSaid : Prop := reachMayUptoRow.holds Tryz.pinned (OpenSpec.upto reachMaySpec)

/-- 'lockorderlaw17.ReachSteps', WHERE WHAT IT READS IS OF BULK AT MOST 1048576: true; the input reads as it did. -/
def reachStepsUptoRow : OpenClaim := { program := "ytonbocmibeikmaagreat", sum := "ec24a3fcc044b4d846dbdf86f115e4fd31e4292aabba790c597e8f9cbdf589b1", func := "lockorder/lockorderlaw17.ReachSteps", spec := "reachSteps", unfollowed := true, recurses := true, apart := false, narrowed := true }
def ReachStepsUptoSaid : Prop := reachStepsUptoRow.holds Tryz.pinned (OpenSpec.upto reachStepsSpec)

/-- 'lockorderlaw17.ReachCalls', WHERE WHAT IT READS IS OF BULK AT MOST 1048576: true; the input reads as it did. -/
def reachCallsUptoRow : OpenClaim := { program := "ytonbocmibeikmaagreat", sum := "ec24a3fcc044b4d846dbdf86f115e4fd31e4292aabba790c597e8f9cbdf589b1", func := "lockorder/lockorderlaw17.ReachCalls", spec := "reachCalls", unfollowed := true, recurses := true, apart := false, narrowed := true }
def ReachCallsUptoSaid : Prop := reachCallsUptoRow.holds Tryz.pinned (OpenSpec.upto reachCallsSpec)

/-- 'lockorderlaw17.ReachCap', WHERE WHAT IT READS IS OF BULK AT MOST 1048576: true; the input reads as it did. -/
def reachCapUptoRow : OpenClaim := { program := "ytonbocmibeikmaagreat", sum := "ec24a3fcc044b4d846dbdf86f115e4fd31e4292aabba790c597e8f9cbdf589b1", func := "lockorder/lockorderlaw17.ReachCap", spec := "reachCap", unfollowed := true, recurses := true, apart := false, narrowed := true }
def ReachCapUptoSaid : Prop := reachCapUptoRow.holds Tryz.pinned (OpenSpec.upto reachCapSpec)

/-- 'lockorderlaw17.ReachBefore', WHERE WHAT IT READS IS OF BULK AT MOST 1048576: true; the input reads as it did. -/
def reachBeforeUptoRow : OpenClaim := { program := "ytonbocmibeikmaagreat", sum := "ec24a3fcc044b4d846dbdf86f115e4fd31e4292aabba790c597e8f9cbdf589b1", func := "lockorder/lockorderlaw17.ReachBefore", spec := "reachBefore", unfollowed := true, recurses := true, apart := false, narrowed := true }
def ReachBeforeUptoSaid : Prop := reachBeforeUptoRow.holds Tryz.pinned (OpenSpec.upto reachBeforeSpec)

/-- 'lockorderlaw17.ReachExits', WHERE WHAT IT READS IS OF BULK AT MOST 1048576: true; the input reads as it did. -/
def reachExitsUptoRow : OpenClaim := { program := "ytonbocmibeikmaagreat", sum := "ec24a3fcc044b4d846dbdf86f115e4fd31e4292aabba790c597e8f9cbdf589b1", func := "lockorder/lockorderlaw17.ReachExits", spec := "reachExits", unfollowed := true, recurses := true, apart := false, narrowed := true }
def ReachExitsUptoSaid : Prop := reachExitsUptoRow.holds Tryz.pinned (OpenSpec.upto reachExitsSpec)

/-- 'lockorderlaw28.InvariantTables', WHERE WHAT IT READS IS OF BULK AT MOST 1048576: true; the input reads as it did. -/
def invariantTablesUptoRow : OpenClaim := { program := "ytonbocmibeikmaagreat", sum := "ec24a3fcc044b4d846dbdf86f115e4fd31e4292aabba790c597e8f9cbdf589b1", func := "lockorder/lockorderlaw28.InvariantTables", spec := "invariantTables", unfollowed := true, recurses := true, apart := false, narrowed := true }
def InvariantTablesUptoSaid : Prop := invariantTablesUptoRow.holds Tryz.pinned (OpenSpec.upto invariantTablesSpec)

/-- 'lockorderlaw28.InvariantCheck', WHERE WHAT IT READS IS OF BULK AT MOST 1048576: true; the input reads as it did. -/
def invariantCheckUptoRow : OpenClaim := { program := "ytonbocmibeikmaagreat", sum := "ec24a3fcc044b4d846dbdf86f115e4fd31e4292aabba790c597e8f9cbdf589b1", func := "lockorder/lockorderlaw28.InvariantCheck", spec := "invariantCheck", unfollowed := true, recurses := true, apart := false, narrowed := true }
def InvariantCheckUptoSaid : Prop := invariantCheckUptoRow.holds Tryz.pinned (OpenSpec.upto invariantCheckSpec)

/-- 'lockorderlaw28.InvariantRaw', WHERE WHAT IT READS IS OF BULK AT MOST 1048576: true; the input reads as it did. -/
def invariantRawUptoRow : OpenClaim := { program := "ytonbocmibeikmaagreat", sum := "ec24a3fcc044b4d846dbdf86f115e4fd31e4292aabba790c597e8f9cbdf589b1", func := "lockorder/lockorderlaw28.InvariantRaw", spec := "invariantRaw", unfollowed := true, recurses := true, apart := false, narrowed := true }
def InvariantRawUptoSaid : Prop := invariantRawUptoRow.holds Tryz.pinned (OpenSpec.upto invariantRawSpec)

/-- 'lockorderlaw28.InvariantSound', WHERE WHAT IT READS IS OF BULK AT MOST 1048576: true; the input reads as it did. -/
def invariantSoundUptoRow : OpenClaim := { program := "ytonbocmibeikmaagreat", sum := "ec24a3fcc044b4d846dbdf86f115e4fd31e4292aabba790c597e8f9cbdf589b1", func := "lockorder/lockorderlaw28.InvariantSound", spec := "invariantSound", unfollowed := true, recurses := true, apart := false, narrowed := true }
def InvariantSoundUptoSaid : Prop := invariantSoundUptoRow.holds Tryz.pinned (OpenSpec.upto invariantSoundSpec)

/-- 'lockorderlaw28.InvariantDepths', WHERE WHAT IT READS IS OF BULK AT MOST 1048576: true; the input reads as it did. -/
def invariantDepthsUptoRow : OpenClaim := { program := "ytonbocmibeikmaagreat", sum := "ec24a3fcc044b4d846dbdf86f115e4fd31e4292aabba790c597e8f9cbdf589b1", func := "lockorder/lockorderlaw28.InvariantDepths", spec := "invariantDepths", unfollowed := true, recurses := true, apart := false, narrowed := true }
def InvariantDepthsUptoSaid : Prop := invariantDepthsUptoRow.holds Tryz.pinned (OpenSpec.upto invariantDepthsSpec)

/-- 'lockorderlaw18.ModelCovered', WHERE WHAT IT READS IS OF BULK AT MOST 1048576: true; the input reads as it did. -/
def modelCoveredUptoRow : OpenClaim := { program := "ytonbocmibeikmaagreat", sum := "ec24a3fcc044b4d846dbdf86f115e4fd31e4292aabba790c597e8f9cbdf589b1", func := "lockorder/lockorderlaw18.ModelCovered", spec := "modelCovered", unfollowed := true, recurses := true, apart := false, narrowed := true }
def ModelCoveredUptoSaid : Prop := modelCoveredUptoRow.holds Tryz.pinned (OpenSpec.upto modelCoveredSpec)

end Rows
end Go.Proofs.YtonbocmibeikmaaGreat
