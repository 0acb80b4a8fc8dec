/-
  No cell of these rows narrows 'for every input' (looked for: loops, veiled, ifaces, maps, wideKeys, modest, calm, conditions, laid).
  DERIVED. THE GIVEN ROWS OF THIS SEAT. 7 by the template 'for every input the law returns true; each argument reads behind the call as it read before'; 0 by the template 'total and deterministic' (their statements: YtfbjlfhjkojmkaaGreatTotals.lean).
  GIVEN WITH THE SEED: the statements are not yours to turn. If you find one false, say at which input.
  Laid BY PROGRAM, IN A SANDBOX (cutbox-rows.mjs): the forced cells as the released guide's own fill.sh prints them over the translation 8caed6a3e0245f60… (all of the seat's roots in one cut). By AI agents, Wed Nov 11 2026. No macro, syntax, notation, axiom, sorry.
-/
import Derived.Test.YtfbjlfhjkojmkaaGreatChecked
import GoSem.Claim
import GoSem.ClaimJoined
import GoSem.ClaimMapViews
import Derived.JoinedTies
import Derived.KernelRfl
namespace Go.Proofs.YtfbjlfhjkojmkaaGreat
/- THE CELL 'sum', in the pinned program and in every row, IS THE sha256 OF THE DUMP (.gsa) THAT YtfbjlfhjkojmkaaGreatProg.lean LOADS. Nothing in Lean hashes anything: it is a label: what it is worth is what the hold of that sum in a sandbox is worth. -/
noncomputable def Tryz.pinned : Pinned := { name := "ytfbjlfhjkojmkaagreat", sum := "8caed6a3e0245f606caf853f252d40b3a3e9ff6ea366304ef574e81b8464e9a1", checked := Tryz.checked }
namespace Rows
def none {H : Type} : Left H := { results := [], args := [] }

/-- 'lockorderlaw16.SummaryOf': WHATEVER THE INPUT: true; the input reads as it did. -/
def summaryOfSpec : ChangeSpec := { name := "summaryOf", fn := fun _ => fun
  | [d1, d2] => { results := [.lit (.bool true)], args := [d1, d2] }
  | _ => none }
def summaryOfRow : OpenClaim := { program := "ytfbjlfhjkojmkaagreat", sum := "8caed6a3e0245f606caf853f252d40b3a3e9ff6ea366304ef574e81b8464e9a1", func := "lockorder/lockorderlaw16.SummaryOf", spec := "summaryOf", unfollowed := true, recurses := true, apart := false }
def SummaryOfSaid : Prop := summaryOfRow.holds Tryz.pinned (OpenSpec.ofChange summaryOfSpec)

/-- ITS FALSE NEIGHBOUR: 'it returns false'. Refute it at one input. -/
def summaryOfWrong : ChangeSpec := { name := "summaryOf", fn := fun _ => fun
  | [d1, d2] => { results := [.lit (.bool false)], args := [d1, d2] }
  | _ => none }
def SummaryOfWrongFalsely : Prop := summaryOfRow.holds Tryz.pinned (OpenSpec.ofChange summaryOfWrong)

/-- 'lockorderlaw16.SummaryInner': WHATEVER THE INPUT: true; the input reads as it did. -/
def summaryInnerSpec : ChangeSpec := { name := "summaryInner", fn := fun _ => fun
  | [d1, d2, d3, d4] => { results := [.lit (.bool true)], args := [d1, d2, d3, d4] }
  | _ => none }
def summaryInnerRow : OpenClaim := { program := "ytfbjlfhjkojmkaagreat", sum := "8caed6a3e0245f606caf853f252d40b3a3e9ff6ea366304ef574e81b8464e9a1", func := "lockorder/lockorderlaw16.SummaryInner", spec := "summaryInner", unfollowed := true, recurses := true, apart := false }
def SummaryInnerSaid : Prop := summaryInnerRow.holds Tryz.pinned (OpenSpec.ofChange summaryInnerSpec)

/-- ITS FALSE NEIGHBOUR: 'it returns false'. Refute it at one input. -/
def summaryInnerWrong : ChangeSpec := { name := "summaryInner", fn := fun _ => fun
  | [d1, d2, d3, d4] => { results := [.lit (.bool false)], args := [d1, d2, d3, d4] }
  | _ => none }
def SummaryInnerWrongFalsely : Prop := summaryInnerRow.holds Tryz.pinned (OpenSpec.ofChange summaryInnerWrong)

/-- 'lockorderlaw16.SummaryFixed': WHATEVER THE INPUT: true; the input reads as it did. -/
def summaryFixedSpec : ChangeSpec := { name := "summaryFixed", fn := fun _ => fun
  | [d1, d2, d3] => { results := [.lit (.bool true)], args := [d1, d2, d3] }
  | _ => none }
def summaryFixedRow : OpenClaim := { program := "ytfbjlfhjkojmkaagreat", sum := "8caed6a3e0245f606caf853f252d40b3a3e9ff6ea366304ef574e81b8464e9a1", func := "lockorder/lockorderlaw16.SummaryFixed", spec := "summaryFixed", unfollowed := true, recurses := true, apart := false }
def SummaryFixedSaid : Prop := summaryFixedRow.holds Tryz.pinned (OpenSpec.ofChange summaryFixedSpec)

/-- ITS FALSE NEIGHBOUR: 'it returns false'. Refute it at one input. -/
def summaryFixedWrong : ChangeSpec := { name := "summaryFixed", fn := fun _ => fun
  | [d1, d2, d3] => { results := [.lit (.bool false)], args := [d1, d2, d3] }
  | _ => none }
def SummaryFixedWrongFalsely : Prop := summaryFixedRow.holds Tryz.pinned (OpenSpec.ofChange summaryFixedWrong)

/-- 'lockorderlaw16.SummaryLeast': WHATEVER THE INPUT: true; the input reads as it did. -/
def summaryLeastSpec : ChangeSpec := { name := "summaryLeast", fn := fun _ => fun
  | [d1, d2, d3, d4] => { results := [.lit (.bool true)], args := [d1, d2, d3, d4] }
  | _ => none }
def summaryLeastRow : OpenClaim := { program := "ytfbjlfhjkojmkaagreat", sum := "8caed6a3e0245f606caf853f252d40b3a3e9ff6ea366304ef574e81b8464e9a1", func := "lockorder/lockorderlaw16.SummaryLeast", spec := "summaryLeast", unfollowed := true, recurses := true, apart := false }
def SummaryLeastSaid : Prop := summaryLeastRow.holds Tryz.pinned (OpenSpec.ofChange summaryLeastSpec)

/-- ITS FALSE NEIGHBOUR: 'it returns false'. Refute it at one input. -/
def summaryLeastWrong : ChangeSpec := { name := "summaryLeast", fn := fun _ => fun
  | [d1, d2, d3, d4] => { results := [.lit (.bool false)], args := [d1, d2, d3, d4] }
  | _ => none }
def SummaryLeastWrongFalsely : Prop := summaryLeastRow.holds Tryz.pinned (OpenSpec.ofChange summaryLeastWrong)

/-- 'lockorderlaw16.SummaryMonotone': WHATEVER THE INPUT: true; the input reads as it did. -/
def summaryMonotoneSpec : ChangeSpec := { name := "summaryMonotone", fn := fun _ => fun
  | [d1, d2, d3, d4, d5] => { results := [.lit (.bool true)], args := [d1, d2, d3, d4, d5] }
  | _ => none }
def summaryMonotoneRow : OpenClaim := { program := "ytfbjlfhjkojmkaagreat", sum := "8caed6a3e0245f606caf853f252d40b3a3e9ff6ea366304ef574e81b8464e9a1", func := "lockorder/lockorderlaw16.SummaryMonotone", spec := "summaryMonotone", unfollowed := true, recurses := true, apart := false }
def SummaryMonotoneSaid : Prop := summaryMonotoneRow.holds Tryz.pinned (OpenSpec.ofChange summaryMonotoneSpec)

/-- ITS FALSE NEIGHBOUR: 'it returns false'. Refute it at one input. -/
def summaryMonotoneWrong : ChangeSpec := { name := "summaryMonotone", fn := fun _ => fun
  | [d1, d2, d3, d4, d5] => { results := [.lit (.bool false)], args := [d1, d2, d3, d4, d5] }
  | _ => none }
def SummaryMonotoneWrongFalsely : Prop := summaryMonotoneRow.holds Tryz.pinned (OpenSpec.ofChange summaryMonotoneWrong)

/-- 'lockorderlaw16.SummaryRounds': WHATEVER THE INPUT: true; the input reads as it did. -/
def summaryRoundsSpec : ChangeSpec := { name := "summaryRounds", fn := fun _ => fun
  | [d1, d2, d3, d4] => { results := [.lit (.bool true)], args := [d1, d2, d3, d4] }
  | _ => none }
def summaryRoundsRow : OpenClaim := { program := "ytfbjlfhjkojmkaagreat", sum := "8caed6a3e0245f606caf853f252d40b3a3e9ff6ea366304ef574e81b8464e9a1", func := "lockorder/lockorderlaw16.SummaryRounds", spec := "summaryRounds", unfollowed := true, recurses := true, apart := false }
def SummaryRoundsSaid : Prop := summaryRoundsRow.holds Tryz.pinned (OpenSpec.ofChange summaryRoundsSpec)

/-- ITS FALSE NEIGHBOUR: 'it returns false'. Refute it at one input. -/
def summaryRoundsWrong : ChangeSpec := { name := "summaryRounds", fn := fun _ => fun
  | [d1, d2, d3, d4] => { results := [.lit (.bool false)], args := [d1, d2, d3, d4] }
  | _ => none }
def SummaryRoundsWrongFalsely : Prop := summaryRoundsRow.holds Tryz.pinned (OpenSpec.ofChange summaryRoundsWrong)

/-- 'lockorderlaw16.SummaryGrows': WHATEVER THE INPUT: true; the input reads as it did. -/
def summaryGrowsSpec : ChangeSpec := { name := "summaryGrows", fn := fun _ => fun
  | [d1, d2, d3] => { results := [.lit (.bool true)], args := [d1, d2, d3] }
  | _ => none }
def summaryGrowsRow : OpenClaim := { program := "ytfbjlfhjkojmkaagreat", sum := "8caed6a3e0245f606caf853f252d40b3a3e9ff6ea366304ef574e81b8464e9a1", func := "lockorder/lockorderlaw16.SummaryGrows", spec := "summaryGrows", unfollowed := true, recurses := true, apart := false }
def SummaryGrowsSaid : Prop := summaryGrowsRow.holds Tryz.pinned (OpenSpec.ofChange summaryGrowsSpec)

/-- ITS FALSE NEIGHBOUR: 'it returns false'. Refute it at one input. -/
def summaryGrowsWrong : ChangeSpec := { name := "summaryGrows", fn := fun _ => fun
  | [d1, d2, d3] => { results := [.lit (.bool false)], args := [d1, d2, d3] }
  | _ => none }
def SummaryGrowsWrongFalsely : Prop := summaryGrowsRow.holds Tryz.pinned (OpenSpec.ofChange summaryGrowsWrong)

/- THE SECOND FORM. 'bulk': how many values and letters a reading holds, each counted each time it is reached (what is shared counts as often as it is met; a slice's spare places count too). A statement '..UptoSaid' is the law's where the arguments, and the package variables that the reading takes, are together of bulk at most 1048576: NARROWER than '..Said'. Prove '..Said' where nothing that the law and all that it calls make is longer than what came in: it says more and counts as full. Else prove '..UptoSaid'. A law counts once. -/
mutual
def uptoBulk {H : Type} : DataW H → Nat
  | .lit (.string bytes) => bytes.length + 1
  | .lit _ => 1
  | .nil => 1
  | .ptr d => uptoBulk d + 1
  | .slice elems spare => uptoBulkAll elems + uptoBulkAll spare + 1
  | .agg parts => uptoBulkAll parts + 1
  | .iface _ d => uptoBulk d + 1
  | .map entries => uptoBulkEntries entries + 1
  | .held _ => 1
def uptoBulkAll {H : Type} : List (DataW H) → Nat
  | [] => 0
  | d :: r => uptoBulk d + uptoBulkAll r
def uptoBulkEntries {H : Type} : List (Lit × DataW H) → Nat
  | [] => 0
  | x :: r => uptoBulkEntry x + uptoBulkEntries r
def uptoBulkEntry {H : Type} : Lit × DataW H → Nat
  | (.string bytes, d) => bytes.length + uptoBulk d + 1
  | (_, d) => uptoBulk d + 1
 end
def uptoSmall : (H : Type) → List (DataW H) → Bool := fun _ ds => decide (uptoBulkAll ds ≤ 1048576)
def OpenSpec.upto (s : _root_.Go.ChangeSpec) : _root_.Go.OpenSpec := { _root_.Go.OpenSpec.ofChange s with cond := some uptoSmall }

/-- 'lockorderlaw16.SummaryOf', WHERE WHAT IT READS IS OF BULK AT MOST 1048576: true; the input reads as it did. -/
def summaryOfUptoRow : OpenClaim := { program := "ytfbjlfhjkojmkaagreat", sum := "8caed6a3e0245f606caf853f252d40b3a3e9ff6ea366304ef574e81b8464e9a1", func := "lockorder/lockorderlaw16.SummaryOf", spec := "summaryOf", unfollowed := true, recurses := true, apart := false, narrowed := true }
def SummaryOfUptoSaid : Prop := summaryOfUptoRow.holds Tryz.pinned (OpenSpec.upto summaryOfSpec)

/-- 'lockorderlaw16.SummaryInner', WHERE WHAT IT READS IS OF BULK AT MOST 1048576: true; the input reads as it did. -/
def summaryInnerUptoRow : OpenClaim := { program := "ytfbjlfhjkojmkaagreat", sum := "8caed6a3e0245f606caf853f252d40b3a3e9ff6ea366304ef574e81b8464e9a1", func := "lockorder/lockorderlaw16.SummaryInner", spec := "summaryInner", unfollowed := true, recurses := true, apart := false, narrowed := true }
def SummaryInnerUptoSaid : Prop := summaryInnerUptoRow.holds Tryz.pinned (OpenSpec.upto summaryInnerSpec)

/-- 'lockorderlaw16.SummaryFixed', WHERE WHAT IT READS IS OF BULK AT MOST 1048576: true; the input reads as it did. -/
def summaryFixedUptoRow : OpenClaim := { program := "ytfbjlfhjkojmkaagreat", sum := "8caed6a3e0245f606caf853f252d40b3a3e9ff6ea366304ef574e81b8464e9a1", func := "lockorder/lockorderlaw16.SummaryFixed", spec := "summaryFixed", unfollowed := true, recurses := true, apart := false, narrowed := true }
def SummaryFixedUptoSaid : Prop := summaryFixedUptoRow.holds Tryz.pinned (OpenSpec.upto summaryFixedSpec)

/-- 'lockorderlaw16.SummaryLeast', WHERE WHAT IT READS IS OF BULK AT MOST 1048576: true; the input reads as it did. -/
def summaryLeastUptoRow : OpenClaim := { program := "ytfbjlfhjkojmkaagreat", sum := "8caed6a3e0245f606caf853f252d40b3a3e9ff6ea366304ef574e81b8464e9a1", func := "lockorder/lockorderlaw16.SummaryLeast", spec := "summaryLeast", unfollowed := true, recurses := true, apart := false, narrowed := true }
def SummaryLeastUptoSaid : Prop := summaryLeastUptoRow.holds Tryz.pinned (OpenSpec.upto summaryLeastSpec)

/-- 'lockorderlaw16.SummaryMonotone', WHERE WHAT IT READS IS OF BULK AT MOST 1048576: true; the input reads as it did. -/
def summaryMonotoneUptoRow : OpenClaim := { program := "ytfbjlfhjkojmkaagreat", sum := "8caed6a3e0245f606caf853f252d40b3a3e9ff6ea366304ef574e81b8464e9a1", func := "lockorder/lockorderlaw16.SummaryMonotone", spec := "summaryMonotone", unfollowed := true, recurses := true, apart := false, narrowed := true }
def SummaryMonotoneUptoSaid : Prop := summaryMonotoneUptoRow.holds Tryz.pinned (OpenSpec.upto summaryMonotoneSpec)

/-- 'lockorderlaw16.SummaryRounds', WHERE WHAT IT READS IS OF BULK AT MOST 1048576: true; the input reads as it did. -/
def summaryRoundsUptoRow : OpenClaim := { program := "ytfbjlfhjkojmkaagreat", sum := "8caed6a3e0245f606caf853f252d40b3a3e9ff6ea366304ef574e81b8464e9a1", func := "lockorder/lockorderlaw16.SummaryRounds", spec := "summaryRounds", unfollowed := true, recurses := true, apart := false, narrowed := true }
def SummaryRoundsUptoSaid : Prop := summaryRoundsUptoRow.holds Tryz.pinned (OpenSpec.upto summaryRoundsSpec)

/-- 'lockorderlaw16.SummaryGrows', WHERE WHAT IT READS IS OF BULK AT MOST 1048576: true; the input reads as it did. -/
def summaryGrowsUptoRow : OpenClaim := { program := "ytfbjlfhjkojmkaagreat", sum := "8caed6a3e0245f606caf853f252d40b3a3e9ff6ea366304ef574e81b8464e9a1", func := "lockorder/lockorderlaw16.SummaryGrows", spec := "summaryGrows", unfollowed := true, recurses := true, apart := false, narrowed := true }
def SummaryGrowsUptoSaid : Prop := summaryGrowsUptoRow.holds Tryz.pinned (OpenSpec.upto summaryGrowsSpec)

end Rows
end Go.Proofs.YtfbjlfhjkojmkaaGreat
