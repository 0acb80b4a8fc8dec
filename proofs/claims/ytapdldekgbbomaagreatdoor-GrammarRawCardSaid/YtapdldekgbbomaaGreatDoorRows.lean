/-
  NARROWER THAN 'FOR EVERY INPUT', by the rows' own cells (each row's printed sentence says how): GrammarEffects: laid · GrammarRaw: laid · GrammarLength: laid · GrammarPath: laid.
  DERIVED. THE GIVEN ROWS OF THIS SEAT. 4 by the template 'for every input the law returns true; each argument reads behind the call as it read before'; 0 by the template 'total and deterministic' (their statements: YtapdldekgbbomaaGreatDoorTotals.lean).
  GIVEN WITH THE SEED: the statements are not yours to turn. If you find one false, say at which input.
  Laid BY PROGRAM, IN A SANDBOX (cutbox-rows.mjs): the forced cells as the released guide's own fill.sh prints them over the translation 934345cbeef11bce… (all of the seat's roots in one cut). By AI agents, Wed Nov 11 2026. No macro, syntax, notation, axiom, sorry.
-/
import Derived.Test.YtapdldekgbbomaaGreatDoorChecked
import GoSem.Claim
import GoSem.ClaimJoined
import GoSem.ClaimMapViews
import Derived.JoinedTies
import Derived.KernelRfl
namespace Go.Proofs.YtapdldekgbbomaaGreatDoor
/- THE CELL 'sum', in the pinned program and in every row, IS THE sha256 OF THE DUMP (.gsa) THAT YtapdldekgbbomaaGreatDoorProg.lean LOADS. Nothing in Lean hashes anything: it is a label: what it is worth is what the hold of that sum in a sandbox is worth. -/
noncomputable def Tryz.pinned : Pinned := { name := "ytapdldekgbbomaagreatdoor", sum := "934345cbeef11bce1c1f54a2e6ff2b8fc1bdf11693c468e3d924004e4b8a2fe9", checked := Tryz.checked }
namespace Rows
def none {H : Type} : Left H := { results := [], args := [] }

/- WHAT THE LISTED PACKAGE-LEVEL VARIABLES READ AS WHEN THE CALL BEGINS. Each datum BY PROGRAM (the guide's laid-datum.mjs) off the statement by which the dump's own 'gosem.cut.vars' lays the variable. In a bare row this is a premise. The card (YtapdldekgbbomaaGreatDoorCards.lean) ties it to the program's text. -/
def laid_lockorder_grammar_calling {H : Type} : DataW H := .agg [.lit (.bool false), .lit (.bool false), .lit (.bool true), .lit (.bool false), .lit (.bool false), .lit (.bool false), .lit (.bool false), .lit (.bool false), .lit (.bool false)]

/-- 'lockorderlaw25.GrammarEffects': WHATEVER THE INPUT: true; the input reads as it did. -/
def grammarEffectsSpec : ChangeSpec := { name := "grammarEffects", fn := fun _ => fun
  | [d1, d2, d3, d4, d5, d6] => { results := [.lit (.bool true)], args := [d1, d2, d3, d4, d5, d6] }
  | _ => none }
def grammarEffectsRow : OpenClaim := { program := "ytapdldekgbbomaagreatdoor", sum := "934345cbeef11bce1c1f54a2e6ff2b8fc1bdf11693c468e3d924004e4b8a2fe9", func := "lockorder/lockorderlaw25.GrammarEffects", spec := "grammarEffects", unfollowed := true, recurses := true, named := ["lockorder/grammar.calling"], apart := false, laid := [("lockorder/grammar.calling", laid_lockorder_grammar_calling)] }
def GrammarEffectsSaid : Prop := grammarEffectsRow.holds Tryz.pinned (OpenSpec.ofChange grammarEffectsSpec)

/-- ITS FALSE NEIGHBOUR: 'it returns false'. Refute it at one input. -/
def grammarEffectsWrong : ChangeSpec := { name := "grammarEffects", fn := fun _ => fun
  | [d1, d2, d3, d4, d5, d6] => { results := [.lit (.bool false)], args := [d1, d2, d3, d4, d5, d6] }
  | _ => none }
def GrammarEffectsWrongFalsely : Prop := grammarEffectsRow.holds Tryz.pinned (OpenSpec.ofChange grammarEffectsWrong)

/-- 'lockorderlaw25.GrammarRaw': WHATEVER THE INPUT: true; the input reads as it did. -/
def grammarRawSpec : ChangeSpec := { name := "grammarRaw", fn := fun _ => fun
  | [d1, d2, d3, d4] => { results := [.lit (.bool true)], args := [d1, d2, d3, d4] }
  | _ => none }
def grammarRawRow : OpenClaim := { program := "ytapdldekgbbomaagreatdoor", sum := "934345cbeef11bce1c1f54a2e6ff2b8fc1bdf11693c468e3d924004e4b8a2fe9", func := "lockorder/lockorderlaw25.GrammarRaw", spec := "grammarRaw", unfollowed := true, recurses := true, named := ["lockorder/grammar.calling"], apart := false, laid := [("lockorder/grammar.calling", laid_lockorder_grammar_calling)] }
def GrammarRawSaid : Prop := grammarRawRow.holds Tryz.pinned (OpenSpec.ofChange grammarRawSpec)

/-- ITS FALSE NEIGHBOUR: 'it returns false'. Refute it at one input. -/
def grammarRawWrong : ChangeSpec := { name := "grammarRaw", fn := fun _ => fun
  | [d1, d2, d3, d4] => { results := [.lit (.bool false)], args := [d1, d2, d3, d4] }
  | _ => none }
def GrammarRawWrongFalsely : Prop := grammarRawRow.holds Tryz.pinned (OpenSpec.ofChange grammarRawWrong)

/-- 'lockorderlaw25.GrammarLength': WHATEVER THE INPUT: true; the input reads as it did. -/
def grammarLengthSpec : ChangeSpec := { name := "grammarLength", fn := fun _ => fun
  | [d1, d2, d3] => { results := [.lit (.bool true)], args := [d1, d2, d3] }
  | _ => none }
def grammarLengthRow : OpenClaim := { program := "ytapdldekgbbomaagreatdoor", sum := "934345cbeef11bce1c1f54a2e6ff2b8fc1bdf11693c468e3d924004e4b8a2fe9", func := "lockorder/lockorderlaw25.GrammarLength", spec := "grammarLength", unfollowed := true, recurses := true, named := ["lockorder/grammar.calling"], apart := false, laid := [("lockorder/grammar.calling", laid_lockorder_grammar_calling)] }
def GrammarLengthSaid : Prop := grammarLengthRow.holds Tryz.pinned (OpenSpec.ofChange grammarLengthSpec)

/-- ITS FALSE NEIGHBOUR: 'it returns false'. Refute it at one input. -/
def grammarLengthWrong : ChangeSpec := { name := "grammarLength", fn := fun _ => fun
  | [d1, d2, d3] => { results := [.lit (.bool false)], args := [d1, d2, d3] }
  | _ => none }
def GrammarLengthWrongFalsely : Prop := grammarLengthRow.holds Tryz.pinned (OpenSpec.ofChange grammarLengthWrong)

/-- 'lockorderlaw25.GrammarPath': WHATEVER THE INPUT: true; the input reads as it did. -/
def grammarPathSpec : ChangeSpec := { name := "grammarPath", fn := fun _ => fun
  | [d1, d2, d3] => { results := [.lit (.bool true)], args := [d1, d2, d3] }
  | _ => none }
def grammarPathRow : OpenClaim := { program := "ytapdldekgbbomaagreatdoor", sum := "934345cbeef11bce1c1f54a2e6ff2b8fc1bdf11693c468e3d924004e4b8a2fe9", func := "lockorder/lockorderlaw25.GrammarPath", spec := "grammarPath", unfollowed := true, recurses := true, named := ["lockorder/grammar.calling"], apart := false, laid := [("lockorder/grammar.calling", laid_lockorder_grammar_calling)] }
def GrammarPathSaid : Prop := grammarPathRow.holds Tryz.pinned (OpenSpec.ofChange grammarPathSpec)

/-- ITS FALSE NEIGHBOUR: 'it returns false'. Refute it at one input. -/
def grammarPathWrong : ChangeSpec := { name := "grammarPath", fn := fun _ => fun
  | [d1, d2, d3] => { results := [.lit (.bool false)], args := [d1, d2, d3] }
  | _ => none }
def GrammarPathWrongFalsely : Prop := grammarPathRow.holds Tryz.pinned (OpenSpec.ofChange grammarPathWrong)

/- THE SECOND FORM. 'bulk': how many values and letters a reading holds, each counted each time it is reached (what is shared counts as often as it is met; a slice's spare places count too). A statement '..UptoSaid' is the law's where the arguments, and the package variables that the reading takes, are together of bulk at most 1048576: NARROWER than '..Said'. Prove '..Said' where nothing that the law and all that it calls make is longer than what came in: it says more and counts as full. Else prove '..UptoSaid'. A law counts once. -/
mutual
def uptoBulk {H : Type} : DataW H → Nat
  | .lit (.string bytes) => bytes.length + 1
  | .lit _ => 1
  | .nil => 1
  | .ptr d => uptoBulk d + 1
  | .slice elems spare => uptoBulkAll elems + uptoBulkAll spare + 1
  | .agg parts => uptoBulkAll parts + 1
  | .iface _ d => uptoBulk d + 1
  | .map entries => uptoBulkEntries entries + 1
  | .held _ => 1
def uptoBulkAll {H : Type} : List (DataW H) → Nat
  | [] => 0
  | d :: r => uptoBulk d + uptoBulkAll r
def uptoBulkEntries {H : Type} : List (Lit × DataW H) → Nat
  | [] => 0
  | x :: r => uptoBulkEntry x + uptoBulkEntries r
def uptoBulkEntry {H : Type} : Lit × DataW H → Nat
  | (.string bytes, d) => bytes.length + uptoBulk d + 1
  | (_, d) => uptoBulk d + 1
 end
def uptoSmall : (H : Type) → List (DataW H) → Bool := fun _ ds => decide (uptoBulkAll ds ≤ 1048576)
def OpenSpec.upto (s : _root_.Go.ChangeSpec) : _root_.Go.OpenSpec := { _root_.Go.OpenSpec.ofChange s with cond := some uptoSmall }

/-- 'lockorderlaw25.GrammarEffects', WHERE WHAT IT READS IS OF BULK AT MOST 1048576: true; the input reads as it did. -/
def grammarEffectsUptoRow : OpenClaim := { program := "ytapdldekgbbomaagreatdoor", sum := "934345cbeef11bce1c1f54a2e6ff2b8fc1bdf11693c468e3d924004e4b8a2fe9", func := "lockorder/lockorderlaw25.GrammarEffects", spec := "grammarEffects", unfollowed := true, recurses := true, named := ["lockorder/grammar.calling"], apart := false, laid := [("lockorder/grammar.calling", laid_lockorder_grammar_calling)], narrowed := true }
def GrammarEffectsUptoSaid : Prop := grammarEffectsUptoRow.holds Tryz.pinned (OpenSpec.upto grammarEffectsSpec)

/-- 'lockorderlaw25.GrammarRaw', WHERE WHAT IT READS IS OF BULK AT MOST 1048576: true; the input reads as it did. -/
def grammarRawUptoRow : OpenClaim := { program := "ytapdldekgbbomaagreatdoor", sum := "934345cbeef11bce1c1f54a2e6ff2b8fc1bdf11693c468e3d924004e4b8a2fe9", func := "lockorder/lockorderlaw25.GrammarRaw", spec := "grammarRaw", unfollowed := true, recurses := true, named := ["lockorder/grammar.calling"], apart := false, laid := [("lockorder/grammar.calling", laid_lockorder_grammar_calling)], narrowed := true }
def GrammarRawUptoSaid : Prop := grammarRawUptoRow.holds Tryz.pinned (OpenSpec.upto grammarRawSpec)

/-- 'lockorderlaw25.GrammarLength', WHERE WHAT IT READS IS OF BULK AT MOST 1048576: true; the input reads as it did. -/
def grammarLengthUptoRow : OpenClaim := { program := "ytapdldekgbbomaagreatdoor", sum := "934345cbeef11bce1c1f54a2e6ff2b8fc1bdf11693c468e3d924004e4b8a2fe9", func := "lockorder/lockorderlaw25.GrammarLength", spec := "grammarLength", unfollowed := true, recurses := true, named := ["lockorder/grammar.calling"], apart := false, laid := [("lockorder/grammar.calling", laid_lockorder_grammar_calling)], narrowed := true }
def GrammarLengthUptoSaid : Prop := grammarLengthUptoRow.holds Tryz.pinned (OpenSpec.upto grammarLengthSpec)

/-- 'lockorderlaw25.GrammarPath', WHERE WHAT IT READS IS OF BULK AT MOST 1048576: true; the input reads as it did. -/
def grammarPathUptoRow : OpenClaim := { program := "ytapdldekgbbomaagreatdoor", sum := "934345cbeef11bce1c1f54a2e6ff2b8fc1bdf11693c468e3d924004e4b8a2fe9", func := "lockorder/lockorderlaw25.GrammarPath", spec := "grammarPath", unfollowed := true, recurses := true, named := ["lockorder/grammar.calling"], apart := false, laid := [("lockorder/grammar.calling", laid_lockorder_grammar_calling)], narrowed := true }
def GrammarPathUptoSaid : Prop := grammarPathUptoRow.holds Tryz.pinned (OpenSpec.upto grammarPathSpec)

end Rows
end Go.Proofs.YtapdldekgbbomaaGreatDoor
