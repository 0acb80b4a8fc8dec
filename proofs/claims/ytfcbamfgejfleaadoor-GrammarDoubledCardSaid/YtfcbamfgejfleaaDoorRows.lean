/-
  NARROWER THAN 'FOR EVERY INPUT', by the rows' own cells (each row's printed sentence says how): GrammarDoubled: laid · GrammarEarlier: laid.
  DERIVED. THE GIVEN ROWS OF THIS SEAT. 2 by the template 'for every input the law returns true; each argument reads behind the call as it read before'; 0 by the template 'total and deterministic' (their statements: YtfcbamfgejfleaaDoorTotals.lean).
  GIVEN WITH THE SEED: the statements are not yours to turn. If you find one false, say at which input.
  Laid BY PROGRAM, IN A SANDBOX (cutbox-rows.mjs): the forced cells as the released guide's own fill.sh prints them over the translation 9dccf3197d3ea96f… (all of the seat's roots in one cut). By AI agents, Wed Nov 11 2026. No macro, syntax, notation, axiom, sorry.
-/
import Derived.Test.YtfcbamfgejfleaaDoorChecked
import GoSem.Claim
import GoSem.ClaimJoined
import GoSem.ClaimMapViews
import Derived.JoinedTies
import Derived.KernelRfl
namespace Go.Proofs.YtfcbamfgejfleaaDoor
/- THE CELL 'sum', in the pinned program and in every row, IS THE sha256 OF THE DUMP (.gsa) THAT YtfcbamfgejfleaaDoorProg.lean LOADS. Nothing in Lean hashes anything: it is a label: what it is worth is what the hold of that sum in a sandbox is worth. -/
noncomputable def Tryd.pinned : Pinned := { name := "ytfcbamfgejfleaadoor", sum := "9dccf3197d3ea96fd0ec024c820d62abfa814ff32a4dc630471588a20fe4657c", checked := Tryd.checked }
namespace Rows
def none {H : Type} : Left H := { results := [], args := [] }

/- WHAT THE LISTED PACKAGE-LEVEL VARIABLES READ AS WHEN THE CALL BEGINS. Each datum BY PROGRAM (the guide's laid-datum.mjs) off the statement by which the dump's own 'gosem.cut.vars' lays the variable. In a bare row this is a premise. The card (YtfcbamfgejfleaaDoorCards.lean) ties it to the program's text. -/
def laid_lockorder_grammar_calling {H : Type} : DataW H := .agg [.lit (.bool false), .lit (.bool false), .lit (.bool true), .lit (.bool false), .lit (.bool false), .lit (.bool false), .lit (.bool false), .lit (.bool false), .lit (.bool false)]

/-- 'lockorderlaw25.GrammarDoubled': WHATEVER THE INPUT: true; the input reads as it did. -/
def grammarDoubledSpec : ChangeSpec := { name := "grammarDoubled", fn := fun _ => fun
  | [d1, d2] => { results := [.lit (.bool true)], args := [d1, d2] }
  | _ => none }
def grammarDoubledRow : OpenClaim := { program := "ytfcbamfgejfleaadoor", sum := "9dccf3197d3ea96fd0ec024c820d62abfa814ff32a4dc630471588a20fe4657c", func := "lockorder/lockorderlaw25.GrammarDoubled", spec := "grammarDoubled", unfollowed := true, recurses := true, named := ["lockorder/grammar.calling"], apart := false, laid := [("lockorder/grammar.calling", laid_lockorder_grammar_calling)] }
def GrammarDoubledSaid : Prop := grammarDoubledRow.holds Tryd.pinned (OpenSpec.ofChange grammarDoubledSpec)

/-- ITS FALSE NEIGHBOUR: 'it returns false'. Refute it at one input. -/
def grammarDoubledWrong : ChangeSpec := { name := "grammarDoubled", fn := fun _ => fun
  | [d1, d2] => { results := [.lit (.bool false)], args := [d1, d2] }
  | _ => none }
def GrammarDoubledWrongFalsely : Prop := grammarDoubledRow.holds Tryd.pinned (OpenSpec.ofChange grammarDoubledWrong)

/-- 'lockorderlaw25.GrammarEarlier': WHATEVER THE INPUT: true; the input reads as it did. -/
def grammarEarlierSpec : ChangeSpec := { name := "grammarEarlier", fn := fun _ => fun
  | [d] => { results := [.lit (.bool true)], args := [d] }
  | _ => none }
def grammarEarlierRow : OpenClaim := { program := "ytfcbamfgejfleaadoor", sum := "9dccf3197d3ea96fd0ec024c820d62abfa814ff32a4dc630471588a20fe4657c", func := "lockorder/lockorderlaw25.GrammarEarlier", spec := "grammarEarlier", unfollowed := true, recurses := true, named := ["lockorder/grammar.calling"], apart := false, laid := [("lockorder/grammar.calling", laid_lockorder_grammar_calling)] }
def GrammarEarlierSaid : Prop := grammarEarlierRow.holds Tryd.pinned (OpenSpec.ofChange grammarEarlierSpec)

/-- ITS FALSE NEIGHBOUR: 'it returns false'. Refute it at one input. -/
def grammarEarlierWrong : ChangeSpec := { name := "grammarEarlier", fn := fun _ => fun
  | [d] => { results := [.lit (.bool false)], args := [d] }
  | _ => none }
def GrammarEarlierWrongFalsely : Prop := grammarEarlierRow.holds Tryd.pinned (OpenSpec.ofChange grammarEarlierWrong)

/- THE SECOND FORM. 'bulk': how many values and letters a reading holds, each counted each time it is reached (what is shared counts as often as it is met; a slice's spare places count too). A statement '..UptoSaid' is the law's where the arguments, and the package variables that the reading takes, are together of bulk at most 1048576: NARROWER than '..Said'. Prove '..Said' where nothing that the law and all that it calls make is longer than what came in: it says more and counts as full. Else prove '..UptoSaid'. A law counts once. -/
mutual
def uptoBulk {H : Type} : DataW H → Nat
  | .lit (.string bytes) => bytes.length + 1
  | .lit _ => 1
  | .nil => 1
  | .ptr d => uptoBulk d + 1
  | .slice elems spare => uptoBulkAll elems + uptoBulkAll spare + 1
  | .agg parts => uptoBulkAll parts + 1
  | .iface _ d => uptoBulk d + 1
  | .map entries => uptoBulkEntries entries + 1
  | .held _ => 1
def uptoBulkAll {H : Type} : List (DataW H) → Nat
  | [] => 0
  | d :: r => uptoBulk d + uptoBulkAll r
def uptoBulkEntries {H : Type} : List (Lit × DataW H) → Nat
  | [] => 0
  | x :: r => uptoBulkEntry x + uptoBulkEntries r
def uptoBulkEntry {H : Type} : Lit × DataW H → Nat
  | (.string bytes, d) => bytes.length + uptoBulk d + 1
  | (_, d) => uptoBulk d + 1
 end
def uptoSmall : (H : Type) → List (DataW H) → Bool := fun _ ds => decide (uptoBulkAll ds ≤ 1048576)
def OpenSpec.upto (s : _root_.Go.ChangeSpec) : _root_.Go.OpenSpec := { _root_.Go.OpenSpec.ofChange s with cond := some uptoSmall }

/-- 'lockorderlaw25.GrammarDoubled', WHERE WHAT IT READS IS OF BULK AT MOST 1048576: true; the input reads as it did. -/
def grammarDoubledUptoRow : OpenClaim := { program := "ytfcbamfgejfleaadoor", sum := "9dccf3197d3ea96fd0ec024c820d62abfa814ff32a4dc630471588a20fe4657c", func := "lockorder/lockorderlaw25.GrammarDoubled", spec := "grammarDoubled", unfollowed := true, recurses := true, named := ["lockorder/grammar.calling"], apart := false, laid := [("lockorder/grammar.calling", laid_lockorder_grammar_calling)], narrowed := true }
def GrammarDoubledUptoSaid : Prop := grammarDoubledUptoRow.holds Tryd.pinned (OpenSpec.upto grammarDoubledSpec)

/-- 'lockorderlaw25.GrammarEarlier', WHERE WHAT IT READS IS OF BULK AT MOST 1048576: true; the input reads as it did. -/
def grammarEarlierUptoRow : OpenClaim := { program := "ytfcbamfgejfleaadoor", sum := "9dccf3197d3ea96fd0ec024c820d62abfa814ff32a4dc630471588a20fe4657c", func := "lockorder/lockorderlaw25.GrammarEarlier", spec := "grammarEarlier", unfollowed := true, recurses := true, named := ["lockorder/grammar.calling"], apart := false, laid := [("lockorder/grammar.calling", laid_lockorder_grammar_calling)], narrowed := true }
def GrammarEarlierUptoSaid : Prop := grammarEarlierUptoRow.holds Tryd.pinned (OpenSpec.upto grammarEarlierSpec)

end Rows
end Go.Proofs.YtfcbamfgejfleaaDoor
