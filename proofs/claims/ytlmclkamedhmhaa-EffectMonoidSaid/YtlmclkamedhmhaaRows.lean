/-
  No cell of these rows narrows 'for every input' (looked for: loops, veiled, ifaces, maps, wideKeys, modest, calm, conditions, laid).
  DERIVED. THE GIVEN ROWS OF THIS SEAT. 12 by the template 'for every input the law returns true; each argument reads behind the call as it read before'; 0 by the template 'total and deterministic' (their statements: YtlmclkamedhmhaaTotals.lean).
  GIVEN WITH THE SEED: the statements are not yours to turn. If you find one false, say at which input.
  Laid BY PROGRAM, IN A SANDBOX (cutbox-rows.mjs): the forced cells as the released guide's own fill.sh prints them over the translation 36f029dd7b624b30… (all of the seat's roots in one cut). By AI agents, Wed Nov 11 2026. No macro, syntax, notation, axiom, sorry.
-/
import Derived.Test.YtlmclkamedhmhaaChecked
import GoSem.Claim
import GoSem.ClaimJoined
import GoSem.ClaimMapViews
import Derived.JoinedTies
import Derived.KernelRfl
namespace Go.Proofs.Ytlmclkamedhmhaa
/- THE CELL 'sum', in the pinned program and in every row, IS THE sha256 OF THE DUMP (.gsa) THAT YtlmclkamedhmhaaProg.lean LOADS. Nothing in Lean hashes anything: it is a label: what it is worth is what the hold of that sum in a sandbox is worth. -/
noncomputable def Try.pinned : Pinned := { name := "ytlmclkamedhmhaa", sum := "36f029dd7b624b30ab0fe7c7f412a8ac6ba4cc309103482145dbba0dbb4b8e51", checked := Try.checked }
namespace Rows
def none {H : Type} : Left H := { results := [], args := [] }

/-- 'lockorderlaw24.EffectOf': WHATEVER THE INPUT: true; the input reads as it did. -/
def effectOfSpec : ChangeSpec := { name := "effectOf", fn := fun _ => fun
  | [d1, d2, d3, d4, d5] => { results := [.lit (.bool true)], args := [d1, d2, d3, d4, d5] }
  | _ => none }
def effectOfRow : OpenClaim := { program := "ytlmclkamedhmhaa", sum := "36f029dd7b624b30ab0fe7c7f412a8ac6ba4cc309103482145dbba0dbb4b8e51", func := "lockorder/lockorderlaw24.EffectOf", spec := "effectOf", apart := false }
def EffectOfSaid : Prop := effectOfRow.holds Try.pinned (OpenSpec.ofChange effectOfSpec)

/-- ITS FALSE NEIGHBOUR: 'it returns false'. Refute it at one input. -/
def effectOfWrong : ChangeSpec := { name := "effectOf", fn := fun _ => fun
  | [d1, d2, d3, d4, d5] => { results := [.lit (.bool false)], args := [d1, d2, d3, d4, d5] }
  | _ => none }
def EffectOfWrongFalsely : Prop := effectOfRow.holds Try.pinned (OpenSpec.ofChange effectOfWrong)

/-- 'lockorderlaw24.EffectThen': WHATEVER THE INPUT: true; the input reads as it did. -/
def effectThenSpec : ChangeSpec := { name := "effectThen", fn := fun _ => fun
  | [d1, d2, d3, d4, d5, d6, d7, d8, d9] => { results := [.lit (.bool true)], args := [d1, d2, d3, d4, d5, d6, d7, d8, d9] }
  | _ => none }
def effectThenRow : OpenClaim := { program := "ytlmclkamedhmhaa", sum := "36f029dd7b624b30ab0fe7c7f412a8ac6ba4cc309103482145dbba0dbb4b8e51", func := "lockorder/lockorderlaw24.EffectThen", spec := "effectThen", apart := false }
def EffectThenSaid : Prop := effectThenRow.holds Try.pinned (OpenSpec.ofChange effectThenSpec)

/-- ITS FALSE NEIGHBOUR: 'it returns false'. Refute it at one input. -/
def effectThenWrong : ChangeSpec := { name := "effectThen", fn := fun _ => fun
  | [d1, d2, d3, d4, d5, d6, d7, d8, d9] => { results := [.lit (.bool false)], args := [d1, d2, d3, d4, d5, d6, d7, d8, d9] }
  | _ => none }
def EffectThenWrongFalsely : Prop := effectThenRow.holds Try.pinned (OpenSpec.ofChange effectThenWrong)

/-- 'lockorderlaw24.EffectPath': WHATEVER THE INPUT: true; the input reads as it did. -/
def effectPathSpec : ChangeSpec := { name := "effectPath", fn := fun _ => fun
  | [d1, d2] => { results := [.lit (.bool true)], args := [d1, d2] }
  | _ => none }
def effectPathRow : OpenClaim := { program := "ytlmclkamedhmhaa", sum := "36f029dd7b624b30ab0fe7c7f412a8ac6ba4cc309103482145dbba0dbb4b8e51", func := "lockorder/lockorderlaw24.EffectPath", spec := "effectPath", apart := false }
def EffectPathSaid : Prop := effectPathRow.holds Try.pinned (OpenSpec.ofChange effectPathSpec)

/-- ITS FALSE NEIGHBOUR: 'it returns false'. Refute it at one input. -/
def effectPathWrong : ChangeSpec := { name := "effectPath", fn := fun _ => fun
  | [d1, d2] => { results := [.lit (.bool false)], args := [d1, d2] }
  | _ => none }
def EffectPathWrongFalsely : Prop := effectPathRow.holds Try.pinned (OpenSpec.ofChange effectPathWrong)

/-- 'lockorderlaw24.EffectMonoid': WHATEVER THE INPUT: true; the input reads as it did. -/
def effectMonoidSpec : ChangeSpec := { name := "effectMonoid", fn := fun _ => fun
  | [d1, d2, d3, d4, d5, d6, d7, d8, d9] => { results := [.lit (.bool true)], args := [d1, d2, d3, d4, d5, d6, d7, d8, d9] }
  | _ => none }
def effectMonoidRow : OpenClaim := { program := "ytlmclkamedhmhaa", sum := "36f029dd7b624b30ab0fe7c7f412a8ac6ba4cc309103482145dbba0dbb4b8e51", func := "lockorder/lockorderlaw24.EffectMonoid", spec := "effectMonoid", apart := false }
def EffectMonoidSaid : Prop := effectMonoidRow.holds Try.pinned (OpenSpec.ofChange effectMonoidSpec)

/-- ITS FALSE NEIGHBOUR: 'it returns false'. Refute it at one input. -/
def effectMonoidWrong : ChangeSpec := { name := "effectMonoid", fn := fun _ => fun
  | [d1, d2, d3, d4, d5, d6, d7, d8, d9] => { results := [.lit (.bool false)], args := [d1, d2, d3, d4, d5, d6, d7, d8, d9] }
  | _ => none }
def EffectMonoidWrongFalsely : Prop := effectMonoidRow.holds Try.pinned (OpenSpec.ofChange effectMonoidWrong)

/-- 'lockorderlaw24.EffectFits': WHATEVER THE INPUT: true; the input reads as it did. -/
def effectFitsSpec : ChangeSpec := { name := "effectFits", fn := fun _ => fun
  | [d1, d2, d3, d4, d5, d6, d7, d8] => { results := [.lit (.bool true)], args := [d1, d2, d3, d4, d5, d6, d7, d8] }
  | _ => none }
def effectFitsRow : OpenClaim := { program := "ytlmclkamedhmhaa", sum := "36f029dd7b624b30ab0fe7c7f412a8ac6ba4cc309103482145dbba0dbb4b8e51", func := "lockorder/lockorderlaw24.EffectFits", spec := "effectFits", apart := false }
def EffectFitsSaid : Prop := effectFitsRow.holds Try.pinned (OpenSpec.ofChange effectFitsSpec)

/-- ITS FALSE NEIGHBOUR: 'it returns false'. Refute it at one input. -/
def effectFitsWrong : ChangeSpec := { name := "effectFits", fn := fun _ => fun
  | [d1, d2, d3, d4, d5, d6, d7, d8] => { results := [.lit (.bool false)], args := [d1, d2, d3, d4, d5, d6, d7, d8] }
  | _ => none }
def EffectFitsWrongFalsely : Prop := effectFitsRow.holds Try.pinned (OpenSpec.ofChange effectFitsWrong)

/-- 'lockorderlaw24.EffectRun': WHATEVER THE INPUT: true; the input reads as it did. -/
def effectRunSpec : ChangeSpec := { name := "effectRun", fn := fun _ => fun
  | [d1, d2, d3] => { results := [.lit (.bool true)], args := [d1, d2, d3] }
  | _ => none }
def effectRunRow : OpenClaim := { program := "ytlmclkamedhmhaa", sum := "36f029dd7b624b30ab0fe7c7f412a8ac6ba4cc309103482145dbba0dbb4b8e51", func := "lockorder/lockorderlaw24.EffectRun", spec := "effectRun", apart := false }
def EffectRunSaid : Prop := effectRunRow.holds Try.pinned (OpenSpec.ofChange effectRunSpec)

/-- ITS FALSE NEIGHBOUR: 'it returns false'. Refute it at one input. -/
def effectRunWrong : ChangeSpec := { name := "effectRun", fn := fun _ => fun
  | [d1, d2, d3] => { results := [.lit (.bool false)], args := [d1, d2, d3] }
  | _ => none }
def EffectRunWrongFalsely : Prop := effectRunRow.holds Try.pinned (OpenSpec.ofChange effectRunWrong)

/-- 'lockorderlaw14.DepthShifts': WHATEVER THE INPUT: true; the input reads as it did. -/
def depthShiftsSpec : ChangeSpec := { name := "depthShifts", fn := fun _ => fun
  | [d] => { results := [.lit (.bool true)], args := [d] }
  | _ => none }
def depthShiftsRow : OpenClaim := { program := "ytlmclkamedhmhaa", sum := "36f029dd7b624b30ab0fe7c7f412a8ac6ba4cc309103482145dbba0dbb4b8e51", func := "lockorder/lockorderlaw14.DepthShifts", spec := "depthShifts", apart := false }
def DepthShiftsSaid : Prop := depthShiftsRow.holds Try.pinned (OpenSpec.ofChange depthShiftsSpec)

/-- ITS FALSE NEIGHBOUR: 'it returns false'. Refute it at one input. -/
def depthShiftsWrong : ChangeSpec := { name := "depthShifts", fn := fun _ => fun
  | [d] => { results := [.lit (.bool false)], args := [d] }
  | _ => none }
def DepthShiftsWrongFalsely : Prop := depthShiftsRow.holds Try.pinned (OpenSpec.ofChange depthShiftsWrong)

/-- 'lockorderlaw14.DepthMonoid': WHATEVER THE INPUT: true; the input reads as it did. -/
def depthMonoidSpec : ChangeSpec := { name := "depthMonoid", fn := fun _ => fun
  | [d1, d2, d3, d4, d5] => { results := [.lit (.bool true)], args := [d1, d2, d3, d4, d5] }
  | _ => none }
def depthMonoidRow : OpenClaim := { program := "ytlmclkamedhmhaa", sum := "36f029dd7b624b30ab0fe7c7f412a8ac6ba4cc309103482145dbba0dbb4b8e51", func := "lockorder/lockorderlaw14.DepthMonoid", spec := "depthMonoid", apart := false }
def DepthMonoidSaid : Prop := depthMonoidRow.holds Try.pinned (OpenSpec.ofChange depthMonoidSpec)

/-- ITS FALSE NEIGHBOUR: 'it returns false'. Refute it at one input. -/
def depthMonoidWrong : ChangeSpec := { name := "depthMonoid", fn := fun _ => fun
  | [d1, d2, d3, d4, d5] => { results := [.lit (.bool false)], args := [d1, d2, d3, d4, d5] }
  | _ => none }
def DepthMonoidWrongFalsely : Prop := depthMonoidRow.holds Try.pinned (OpenSpec.ofChange depthMonoidWrong)

/-- 'lockorderlaw14.DepthSets': WHATEVER THE INPUT: true; the input reads as it did. -/
def depthSetsSpec : ChangeSpec := { name := "depthSets", fn := fun _ => fun
  | [d1, d2, d3, d4, d5] => { results := [.lit (.bool true)], args := [d1, d2, d3, d4, d5] }
  | _ => none }
def depthSetsRow : OpenClaim := { program := "ytlmclkamedhmhaa", sum := "36f029dd7b624b30ab0fe7c7f412a8ac6ba4cc309103482145dbba0dbb4b8e51", func := "lockorder/lockorderlaw14.DepthSets", spec := "depthSets", apart := false }
def DepthSetsSaid : Prop := depthSetsRow.holds Try.pinned (OpenSpec.ofChange depthSetsSpec)

/-- ITS FALSE NEIGHBOUR: 'it returns false'. Refute it at one input. -/
def depthSetsWrong : ChangeSpec := { name := "depthSets", fn := fun _ => fun
  | [d1, d2, d3, d4, d5] => { results := [.lit (.bool false)], args := [d1, d2, d3, d4, d5] }
  | _ => none }
def DepthSetsWrongFalsely : Prop := depthSetsRow.holds Try.pinned (OpenSpec.ofChange depthSetsWrong)

/-- 'lockorderlaw14.DepthUnions': WHATEVER THE INPUT: true; the input reads as it did. -/
def depthUnionsSpec : ChangeSpec := { name := "depthUnions", fn := fun _ => fun
  | [d1, d2, d3, d4, d5, d6] => { results := [.lit (.bool true)], args := [d1, d2, d3, d4, d5, d6] }
  | _ => none }
def depthUnionsRow : OpenClaim := { program := "ytlmclkamedhmhaa", sum := "36f029dd7b624b30ab0fe7c7f412a8ac6ba4cc309103482145dbba0dbb4b8e51", func := "lockorder/lockorderlaw14.DepthUnions", spec := "depthUnions", apart := false }
def DepthUnionsSaid : Prop := depthUnionsRow.holds Try.pinned (OpenSpec.ofChange depthUnionsSpec)

/-- ITS FALSE NEIGHBOUR: 'it returns false'. Refute it at one input. -/
def depthUnionsWrong : ChangeSpec := { name := "depthUnions", fn := fun _ => fun
  | [d1, d2, d3, d4, d5, d6] => { results := [.lit (.bool false)], args := [d1, d2, d3, d4, d5, d6] }
  | _ => none }
def DepthUnionsWrongFalsely : Prop := depthUnionsRow.holds Try.pinned (OpenSpec.ofChange depthUnionsWrong)

/-- 'lockorderlaw14.DepthApply': WHATEVER THE INPUT: true; the input reads as it did. -/
def depthApplySpec : ChangeSpec := { name := "depthApply", fn := fun _ => fun
  | [d1, d2, d3, d4] => { results := [.lit (.bool true)], args := [d1, d2, d3, d4] }
  | _ => none }
def depthApplyRow : OpenClaim := { program := "ytlmclkamedhmhaa", sum := "36f029dd7b624b30ab0fe7c7f412a8ac6ba4cc309103482145dbba0dbb4b8e51", func := "lockorder/lockorderlaw14.DepthApply", spec := "depthApply", apart := false }
def DepthApplySaid : Prop := depthApplyRow.holds Try.pinned (OpenSpec.ofChange depthApplySpec)

/-- ITS FALSE NEIGHBOUR: 'it returns false'. Refute it at one input. -/
def depthApplyWrong : ChangeSpec := { name := "depthApply", fn := fun _ => fun
  | [d1, d2, d3, d4] => { results := [.lit (.bool false)], args := [d1, d2, d3, d4] }
  | _ => none }
def DepthApplyWrongFalsely : Prop := depthApplyRow.holds Try.pinned (OpenSpec.ofChange depthApplyWrong)

/-- 'lockorderlaw14.DepthMonotone': WHATEVER THE INPUT: true; the input reads as it did. -/
def depthMonotoneSpec : ChangeSpec := { name := "depthMonotone", fn := fun _ => fun
  | [d1, d2, d3, d4] => { results := [.lit (.bool true)], args := [d1, d2, d3, d4] }
  | _ => none }
def depthMonotoneRow : OpenClaim := { program := "ytlmclkamedhmhaa", sum := "36f029dd7b624b30ab0fe7c7f412a8ac6ba4cc309103482145dbba0dbb4b8e51", func := "lockorder/lockorderlaw14.DepthMonotone", spec := "depthMonotone", apart := false }
def DepthMonotoneSaid : Prop := depthMonotoneRow.holds Try.pinned (OpenSpec.ofChange depthMonotoneSpec)

/-- ITS FALSE NEIGHBOUR: 'it returns false'. Refute it at one input. -/
def depthMonotoneWrong : ChangeSpec := { name := "depthMonotone", fn := fun _ => fun
  | [d1, d2, d3, d4] => { results := [.lit (.bool false)], args := [d1, d2, d3, d4] }
  | _ => none }
def DepthMonotoneWrongFalsely : Prop := depthMonotoneRow.holds Try.pinned (OpenSpec.ofChange depthMonotoneWrong)

/- THE SECOND FORM. 'bulk': how many values and letters a reading holds, each counted each time it is reached (what is shared counts as often as it is met; a slice's spare places count too). A statement '..UptoSaid' is the law's where the arguments, and the package variables that the reading takes, are together of bulk at most 1048576: NARROWER than '..Said'. Prove '..Said' where nothing that the law and all that it calls make is longer than what came in: it says more and counts as full. Else prove '..UptoSaid'. A law counts once. -/
mutual
def uptoBulk {H : Type} : DataW H → Nat
  | .lit (.string bytes) => bytes.length + 1
  | .lit _ => 1
  | .nil => 1
  | .ptr d => uptoBulk d + 1
  | .slice elems spare => uptoBulkAll elems + uptoBulkAll spare + 1
  | .agg parts => uptoBulkAll parts + 1
  | .iface _ d => uptoBulk d + 1
  | .map entries => uptoBulkEntries entries + 1
  | .held _ => 1
def uptoBulkAll {H : Type} : List (DataW H) → Nat
  | [] => 0
  | d :: r => uptoBulk d + uptoBulkAll r
def uptoBulkEntries {H : Type} : List (Lit × DataW H) → Nat
  | [] => 0
  | x :: r => uptoBulkEntry x + uptoBulkEntries r
def uptoBulkEntry {H : Type} : Lit × DataW H → Nat
  | (.string bytes, d) => bytes.length + uptoBulk d + 1
  | (_, d) => uptoBulk d + 1
 end
def uptoSmall : (H : Type) → List (DataW H) → Bool := fun _ ds => decide (uptoBulkAll ds ≤ 1048576)
def OpenSpec.upto (s : _root_.Go.ChangeSpec) : _root_.Go.OpenSpec := { _root_.Go.OpenSpec.ofChange s with cond := some uptoSmall }

/-- 'lockorderlaw24.EffectOf', WHERE WHAT IT READS IS OF BULK AT MOST 1048576: true; the input reads as it did. -/
def effectOfUptoRow : OpenClaim := { program := "ytlmclkamedhmhaa", sum := "36f029dd7b624b30ab0fe7c7f412a8ac6ba4cc309103482145dbba0dbb4b8e51", func := "lockorder/lockorderlaw24.EffectOf", spec := "effectOf", apart := false, narrowed := true }
def EffectOfUptoSaid : Prop := effectOfUptoRow.holds Try.pinned (OpenSpec.upto effectOfSpec)

/-- 'lockorderlaw24.EffectThen', WHERE WHAT IT READS IS OF BULK AT MOST 1048576: true; the input reads as it did. -/
def effectThenUptoRow : OpenClaim := { program := "ytlmclkamedhmhaa", sum := "36f029dd7b624b30ab0fe7c7f412a8ac6ba4cc309103482145dbba0dbb4b8e51", func := "lockorder/lockorderlaw24.EffectThen", spec := "effectThen", apart := false, narrowed := true }
def EffectThenUptoSaid : Prop := effectThenUptoRow.holds Try.pinned (OpenSpec.upto effectThenSpec)

/-- 'lockorderlaw24.EffectPath', WHERE WHAT IT READS IS OF BULK AT MOST 1048576: true; the input reads as it did. -/
def effectPathUptoRow : OpenClaim := { program := "ytlmclkamedhmhaa", sum := "36f029dd7b624b30ab0fe7c7f412a8ac6ba4cc309103482145dbba0dbb4b8e51", func := "lockorder/lockorderlaw24.EffectPath", spec := "effectPath", apart := false, narrowed := true }
def EffectPathUptoSaid : Prop := effectPathUptoRow.holds Try.pinned (OpenSpec.upto effectPathSpec)

/-- 'lockorderlaw24.EffectMonoid', WHERE WHAT IT READS IS OF BULK AT MOST 1048576: true; the input reads as it did. -/
def effectMonoidUptoRow : OpenClaim := { program := "ytlmclkamedhmhaa", sum := "36f029dd7b624b30ab0fe7c7f412a8ac6ba4cc309103482145dbba0dbb4b8e51", func := "lockorder/lockorderlaw24.EffectMonoid", spec := "effectMonoid", apart := false, narrowed := true }
def EffectMonoidUptoSaid : Prop := effectMonoidUptoRow.holds Try.pinned (OpenSpec.upto effectMonoidSpec)

/-- 'lockorderlaw24.EffectFits', WHERE WHAT IT READS IS OF BULK AT MOST 1048576: true; the input reads as it did. -/
def effectFitsUptoRow : OpenClaim := { program := "ytlmclkamedhmhaa", sum := "36f029dd7b624b30ab0fe7c7f412a8ac6ba4cc309103482145dbba0dbb4b8e51", func := "lockorder/lockorderlaw24.EffectFits", spec := "effectFits", apart := false, narrowed := true }
def EffectFitsUptoSaid : Prop := effectFitsUptoRow.holds Try.pinned (OpenSpec.upto effectFitsSpec)

/-- 'lockorderlaw24.EffectRun', WHERE WHAT IT READS IS OF BULK AT MOST 1048576: true; the input reads as it did. -/
def effectRunUptoRow : OpenClaim := { program := "ytlmclkamedhmhaa", sum := "36f029dd7b624b30ab0fe7c7f412a8ac6ba4cc309103482145dbba0dbb4b8e51", func := "lockorder/lockorderlaw24.EffectRun", spec := "effectRun", apart := false, narrowed := true }
def EffectRunUptoSaid : Prop := effectRunUptoRow.holds Try.pinned (OpenSpec.upto effectRunSpec)

/-- 'lockorderlaw14.DepthShifts', WHERE WHAT IT READS IS OF BULK AT MOST 1048576: true; the input reads as it did. -/
def depthShiftsUptoRow : OpenClaim := { program := "ytlmclkamedhmhaa", sum := "36f029dd7b624b30ab0fe7c7f412a8ac6ba4cc309103482145dbba0dbb4b8e51", func := "lockorder/lockorderlaw14.DepthShifts", spec := "depthShifts", apart := false, narrowed := true }
def DepthShiftsUptoSaid : Prop := depthShiftsUptoRow.holds Try.pinned (OpenSpec.upto depthShiftsSpec)

/-- 'lockorderlaw14.DepthMonoid', WHERE WHAT IT READS IS OF BULK AT MOST 1048576: true; the input reads as it did. -/
def depthMonoidUptoRow : OpenClaim := { program := "ytlmclkamedhmhaa", sum := "36f029dd7b624b30ab0fe7c7f412a8ac6ba4cc309103482145dbba0dbb4b8e51", func := "lockorder/lockorderlaw14.DepthMonoid", spec := "depthMonoid", apart := false, narrowed := true }
def DepthMonoidUptoSaid : Prop := depthMonoidUptoRow.holds Try.pinned (OpenSpec.upto depthMonoidSpec)

/-- 'lockorderlaw14.DepthSets', WHERE WHAT IT READS IS OF BULK AT MOST 1048576: true; the input reads as it did. -/
def depthSetsUptoRow : OpenClaim := { program := "ytlmclkamedhmhaa", sum := "36f029dd7b624b30ab0fe7c7f412a8ac6ba4cc309103482145dbba0dbb4b8e51", func := "lockorder/lockorderlaw14.DepthSets", spec := "depthSets", apart := false, narrowed := true }
def DepthSetsUptoSaid : Prop := depthSetsUptoRow.holds Try.pinned (OpenSpec.upto depthSetsSpec)

/-- 'lockorderlaw14.DepthUnions', WHERE WHAT IT READS IS OF BULK AT MOST 1048576: true; the input reads as it did. -/
def depthUnionsUptoRow : OpenClaim := { program := "ytlmclkamedhmhaa", sum := "36f029dd7b624b30ab0fe7c7f412a8ac6ba4cc309103482145dbba0dbb4b8e51", func := "lockorder/lockorderlaw14.DepthUnions", spec := "depthUnions", apart := false, narrowed := true }
def DepthUnionsUptoSaid : Prop := depthUnionsUptoRow.holds Try.pinned (OpenSpec.upto depthUnionsSpec)

/-- 'lockorderlaw14.DepthApply', WHERE WHAT IT READS IS OF BULK AT MOST 1048576: true; the input reads as it did. -/
def depthApplyUptoRow : OpenClaim := { program := "ytlmclkamedhmhaa", sum := "36f029dd7b624b30ab0fe7c7f412a8ac6ba4cc309103482145dbba0dbb4b8e51", func := "lockorder/lockorderlaw14.DepthApply", spec := "depthApply", apart := false, narrowed := true }
def DepthApplyUptoSaid : Prop := depthApplyUptoRow.holds Try.pinned (OpenSpec.upto depthApplySpec)

/-- 'lockorderlaw14.DepthMonotone', WHERE WHAT IT READS IS OF BULK AT MOST 1048576: true; the input reads as it did. -/
def depthMonotoneUptoRow : OpenClaim := { program := "ytlmclkamedhmhaa", sum := "36f029dd7b624b30ab0fe7c7f412a8ac6ba4cc309103482145dbba0dbb4b8e51", func := "lockorder/lockorderlaw14.DepthMonotone", spec := "depthMonotone", apart := false, narrowed := true }
def DepthMonotoneUptoSaid : Prop := depthMonotoneUptoRow.holds Try.pinned (OpenSpec.upto depthMonotoneSpec)

end Rows
end Go.Proofs.Ytlmclkamedhmhaa
