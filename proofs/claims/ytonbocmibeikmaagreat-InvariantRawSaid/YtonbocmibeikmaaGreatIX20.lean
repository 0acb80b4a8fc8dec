/-
  Facts of the row InvariantRaw. Conditions: none.
-/
import Derived.Test.YtonbocmibeikmaaGreatRows
import Derived.JoinedOf
import Derived.KernelRfl
namespace Go.Proofs.YtonbocmibeikmaaGreat.invariantRaw
theorem f1 : (Tryz.prog.mayEnter && (Rows.invariantRawRow.lifted == Tryz.prog.liftsFinal) && (Tryz.prog.make == some Rows.invariantRawRow.make)) = true := by kernel_rfl
end Go.Proofs.YtonbocmibeikmaaGreat.invariantRaw
