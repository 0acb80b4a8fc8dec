/-
  Facts of the row InvariantRaw. Conditions: none.
-/
import Derived.Test.YtonbocmibeikmaaGreatRows
import Derived.JoinedOf
import Derived.KernelRfl
namespace Go.Proofs.YtonbocmibeikmaaGreat.invariantRaw
theorem f2 : ((Rows.invariantRawRow.inPlace == Tryz.prog.inPlace 11) && (Rows.invariantRawRow.unfollowed == Tryz.prog.unfollowed 11) && (Rows.invariantRawRow.recurses == Tryz.prog.recurses 11) && (Rows.invariantRawRow.named == Tryz.prog.varsNamed 11)) = true := by kernel_rfl
end Go.Proofs.YtonbocmibeikmaaGreat.invariantRaw
