/-
  Facts of the row InvariantRaw. Conditions: none.
-/
import Derived.Test.YtonbocmibeikmaaGreatIX19
import Derived.Test.YtonbocmibeikmaaGreatIX20
import Derived.Test.YtonbocmibeikmaaGreatIX21
namespace Go.Proofs.YtonbocmibeikmaaGreat.invariantRaw
theorem facts : joinedFacts Tryz.prog 11 Tryz.f11 Rows.invariantRawSpec Rows.invariantRawRow = true := by
  have h1 := f1
  have h2 := f2
  simp only [Bool.and_eq_true] at h1 h2
  obtain ⟨⟨h11, h12⟩, h13⟩ := h1
  obtain ⟨⟨⟨h21, h22⟩, h23⟩, h24⟩ := h2
  unfold joinedFacts
  rw [h11, h12, h13, h21, h22, h23, h24]
  show _ = true
  kernel_rfl
end Go.Proofs.YtonbocmibeikmaaGreat.invariantRaw
