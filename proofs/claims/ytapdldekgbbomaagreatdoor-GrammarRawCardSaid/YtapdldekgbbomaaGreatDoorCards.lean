/-
  DERIVED. GIVEN WITH THE SEED: THE CARDS: each row of YtapdldekgbbomaaGreatDoorRows.lean that lists a variable, with what it lists TIED to the program's text (the seventh form; the later family's looks); each row that meets fmt, with fmt's text TOLD by the authors' own Lean function (tested against real Go, not proved from fmt's source: count such statements apart). THE CARD IS WHAT COUNTS. Prove the row's statement (the work); the ties are given (YtapdldekgbbomaaGreatDoorTie.lean); close each card by the builder's one call (the guide's Derived/Test/ToyasCard.lean, 'card_holds'). Laid BY PROGRAM, IN A SANDBOX (cutbox-door.mjs). By AI agents, Wed Nov 11 2026. No macro, syntax, notation, axiom, sorry.
-/
import Derived.Test.YtapdldekgbbomaaGreatDoorRows
import GoSem.ClaimSeven
namespace Go.Proofs.YtapdldekgbbomaaGreatDoor
namespace Rows

/-- THE TIED CARD OF 'lockorderlaw25.GrammarEffects'. -/
def grammarEffectsCard : Claim7 := { stood := { row := grammarEffectsRow, standIns := [], harness := (true, "00fb16db35dd6fe3083e2d0f536a6e1f7ff9b6c017a5853b3fec44c1b00c8f0b"), looks := false }, kinds := [], alts := [], laidByText := true, laidKinds := [.data], laidTests := true, laidLooks := .later }
def GrammarEffectsCardSaid : Prop := Claim7.holds Tryz.pinned (.plain (OpenSpec.ofChange grammarEffectsSpec)) grammarEffectsCard

/-- THE TIED CARD OF 'lockorderlaw25.GrammarRaw'. -/
def grammarRawCard : Claim7 := { stood := { row := grammarRawRow, standIns := [], harness := (true, "00fb16db35dd6fe3083e2d0f536a6e1f7ff9b6c017a5853b3fec44c1b00c8f0b"), looks := false }, kinds := [], alts := [], laidByText := true, laidKinds := [.data], laidTests := true, laidLooks := .later }
def GrammarRawCardSaid : Prop := Claim7.holds Tryz.pinned (.plain (OpenSpec.ofChange grammarRawSpec)) grammarRawCard

/-- THE TIED CARD OF 'lockorderlaw25.GrammarLength'. -/
def grammarLengthCard : Claim7 := { stood := { row := grammarLengthRow, standIns := [], harness := (true, "00fb16db35dd6fe3083e2d0f536a6e1f7ff9b6c017a5853b3fec44c1b00c8f0b"), looks := false }, kinds := [], alts := [], laidByText := true, laidKinds := [.data], laidTests := true, laidLooks := .later }
def GrammarLengthCardSaid : Prop := Claim7.holds Tryz.pinned (.plain (OpenSpec.ofChange grammarLengthSpec)) grammarLengthCard

/-- THE TIED CARD OF 'lockorderlaw25.GrammarPath'. -/
def grammarPathCard : Claim7 := { stood := { row := grammarPathRow, standIns := [], harness := (true, "00fb16db35dd6fe3083e2d0f536a6e1f7ff9b6c017a5853b3fec44c1b00c8f0b"), looks := false }, kinds := [], alts := [], laidByText := true, laidKinds := [.data], laidTests := true, laidLooks := .later }
def GrammarPathCardSaid : Prop := Claim7.holds Tryz.pinned (.plain (OpenSpec.ofChange grammarPathSpec)) grammarPathCard

/-- THE SECOND FORM's CARD OF 'lockorderlaw25.GrammarEffects'. -/
def grammarEffectsUptoCard : Claim7 := { stood := { row := grammarEffectsUptoRow, standIns := [], harness := (true, "00fb16db35dd6fe3083e2d0f536a6e1f7ff9b6c017a5853b3fec44c1b00c8f0b"), looks := false }, kinds := [], alts := [], laidByText := true, laidKinds := [.data], laidTests := true, laidLooks := .later }
def GrammarEffectsUptoCardSaid : Prop := Claim7.holds Tryz.pinned (.plain (OpenSpec.upto grammarEffectsSpec)) grammarEffectsUptoCard

/-- THE SECOND FORM's CARD OF 'lockorderlaw25.GrammarRaw'. -/
def grammarRawUptoCard : Claim7 := { stood := { row := grammarRawUptoRow, standIns := [], harness := (true, "00fb16db35dd6fe3083e2d0f536a6e1f7ff9b6c017a5853b3fec44c1b00c8f0b"), looks := false }, kinds := [], alts := [], laidByText := true, laidKinds := [.data], laidTests := true, laidLooks := .later }
def GrammarRawUptoCardSaid : Prop := Claim7.holds Tryz.pinned (.plain (OpenSpec.upto grammarRawSpec)) grammarRawUptoCard

/-- THE SECOND FORM's CARD OF 'lockorderlaw25.GrammarLength'. -/
def grammarLengthUptoCard : Claim7 := { stood := { row := grammarLengthUptoRow, standIns := [], harness := (true, "00fb16db35dd6fe3083e2d0f536a6e1f7ff9b6c017a5853b3fec44c1b00c8f0b"), looks := false }, kinds := [], alts := [], laidByText := true, laidKinds := [.data], laidTests := true, laidLooks := .later }
def GrammarLengthUptoCardSaid : Prop := Claim7.holds Tryz.pinned (.plain (OpenSpec.upto grammarLengthSpec)) grammarLengthUptoCard

/-- THE SECOND FORM's CARD OF 'lockorderlaw25.GrammarPath'. -/
def grammarPathUptoCard : Claim7 := { stood := { row := grammarPathUptoRow, standIns := [], harness := (true, "00fb16db35dd6fe3083e2d0f536a6e1f7ff9b6c017a5853b3fec44c1b00c8f0b"), looks := false }, kinds := [], alts := [], laidByText := true, laidKinds := [.data], laidTests := true, laidLooks := .later }
def GrammarPathUptoCardSaid : Prop := Claim7.holds Tryz.pinned (.plain (OpenSpec.upto grammarPathSpec)) grammarPathUptoCard
end Rows
end Go.Proofs.YtapdldekgbbomaaGreatDoor
