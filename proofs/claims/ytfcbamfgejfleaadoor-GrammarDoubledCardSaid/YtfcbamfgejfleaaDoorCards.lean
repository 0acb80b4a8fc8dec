/-
  DERIVED. GIVEN WITH THE SEED: THE CARDS: each row of YtfcbamfgejfleaaDoorRows.lean that lists a variable, with what it lists TIED to the program's text (the seventh form; the later family's looks); each row that meets fmt, with fmt's text TOLD by the authors' own Lean function (tested against real Go, not proved from fmt's source: count such statements apart). THE CARD IS WHAT COUNTS. Prove the row's statement (the work); the ties are given (YtfcbamfgejfleaaDoorTie.lean); close each card by the builder's one call (the guide's Derived/Test/ToyasCard.lean, 'card_holds'). Laid BY PROGRAM, IN A SANDBOX (cutbox-door.mjs). By AI agents, Wed Nov 11 2026. No macro, syntax, notation, axiom, sorry.
-/
import Derived.Test.YtfcbamfgejfleaaDoorRows
import GoSem.ClaimSeven
namespace Go.Proofs.YtfcbamfgejfleaaDoor
namespace Rows

/-- THE TIED CARD OF 'lockorderlaw25.GrammarDoubled'. -/
def grammarDoubledCard : Claim7 := { stood := { row := grammarDoubledRow, standIns := [], harness := (true, "6ef2d6bc88b814db44a729a7f0bf356d422a2908e9a3588ac3adfcb690c0dd92"), looks := false }, kinds := [], alts := [], laidByText := true, laidKinds := [.data], laidTests := true, laidLooks := .later }
def GrammarDoubledCardSaid : Prop := Claim7.holds Tryd.pinned (.plain (OpenSpec.ofChange grammarDoubledSpec)) grammarDoubledCard

/-- THE TIED CARD OF 'lockorderlaw25.GrammarEarlier'. -/
def grammarEarlierCard : Claim7 := { stood := { row := grammarEarlierRow, standIns := [], harness := (true, "6ef2d6bc88b814db44a729a7f0bf356d422a2908e9a3588ac3adfcb690c0dd92"), looks := false }, kinds := [], alts := [], laidByText := true, laidKinds := [.data], laidTests := true, laidLooks := .later }
def GrammarEarlierCardSaid : Prop := Claim7.holds Tryd.pinned (.plain (OpenSpec.ofChange grammarEarlierSpec)) grammarEarlierCard

/-- THE SECOND FORM's CARD OF 'lockorderlaw25.GrammarDoubled'. -/
def grammarDoubledUptoCard : Claim7 := { stood := { row := grammarDoubledUptoRow, standIns := [], harness := (true, "6ef2d6bc88b814db44a729a7f0bf356d422a2908e9a3588ac3adfcb690c0dd92"), looks := false }, kinds := [], alts := [], laidByText := true, laidKinds := [.data], laidTests := true, laidLooks := .later }
def GrammarDoubledUptoCardSaid : Prop := Claim7.holds Tryd.pinned (.plain (OpenSpec.upto grammarDoubledSpec)) grammarDoubledUptoCard

/-- THE SECOND FORM's CARD OF 'lockorderlaw25.GrammarEarlier'. -/
def grammarEarlierUptoCard : Claim7 := { stood := { row := grammarEarlierUptoRow, standIns := [], harness := (true, "6ef2d6bc88b814db44a729a7f0bf356d422a2908e9a3588ac3adfcb690c0dd92"), looks := false }, kinds := [], alts := [], laidByText := true, laidKinds := [.data], laidTests := true, laidLooks := .later }
def GrammarEarlierUptoCardSaid : Prop := Claim7.holds Tryd.pinned (.plain (OpenSpec.upto grammarEarlierSpec)) grammarEarlierUptoCard
end Rows
end Go.Proofs.YtfcbamfgejfleaaDoor
