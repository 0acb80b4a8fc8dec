/-
  WHAT THE LISTED VARIABLE HOLDS; A CALL FROM OUTSIDE. Conditions: none.
-/
import Derived.Test.YtfcbamfgejfleaaDoorRows
import Derived.Test.YtfcbamfgejfleaaDoorCfg
import Derived.Test.YtfcbamfgejfleaaDoorAbsEnd
import Derived.Below
import Derived.WalkKit
import Derived.ProofKit
import Derived.LaidMore
import Derived.OpenShut
import Derived.FnData
import Derived.Stop.Joined
namespace Go.Proofs.YtfcbamfgejfleaaDoor
open Go.Ab Go.ChangeShapes Go.WideShapes Go.ChangeAt Go.RowKit
set_option linter.unusedVariables false
set_option maxRecDepth 100000

theorem own : ownKnob Tryd.prog.godebug = none := by kernel_rfl
theorem laidOut : laidOutB Tryd.prog = true := by kernel_rfl
theorem gCalling : Tryd.prog.globalNamed "lockorder/grammar.calling" = some 0 := by kernel_rfl
theorem tCalling : (Tryd.prog.globals[0]?).map (·.type) = some 150 := by kernel_rfl
abbrev laid1 : List (String × DataW Unit) := [("lockorder/grammar.calling", Rows.laid_lockorder_grammar_calling)]

theorem door_met (os : Os) (args : Array Value) : laidMetH Tryd.prog laid1 ((World.doorLaid Tryd.prog 400 os).forCall (fun _ _ => 0) ⟨#[], args, []⟩).memory :=
  laidMetH_of_parts3 (fuel := 8) (laidMet_of_run' 8 (by kernel_rfl) (by kernel_rfl)) (by kernel_rfl) (by kernel_rfl)

def callsL : List Bool := [false, false, true, false, false, false, false, false, false]

/-- What the condition gives the walks: the table's cells. -/
theorem of_laid {W : World} (h : laidMetH Tryd.prog laid1 W) (j : Nat) (b : Bool) (hj : callsL[j]? = some b) : W.cell? ⟨0, j, none⟩ = some (.bool b) := by
  rw [MakeChecks.laidMetH_plain _ _ _ (by kernel_rfl)] at h
  obtain ⟨ps, ⟨g0, t0, cs0, f0, p0, q0, hg0, ht0, hv0, hd0, _, _⟩, _, _⟩ := h
  obtain rfl := Option.some.inj (gCalling.symm.trans hg0)
  obtain rfl := Option.some.inj (tCalling.symm.trans ht0)
  rw [World.var?_cell hg0 hv0 j]
  obtain ⟨xs, m1, rfl, hx1, hlen, hn, hel⟩ := DataW.trod_array Tryd.underlying150 hd0
  have c4 : Tryd.prog.cellsOf 4 = 1 := by kernel_rfl
  have c150 : Tryd.prog.cellsOf 150 = 9 := by kernel_rfl
  have hj9 : j < 9 := by
    have := (List.getElem?_eq_some_iff.1 hj).1
    simpa [callsL] using this
  have hjx : j < xs.length := by omega
  have h0 := hel j hj9
  rw [c4, List.getElem?_eq_getElem hjx] at h0
  obtain ⟨b', e1, e2⟩ := DataW.trod_bool Tryd.underlying4 h0
  have hd : (callsL.map fun b => (DataW.lit (.bool b) : DataW Unit)) = xs.map (·.1) := by
    simp only [Prod.mk.injEq, Rows.laid_lockorder_grammar_calling, DataW.agg.injEq] at hx1
    exact hx1.1
  have hb : some (DataW.lit (.bool b) : DataW Unit) = some (.lit (.bool b')) := by
    have h1 := congrArg (·[j]?) hd
    simp only [List.getElem?_map, hj, Option.map_some, List.getElem?_eq_getElem hjx, e2] at h1
    exact h1
  have eb : b = b' := by
    have := Option.some.inj hb
    simpa using this
  subst eb
  rw [Nat.mul_one] at e1
  rw [c150] at hlen
  have hlt : j < cs0.toList.length := by omega
  rw [List.drop_eq_getElem_cons hlt, List.take_succ_cons, List.take_zero] at e1
  rw [← Array.getElem?_toList, List.getElem?_eq_getElem hlt]
  exact congrArg some (List.cons.inj e1).1

theorem prel_glob {W : World} (h : laidMetH Tryd.prog laid1 W) (φ : Map) (g : Nat) : PRel W (Stable [] φ W) (.pointer (some ⟨g, 0, none⟩)) (cfg.glob g) := by
  rw [globOk]
  show PRel W (Stable [] φ W) _ (match Nat.beq g 0 with | true => _ | false => _)
  split
  · rename_i hg
    have hg0 : g = 0 := Nat.eq_of_beq_eq_true hg
    subst hg0
    have hb : 0 < W.heap.size := by
      have c0 := of_laid h 0 false rfl
      simp only [World.cell?] at c0
      split at c0
      · rename_i hh
        exact (Array.getElem?_eq_some_iff.1 hh).1
      · cases c0
    refine .cptr 0 0 0 _ (callsL.map Value.bool) (fun j hj => ⟨hb, fun β b hb => by simp at hb⟩) (by simp [callsL]) (fun j v hv => ?_) (fun j v x hv hx => ?_)
    · rw [List.getElem?_map] at hv
      obtain ⟨b, hb, rfl⟩ := Option.map_eq_some_iff.1 hv
      rw [Nat.zero_add]
      exact ⟨of_laid h j b hb, rfl⟩
    · rw [List.getElem?_map] at hv
      obtain ⟨b, hb, rfl⟩ := Option.map_eq_some_iff.1 hv
      have hx' : (callsL.map AV.bool)[j]? = some x := hx
      rw [List.getElem?_map, hb] at hx'
      cases hx'
      exact .bool _
  · exact .any _

/-- A call from outside. -/
theorem law_glob {f : FuncId} {args : List AV} (r : CallA Tryd.prog cfg f args [] (fun x h' => x = .bool true ∧ h' = [])) (w : World) (hl : laidMetH Tryd.prog laid1 w) (cargs : Array Value) (hr : Prels w cargs.toList args) :
    Calls Tryd.prog f cargs w fun e w' => e = .returned (.bool true) ∧ Below w.heap.size w w' := by
  have hst : ∀ k, k < w.heap.size → Free [] (fun _ => (0, 0)) w k := fun k hk => ⟨hk, fun β b hb => by simp at hb⟩
  obtain ⟨k1, k2⟩ := Prels.get hr
  have i : Pic cfg.glob w.heap.size [] (fun _ => (0, 0)) w := ⟨fun β b hb => by simp at hb, fun β β' b b' hb => by simp at hb, fun β b hb => by simp at hb, fun β b hb => by simp at hb, Nat.le_refl _, fun g => prel_glob hl _ g⟩
  refine (r w.heap.size (fun _ => (0, 0)) w cargs i (by simpa using k1) fun j v x h1 h2 => .pure ((k2 j v x (by simpa using h1) h2).mono fun k j hk => ⟨rfl, (hst k hk).stable j⟩)).mono fun e w' hp => ?_
  obtain ⟨v, x, h', φ', rfl, _, ev, hrel, rfl, _⟩ := hp
  rw [hrel.bool_inv]
  exact ⟨rfl, ev.os, ev.tape, ev.output, ev.size, fun k hk => (ev.keep k (hst k hk)).1⟩
end Go.Proofs.YtfcbamfgejfleaaDoor
