/-
  CALLS WITH PLAIN ARGUMENTS AND A PLAIN RESULT, WORKED OUT WITHOUT THE CALLER's HEAP; VIEWS WITHIN A REGION. Conditions: 'Good': what is known of the program is so.
-/
import Derived.Test.YtfcbamfgejfleaaDoorAbsView
namespace Go.Ab
section
variable {P : Program} {C : Cfg}

/-- Calls of some functions are worked out on the empty heap. -/
def callF (fs : FuncId → Bool) (call : CallE) : CallE := fun f args h => match fs f with
  | true => match args.all (refsOk 0 9) with
    | true => match call f args [] with
      | some (x, _) => match x.scalar with
        | true => fA0 x fun x => some (x, h)
        | false => call f args h
      | none => call f args h
    | false => call f args h
  | false => call f args h

theorem scal_scalar {x : AV} (hx : x.scalar = true) : scal x = x := by
  cases x <;> first | rfl | cases hx

theorem callF_ok {fs : FuncId → Bool} {call : CallE} (hc : call.ok P C) : (callF fs call).ok P C := by
  intro f args h x h' he
  unfold callF at he
  split at he
  · split at he
    · rename_i ha
      split at he
      · rename_i y h1 hy
        split at he
        · rename_i hsc
          simp only [fA0_eq, Option.some.injEq, Prod.mk.injEq] at he
          obtain ⟨rfl, rfl⟩ := he
          have r := CallA.frameP ha ((hc f args [] _ _ hy).mono fun _ _ e => e.1) h
          rw [scal_scalar hsc] at r
          exact r
        · exact hc _ _ _ _ _ he
      · exact hc _ _ _ _ _ he
    · exact hc _ _ _ _ _ he
  · exact hc _ _ _ _ _ he

/-! ### A region, some of whose slots are seen otherwise on the way -/

/-- The operations of a region, as they are. -/
def OpsX (P : Program) (C : Cfg) (ops : Array Oper) (l : List Oper) (st : St) (Q : St → Prop) : Prop :=
  ∀ (B : Nat) (h0 : Heap) (φ0 : Map) (w0 : World) (φ : Map) (w : World) (a : Act), Pic C.glob B st.h φ w → Ev h0 φ0 w0 st.h φ w → SlRel st.h φ w a st.sl →
    wpList P ops (Post C B h0 φ0 w0 fun e st' => e = .normal ∧ Q st') l a w

theorem RunA.regionX {id : Nat} {ops : Array Oper} {st : St} {Q : Exit → St → Prop} (r : OpsX P C ops ops.toList st fun st' => Q .normal st') : RunA P C (.region id ops false) st Q := by
  intro B φ w a i s
  refine wp_mono (wp_region_list (r B _ _ _ φ w a i (.refl _ _ _) s)) fun e a' w' hp => ?_
  obtain ⟨st', φ', h1, h2, h3, rfl, h4⟩ := hp
  exact ⟨st', φ', h1, h2, h3, h4⟩

theorem OpsX.of (g : Good P C) {ops : Array Oper} {l : List Oper} {st : St} {Q : St → Prop} (r : OpsA P C ops l st Q) : OpsX P C ops l st Q :=
  fun _ _ _ _ φ w a i e s => OpsA.sound g l st φ w a i e s r

theorem OpsX.step (g : Good P C) {ops : Array Oper} {o : Oper} {l : List Oper} {st : St} {Q : St → Prop} (h1 : wantA ops st.sl o = some true) (h2 : OpA P C (rho C st.sl) st.h o.op fun x h' => OpsX P C ops l ⟨putA st.sl o.dst x, h'⟩ Q) : OpsX P C ops (o :: l) st Q := by
  intro B h0 φ0 w0 φ w a i e s
  unfold wpList
  rw [wantA_ok s h1]
  refine .inl (Oper.wp_mono (fun a' w' hp => ?_) (OpA.sound g i (s.eval i rfl) h2))
  obtain ⟨v, x, h', φ', rfl, i', e', r', k⟩ := hp
  exact k B h0 φ0 w0 φ' w' _ i' (e.trans e') ((s.ev e').put o.dst r')

theorem OpsX.skip {ops : Array Oper} {o : Oper} {l : List Oper} {st : St} {Q : St → Prop} (h1 : wantA ops st.sl o = some false) (h2 : OpsX P C ops l ⟨putA st.sl o.dst (.tup []), st.h⟩ Q) : OpsX P C ops (o :: l) st Q := by
  intro B h0 φ0 w0 φ w a i e s
  unfold wpList
  rw [wantA_ok s h1]
  exact h2 B h0 φ0 w0 φ w _ i e (s.put o.dst skip_rel)

theorem OpsX.pre (g : Good P C) {ops : Array Oper} {l : List Oper} {st st' : St} {Q : St → Prop} (k : Nat) (h : opsE C ops (l.take k) st = some st') (hk : OpsX P C ops (l.drop k) st' Q) : OpsX P C ops l st Q := by
  have key : ∀ (l1 : List Oper) (s : St), opsE C ops l1 s = some st' → OpsX P C ops (l1 ++ l.drop k) s Q := by
    intro l1
    induction l1 with
    | nil =>
      intro s hs
      simp only [opsE, Option.some.injEq] at hs
      subst hs
      exact hk
    | cons o l1 ih =>
      intro s hs
      simp only [opsE] at hs
      split at hs
      · rename_i hw
        split at hs
        · rename_i x h' hp
          exact .step g hw (.plain hp (ih _ hs))
        · cases hs
      · rename_i hw
        exact .skip hw (ih _ hs)
      · cases hs
  rw [← List.take_append_drop k l]
  exact key _ _ h

theorem OpsX.nil {ops : Array Oper} {st : St} {Q : St → Prop} (h : Q st) : OpsX P C ops [] st Q :=
  fun _ _ _ _ φ _ _ i e s => ⟨st, φ, i, e, s, rfl, h⟩

variable {h : Heap}
theorem SealA.refl {β g off len : Nat} {cs : List AV} : ∀ (l : List AV), SealA β g off len cs l l
  | [] => trivial
  | _ :: l => ⟨.inl rfl, SealA.refl l⟩
theorem SealA.set {β g off len : Nat} {cs : List AV} : ∀ (l : List AV) (t : Nat), l[t]? = some (.own β g off len) → SealA β g off len cs (l.set t (.vec len cs)) l
  | _ :: l, 0, e => by
    simp at e
    subst e
    exact ⟨.inr ⟨rfl, rfl⟩, SealA.refl l⟩
  | x :: l, t + 1, e => ⟨.inl rfl, SealA.set l t (by simpa using e)⟩
  | [], t, e => by simp at e

theorem OpsX.view {ops : Array Oper} {l : List Oper} {st : St} {Q : St → Prop} {β off len : Nat} {b : Blk} {cs : List AV} (t : Nat) (hb : st.h[β]? = some b) (ht : st.sl[t]? = some (.own β b.gen off len)) (hv : b.virt = false) (hle : off + len * b.esz ≤ b.cells.length)
    (hc : optMap sealC ((b.cells.drop off).take (len * b.esz)) = some cs) (r : OpsX P C ops l ⟨st.sl.set t (.vec len cs), st.h.set β (keepB b (off + len * b.esz))⟩ Q) : OpsX P C ops l st Q := by
  intro B h0 φ0 w0 φ w a i e s
  obtain ⟨i', ev⟩ := keep_blk (off + len * b.esz) i hb
  have hs := SealA.set (cs := cs) st.sl t ht
  generalize st.sl.set t (.vec len cs) = sl' at hs r
  obtain ⟨k1, k2⟩ := hs.get
  refine r B h0 φ0 w0 φ w a i' (e.trans ev) ⟨by rw [k1]; exact s.size, fun t => ?_, s.nodef⟩
  show Rel _ φ w _ (sl'.getD t .any)
  by_cases ht : t < st.sl.length
  · have e1 : sl'.getD t .any = sl'[t]'(by omega) := by simp [List.getD, show t < sl'.length from by omega]
    have e2 : st.sl.getD t .any = st.sl[t] := by simp [List.getD, ht]
    have hr := s.rel t
    simp only [e2] at hr
    rw [e1]
    rcases k2 t _ _ (List.getElem?_eq_getElem (by omega)) (List.getElem?_eq_getElem ht) with hh | ⟨e3, e4⟩
    · rw [hh]; exact ev.rel hr
    · rw [e4]
      rw [e3] at hr
      exact view_rel i hb rfl hv hle hc hr
  · have e1 : sl'.getD t .any = .any := by
      rw [List.getD_eq_getElem?_getD, List.getElem?_eq_none (by omega)]
      rfl
    rw [e1]
    exact .any_of _
end
end Go.Ab
