/-
  A REGION THAT DRAWS ITS ORDER, WHERE EACH OPERATION MEETS ONE HEAP ALONE: it is gone through like any other. Conditions: 'Good': what is known of the program is so.
-/
import Derived.Test.YtfcbamfgejfleaaDoorAbsWalk
namespace Go.Ab
set_option linter.unusedSimpArgs false
section
variable {P : Program} {C : Cfg}

theorem map_congr' {α β : Type} {f g : α → β} : ∀ {l : List α}, (∀ x ∈ l, f x = g x) → l.map f = l.map g
  | [], _ => rfl
  | x :: l, h => by rw [List.map_cons, List.map_cons, h x (by simp), map_congr' fun y hy => h y (by simp [hy])]

theorem call_args {c : Call} {ρ ρ' : Operand → AV} (hρ : ∀ x ∈ c.operands, ρ x = ρ' x) : ∀ x ∈ c.args.toList, ρ x = ρ' x :=
  fun x hx => hρ x (by unfold Call.operands; exact Array.mem_append.2 (.inr (by simpa using hx)))

theorem callPureA_congr {c : Call} {ρ ρ' : Operand → AV} (hρ : ∀ x ∈ c.args.toList, ρ x = ρ' x) : callPureA C ρ c = callPureA C ρ' c := by
  unfold callPureA
  split
  · split
    · rename_i x t h1 h2
      rw [hρ x (by rw [h1]; simp)]
    · rfl
  · split
    · rename_i x t h1 h2
      rw [hρ x (by rw [h1]; simp)]
    · rfl
  · split
    · rename_i x y h1
      rw [hρ x (by rw [h1]; simp), hρ y (by rw [h1]; simp)]
    · rfl
  · split
    · rename_i x y h1
      rw [hρ x (by rw [h1]; simp), hρ y (by rw [h1]; simp)]
    · rfl
  · rfl

theorem targetA_congr {c : Call} {ρ ρ' : Operand → AV} (hρ : ∀ x ∈ c.operands, ρ x = ρ' x) : targetA C ρ c = targetA C ρ' c := by
  have hm : c.args.toList.map ρ = c.args.toList.map ρ' := map_congr' (call_args hρ)
  unfold targetA
  split
  · rename_i f hc
    rw [hρ f (by unfold Call.operands; rw [hc]; simp), hm]
  · rename_i r n hc
    rw [hρ r (by unfold Call.operands; rw [hc]; simp), hm]
  · rfl

theorem plainA_congr {o : Op} {ρ ρ' : Operand → AV} {h : Heap} (hρ : ∀ x ∈ o.operands, ρ x = ρ' x) : plainA C ρ h o = plainA C ρ' h o := by
  cases o with
  | call c =>
    have ha := call_args (c := c) hρ
    unfold plainA
    rw [show pureA C ρ (.call c) = pureA C ρ' (.call c) from callPureA_congr ha, show readA C ρ h (.call c) = readA C ρ' h (.call c) from rfl]
    have he : effA C ρ h (.call c) = effA C ρ' h (.call c) := by
      simp only [effA]
      split
      · split
        · rename_i b x t u h1 h2
          rw [ha b (by rw [h1]; simp), ha x (by rw [h1]; simp)]
        · rfl
      · rfl
    rw [he]
  | build t parts =>
    have : (parts.toList.map fun p => (p.1, ρ p.2)) = parts.toList.map fun p => (p.1, ρ' p.2) := map_congr' fun p hp => by rw [hρ p.2 (by simp only [Op.operands]; simp; exact ⟨p.1, by simpa using hp⟩)]
    simp only [plainA, pureA, readA, effA, this]
  | buildSlice t n parts =>
    have : (parts.toList.map fun p => (p.1, ρ p.2)) = parts.toList.map fun p => (p.1, ρ' p.2) := map_congr' fun p hp => by rw [hρ p.2 (by simp only [Op.operands]; simp; exact ⟨p.1, by simpa using hp⟩)]
    simp only [plainA, pureA, readA, effA, this]
  | makeFunc f a c =>
    have h1 : a.toList.map ρ = a.toList.map ρ' := map_congr' fun p hp => hρ p (Array.mem_append.2 (.inl (by simpa using hp)))
    have h2 : c.toList.map ρ = c.toList.map ρ' := map_congr' fun p hp => hρ p (Array.mem_append.2 (.inr (by simpa using hp)))
    simp only [plainA, pureA, readA, effA, h1, h2]
  | slice t x l hh m =>
    have h1 := hρ x (by simp [Op.operands])
    have h2 : l.map ρ = l.map ρ' := by cases l with
      | none => rfl
      | some y => simp [hρ y (by simp [Op.operands])]
    have h3 : hh.map ρ = hh.map ρ' := by cases hh with
      | none => rfl
      | some y => simp [hρ y (by simp [Op.operands])]
    cases m <;> simp only [plainA, pureA, readA, effA, h1, h2, h3]
  | move x => simp only [plainA, pureA, hρ x (by simp [Op.operands])]
  | assign x => simp only [plainA, pureA, hρ x (by simp [Op.operands])]
  | pick c a b => simp only [plainA, pureA, readA, effA, hρ c (by simp [Op.operands]), hρ a (by simp [Op.operands]), hρ b (by simp [Op.operands])]
  | box t x => simp only [plainA, pureA, readA, effA, hρ x (by simp [Op.operands])]
  | load t x => simp only [plainA, pureA, readA, effA, hρ x (by simp [Op.operands])]
  | store t p x => simp only [plainA, pureA, readA, effA, hρ x (by simp [Op.operands]), hρ p (by simp [Op.operands])]
  | nilCheck x => simp only [plainA, pureA, readA, effA, hρ x (by simp [Op.operands])]
  | binOp op t x y u => simp only [plainA, pureA, readA, effA, hρ x (by simp [Op.operands]), hρ y (by simp [Op.operands])]
  | unOp op t x => simp only [plainA, pureA, readA, effA, hρ x (by simp [Op.operands])]
  | convert s d x => simp only [plainA, pureA, readA, effA, hρ x (by simp [Op.operands])]
  | makeInterface t x => simp only [plainA, pureA, readA, effA, hρ x (by simp [Op.operands])]
  | makeSlice t x y => simp only [plainA, pureA, readA, effA, hρ x (by simp [Op.operands]), hρ y (by simp [Op.operands])]
  | fieldAddr t x f => simp only [plainA, pureA, readA, effA, hρ x (by simp [Op.operands])]
  | field t x f => simp only [plainA, pureA, readA, effA, hρ x (by simp [Op.operands])]
  | indexAddr t x i => simp only [plainA, pureA, readA, effA, hρ x (by simp [Op.operands]), hρ i (by simp [Op.operands])]
  | index t x i => simp only [plainA, pureA, readA, effA, hρ x (by simp [Op.operands]), hρ i (by simp [Op.operands])]
  | extract x i => simp only [plainA, pureA, readA, effA, hρ x (by simp [Op.operands])]
  | _ => rfl

theorem OpA.congr {o : Op} {ρ ρ' : Operand → AV} {h : Heap} {K : AV → Heap → Prop} (hρ : ∀ x ∈ o.operands, ρ x = ρ' x) (r : OpA P C ρ h o K) : OpA P C ρ' h o K := by
  rcases r with ⟨x, h', h1, h2⟩ | ⟨c, f, args, rfl, h1, h2, h3⟩
  · exact .inl ⟨x, h', by rw [← plainA_congr hρ]; exact h1, h2⟩
  · exact .inr ⟨c, f, args, rfl, by rw [← targetA_congr hρ]; exact h1, h2, h3⟩

theorem rhoR_eq {ops : Array Oper} {o : Oper} {sl : List AV} : ∀ x ∈ o.op.operands, rho C sl x = rhoR C (o.looksAt ops) sl x := by
  intro x hx
  cases x with
  | tmp t =>
    have : t ∈ o.looksAt ops := by
      unfold Oper.looksAt
      refine List.mem_append.2 (.inl (List.mem_filterMap.2 ⟨.tmp t, by simpa using hx, rfl⟩))
    simp only [rhoR, rho, List.contains_iff_mem, this, if_true]
  | _ => rfl

/-- Each operation that leaves the heap meets with one heap alone. -/
def Plan.solo (p : Plan) (ops : Array Oper) : Bool :=
  (List.range ops.size).all fun i => p.isE i || (List.range (p.rank ops.size + 1)).all fun k => k == p.rank i || !p.meets ops.size i k

def OpsS (P : Program) (C : Cfg) (ops : Array Oper) (p : Plan) : List Oper → Nat → St → (St → Prop) → Prop
  | [], _, st, Q => Q st
  | o :: rest, i, st, Q =>
    (wantA ops st.sl o = some true ∧ ∃ x h', OpA P C (rho C st.sl) st.h o.op (fun y h => y = x ∧ h = h') ∧ (p.isE i = false → h' = st.h) ∧ OpsS P C ops p rest (i + 1) ⟨putA st.sl o.dst x, h'⟩ Q) ∨
    (wantA ops st.sl o = some false ∧ p.isE i = false ∧ OpsS P C ops p rest (i + 1) ⟨putA st.sl o.dst (.tup []), st.h⟩ Q)

theorem getD_rev {hs : List Heap} {k : Nat} (x : Heap) (hk : k < hs.length) : (x :: hs).reverse.getD k [] = hs.reverse.getD k [] := by
  simp only [List.reverse_cons, List.getD_eq_getElem?_getD]
  rw [List.getElem?_append_left (by simpa using hk)]

theorem draw_of_solo {ops : Array Oper} {p : Plan} (hs : p.solo ops = true) {Q : St → Prop} : ∀ (l : List Oper) (i : Nat) (st : St) (H : List Heap) (pend : List (Nat × (Heap → Prop))), i + l.length = ops.size → OpsS P C ops p l i st Q →
    H.headD [] = st.h → H.length = p.rank i + 1 → (∀ x ∈ pend, x.1 < i ∧ p.isE x.1 = false ∧ x.2 (H.reverse.getD (p.rank x.1) [])) → DrawA P C ops p l i st.sl H pend Q
  | [], i, st, H, pend, hi, r, hh, hl, hp => by
    refine ⟨fun x hx k hk hm => ?_, ?_⟩
    · obtain ⟨h1, h2, h3⟩ := hp x hx
      have hi' : i = ops.size := by simpa using hi
      have := List.all_eq_true.1 hs x.1 (List.mem_range.2 (by omega))
      rw [h2, Bool.false_or] at this
      have := List.all_eq_true.1 this k (List.mem_range.2 (by rw [← hi', ← hl]; exact hk))
      rw [hm] at this
      simp at this
      rw [this]
      exact h3
    · obtain ⟨sl, h⟩ := st
      simp only at hh
      rw [hh]
      exact r
  | o :: rest, i, st, H, pend, hi, r, hh, hl, hp => by
    have hrest : i + 1 + rest.length = ops.size := by rw [← hi]; simp; omega
    have hgt : ∀ j, j < i → p.rank j < H.length := fun j hj => by
      have := rank_mono p (Nat.le_of_lt hj)
      omega
    have hcur : H.reverse.getD (p.rank i) [] = st.h := by
      rw [← hh]
      cases H with
      | nil => simp at hl
      | cons x H =>
        simp at hl
        rw [List.getD_eq_getElem?_getD, List.reverse_cons, List.getElem?_append_right (by simp; omega)]
        simp [hl]
    rcases r with ⟨h1, x, h', h2, h3, h4⟩ | ⟨h1, h2, h4⟩
    · have h2' := OpA.congr (rhoR_eq (ops := ops)) h2
      cases hE : p.isE i with
      | true =>
        refine .inl ⟨h1, hE, x, h', ?_, draw_of_solo hs rest (i + 1) _ (h' :: H) pend hrest h4 rfl (by simp [Plan.rank, hE, hl]) fun y hy => ?_⟩
        · rw [hh]; exact h2'
        · obtain ⟨k1, k2, k3⟩ := hp y hy
          exact ⟨by omega, k2, by rw [getD_rev _ (hgt _ k1)]; exact k3⟩
      | false =>
        have he := h3 hE
        subst he
        refine .inr (.inr (.inl ⟨h1, hE, x, draw_of_solo hs rest (i + 1) ⟨putA st.sl o.dst x, st.h⟩ H _ hrest h4 hh (by simp [Plan.rank, hE, hl]) fun y hy => ?_⟩))
        rcases List.mem_cons.1 hy with rfl | hy
        · refine ⟨by simp, hE, ?_⟩
          show OpA P C _ (H.reverse.getD (p.rank i) []) o.op _
          rw [hcur]
          exact h2'
        · obtain ⟨k1, k2, k3⟩ := hp y hy
          exact ⟨by omega, k2, k3⟩
    · refine .inr (.inr (.inr ⟨h1, h2, draw_of_solo hs rest (i + 1) ⟨putA st.sl o.dst (.tup []), st.h⟩ H pend hrest h4 hh (by simp [Plan.rank, h2, hl]) fun y hy => ?_⟩))
      obtain ⟨k1, k2, k3⟩ := hp y hy
      exact ⟨by omega, k2, k3⟩

theorem RunA.solo (g : Good P C) {id : Nat} {ops : Array Oper} {st : St} {Q : Exit → St → Prop} (p : Plan) (hp : p.ok ops st.sl.length = true) (hs : p.solo ops = true) (r : OpsS P C ops p ops.toList 0 st fun st' => Q .normal st') : RunA P C (.region id ops true) st Q :=
  RunA.draw g p hp (draw_of_solo hs ops.toList 0 st [st.h] [] (by simp) r rfl (by simp [Plan.rank]) (by simp))

def quietA (C : Cfg) (ρ : Operand → AV) (h : Heap) (o : Op) : Option AV :=
  match pureA C ρ o with
  | some x => some x
  | none => readA C ρ h o

def stepS (C : Cfg) (e : Bool) (ρ : Operand → AV) (h : Heap) (o : Op) : Option (AV × Heap) :=
  match e with
  | true => plainA C ρ h o
  | false => (quietA C ρ h o).map fun x => (x, h)

/-- The first operations of such a region, none of which is a call. -/
def opsSE (C : Cfg) (ops : Array Oper) (p : Plan) : List Oper → Nat → St → Option St
  | [], _, st => some st
  | o :: rest, i, st => match wantA ops st.sl o with
    | some true => match stepS C (p.isE i) (rho C st.sl) st.h o.op with
      | some (x, h') => opsSE C ops p rest (i + 1) ⟨putA st.sl o.dst x, h'⟩
      | none => none
    | some false => match p.isE i with
      | true => none
      | false => opsSE C ops p rest (i + 1) ⟨putA st.sl o.dst (.tup []), st.h⟩
    | none => none

theorem quietA_plain {ρ : Operand → AV} {h : Heap} {o : Op} {x : AV} (hq : quietA C ρ h o = some x) : plainA C ρ h o = some (x, h) := by
  unfold quietA at hq
  unfold plainA
  split at hq
  · rename_i y hy
    rw [hy, hq]
  · rename_i hn
    rw [hn, hq]

theorem OpsS.pre {ops : Array Oper} {p : Plan} {l : List Oper} {i : Nat} {st st' : St} {Q : St → Prop} (k : Nat) (h : opsSE C ops p (l.take k) i st = some st') (hk : OpsS P C ops p (l.drop k) (i + (l.take k).length) st' Q) : OpsS P C ops p l i st Q := by
  have key : ∀ (l1 : List Oper) (i : Nat) (s : St), opsSE C ops p l1 i s = some st' → OpsS P C ops p (l.drop k) (i + l1.length) st' Q → OpsS P C ops p (l1 ++ l.drop k) i s Q := by
    intro l1
    induction l1 with
    | nil =>
      intro i s hs hk
      simp only [opsSE, Option.some.injEq] at hs
      subst hs
      exact hk
    | cons o l1 ih =>
      intro i s hs hk
      have hk' : OpsS P C ops p (l.drop k) (i + 1 + l1.length) st' Q := by
        rw [show i + 1 + l1.length = i + (o :: l1).length from by simp; omega]; exact hk
      simp only [opsSE] at hs
      split at hs
      · rename_i hw
        split at hs
        · rename_i x h' hp
          cases hE : p.isE i with
          | true =>
            rw [hE] at hp
            exact .inl ⟨hw, x, h', .plain hp ⟨rfl, rfl⟩, fun h => by simp [hE] at h, ih _ _ hs hk'⟩
          | false =>
            rw [hE] at hp
            simp only [stepS, Option.map_eq_some_iff, Prod.mk.injEq] at hp
            obtain ⟨y, hy, rfl, rfl⟩ := hp
            exact .inl ⟨hw, y, s.h, .plain (quietA_plain hy) ⟨rfl, rfl⟩, fun _ => rfl, ih _ _ hs hk'⟩
        · cases hs
      · rename_i hw
        split at hs
        · cases hs
        · rename_i hE
          exact .inr ⟨hw, hE, ih _ _ hs hk'⟩
      · cases hs
  rw [← List.take_append_drop k l]
  exact key _ _ _ h hk

theorem OpsS.split {ops : Array Oper} {p : Plan} {l : List Oper} {i : Nat} {st : St} {Q : St → Prop} {b : Bool} (d : Nat) (hv : st.sl.getD d .any = .bool b) (ht : b = true → OpsS P C ops p l i st Q) (hf : b = false → OpsS P C ops p l i st Q) : OpsS P C ops p l i st Q := by
  cases b with
  | true => exact ht rfl
  | false => exact hf rfl

/-- A call that leaves the picture's heap as it is. -/
theorem OpsS.call {ops : Array Oper} {p : Plan} {o : Oper} {rest : List Oper} {i : Nat} {st : St} {Q : St → Prop} {c : Call} {f : FuncId} {args : List AV} {x : AV} (hw : wantA ops st.sl o = some true) (ho : o.op = .call c) (ht : targetA C (rho C st.sl) c = some (f, args)) (hb : hasBody C f = true)
    (hc : CallA P C f args st.h fun y h' => y = x ∧ h' = st.h) (hk : OpsS P C ops p rest (i + 1) ⟨putA st.sl o.dst x, st.h⟩ Q) : OpsS P C ops p (o :: rest) i st Q :=
  .inl ⟨hw, x, st.h, by rw [ho]; exact .call ht hb hc, fun _ => rfl, hk⟩

theorem OpsA.callQ {ops : Array Oper} {o : Oper} {rest : List Oper} {st : St} {Q : St → Prop} {c : Call} {f : FuncId} {args : List AV} {x : AV} (hw : wantA ops st.sl o = some true) (ho : o.op = .call c) (ht : targetA C (rho C st.sl) c = some (f, args)) (hb : hasBody C f = true)
    (hc : CallA P C f args st.h fun y h' => y = x ∧ h' = st.h) (hk : OpsA P C ops rest ⟨putA st.sl o.dst x, st.h⟩ Q) : OpsA P C ops (o :: rest) st Q :=
  .call hw ho ht hb (hc.mono fun _ _ ⟨h1, h2⟩ => by rw [h1, h2]; exact hk)

end
end Go.Ab
