/-
  A REGION THAT DRAWS ITS ORDER, WHERE SOME OPERATIONS MAY MEET WITH SEVERAL HEAPS (a result stored early): of those it is asked that they yield the same with each. Conditions: 'Good': what is known of the program is so.
-/
import Derived.Test.YtfcbamfgejfleaaDoorAbsSeal
namespace Go.Ab
section
variable {P : Program} {C : Cfg}

/-- Each operation that leaves the heap meets with one heap alone, those of the list apart. -/
def Plan.soloBut (p : Plan) (M : List Nat) (ops : Array Oper) : Bool :=
  (List.range ops.size).all fun i => p.isE i || M.contains i || (List.range (p.rank ops.size + 1)).all fun k => k == p.rank i || !p.meets ops.size i k

def OpsM (P : Program) (C : Cfg) (ops : Array Oper) (p : Plan) (M : List Nat) : List Oper → Nat → St → List Heap → List (Nat × (Heap → Prop)) → (St → Prop) → Prop
  | [], _, st, hs, pend, Q => (∀ x ∈ pend, ∀ k, k < hs.length → p.meets ops.size x.1 k = true → x.2 (hs.reverse.getD k [])) ∧ Q st
  | o :: rest, i, st, hs, pend, Q =>
    (wantA ops st.sl o = some true ∧ ∃ x h', OpA P C (rho C st.sl) st.h o.op (fun y h => y = x ∧ h = h') ∧ (p.isE i = false → h' = st.h) ∧
      OpsM P C ops p M rest (i + 1) ⟨putA st.sl o.dst x, h'⟩ (match p.isE i with | true => h' :: hs | false => hs)
        (match M.contains i with | true => (i, fun H => OpA P C (rho C st.sl) H o.op (fun y h => y = x ∧ h = H)) :: pend | false => pend) Q) ∨
    (wantA ops st.sl o = some false ∧ p.isE i = false ∧ OpsM P C ops p M rest (i + 1) ⟨putA st.sl o.dst (.tup []), st.h⟩ hs pend Q)

theorem draw_of_multi {ops : Array Oper} {p : Plan} {M : List Nat} (hs : p.soloBut M ops = true) {Q : St → Prop} : ∀ (l : List Oper) (i : Nat) (st : St) (H : List Heap) (pend pm : List (Nat × (Heap → Prop))), i + l.length = ops.size → OpsM P C ops p M l i st H pm Q →
    H.headD [] = st.h → H.length = p.rank i + 1 →
    (∀ x ∈ pend, (x.1 < i ∧ p.isE x.1 = false ∧ M.contains x.1 = false ∧ x.2 (H.reverse.getD (p.rank x.1) [])) ∨ (∃ y ∈ pm, y.1 = x.1 ∧ ∀ K, y.2 K → x.2 K)) → DrawA P C ops p l i st.sl H pend Q
  | [], i, st, H, pend, pm, hi, r, hh, hl, hp => by
    obtain ⟨r1, r2⟩ := r
    refine ⟨fun x hx k hk hm => ?_, ?_⟩
    · rcases hp x hx with ⟨h1, h2, h4, h3⟩ | ⟨y, hy, he, hi'⟩
      · have hi' : i = ops.size := by simpa using hi
        have := List.all_eq_true.1 hs x.1 (List.mem_range.2 (by omega))
        rw [h2, h4, Bool.false_or, Bool.false_or] at this
        have := List.all_eq_true.1 this k (List.mem_range.2 (by rw [← hi', ← hl]; exact hk))
        rw [hm] at this
        simp at this
        rw [this]
        exact h3
      · exact hi' _ (r1 y hy k hk (by rw [he]; exact hm))
    · obtain ⟨sl, h⟩ := st
      simp only at hh
      rw [hh]
      exact r2
  | o :: rest, i, st, H, pend, pm, hi, r, hh, hl, hp => by
    have hrest : i + 1 + rest.length = ops.size := by rw [← hi]; simp; omega
    have hgt : ∀ j, j < i → p.rank j < H.length := fun j hj => by
      have := rank_mono p (Nat.le_of_lt hj)
      omega
    have hcur : H.reverse.getD (p.rank i) [] = st.h := by
      rw [← hh]
      cases H with
      | nil => simp at hl
      | cons x H =>
        simp at hl
        rw [List.getD_eq_getElem?_getD, List.reverse_cons, List.getElem?_append_right (by simp; omega)]
        simp [hl]
    have grow : ∀ {pm' : List (Nat × (Heap → Prop))}, (∀ y ∈ pm, y ∈ pm') → ∀ h', ∀ x ∈ pend, (x.1 < i + 1 ∧ p.isE x.1 = false ∧ M.contains x.1 = false ∧ x.2 ((h' :: H).reverse.getD (p.rank x.1) [])) ∨ (∃ y ∈ pm', y.1 = x.1 ∧ ∀ K, y.2 K → x.2 K) := by
      intro pm' hpm h' x hx
      rcases hp x hx with ⟨k1, k2, k4, k3⟩ | ⟨y, hy, he, hk⟩
      · exact .inl ⟨by omega, k2, k4, by rw [getD_rev _ (hgt _ k1)]; exact k3⟩
      · exact .inr ⟨y, hpm y hy, he, hk⟩
    have keep : ∀ {pm' : List (Nat × (Heap → Prop))}, (∀ y ∈ pm, y ∈ pm') → ∀ x ∈ pend, (x.1 < i + 1 ∧ p.isE x.1 = false ∧ M.contains x.1 = false ∧ x.2 (H.reverse.getD (p.rank x.1) [])) ∨ (∃ y ∈ pm', y.1 = x.1 ∧ ∀ K, y.2 K → x.2 K) := by
      intro pm' hpm x hx
      rcases hp x hx with ⟨k1, k2, k4, k3⟩ | ⟨y, hy, he, hk⟩
      · exact .inl ⟨by omega, k2, k4, k3⟩
      · exact .inr ⟨y, hpm y hy, he, hk⟩
    rcases r with ⟨h1, x, h', h2, h3, h4⟩ | ⟨h1, h2, h4⟩
    · have h2' := OpA.congr (rhoR_eq (ops := ops)) h2
      cases hE : p.isE i with
      | true =>
        rw [hE] at h4
        refine .inl ⟨h1, hE, x, h', ?_, draw_of_multi hs rest (i + 1) _ (h' :: H) pend _ hrest h4 rfl (by simp [Plan.rank, hE, hl]) (grow (fun y hy => ?_) h')⟩
        · rw [hh]; exact h2'
        · cases M.contains i with
          | true => exact List.mem_cons_of_mem _ hy
          | false => exact hy
      | false =>
        rw [hE] at h4
        have he := h3 hE
        subst he
        refine .inr (.inr (.inl ⟨h1, hE, x, draw_of_multi hs rest (i + 1) ⟨putA st.sl o.dst x, st.h⟩ H _ _ hrest h4 hh (by simp [Plan.rank, hE, hl]) fun y hy => ?_⟩))
        cases hM : M.contains i with
        | true =>
          rcases List.mem_cons.1 hy with rfl | hy
          · exact .inr ⟨_, List.mem_cons_self, rfl, fun K hK => OpA.congr (rhoR_eq (ops := ops)) hK⟩
          · exact keep (fun z hz => List.mem_cons_of_mem _ hz) y hy
        | false =>
          rcases List.mem_cons.1 hy with rfl | hy
          · refine .inl ⟨by simp, hE, hM, ?_⟩
            show OpA P C _ (H.reverse.getD (p.rank i) []) o.op _
            rw [hcur]
            exact h2'
          · exact keep (fun z hz => hz) y hy
    · exact .inr (.inr (.inr ⟨h1, h2, draw_of_multi hs rest (i + 1) ⟨putA st.sl o.dst (.tup []), st.h⟩ H pend pm hrest h4 hh (by simp [Plan.rank, h2, hl]) (keep fun _ hy => hy)⟩))

theorem RunA.multi (g : Good P C) {id : Nat} {ops : Array Oper} {st : St} {Q : Exit → St → Prop} (p : Plan) (M : List Nat) (hp : p.ok ops st.sl.length = true) (hs : p.soloBut M ops = true) (r : OpsM P C ops p M ops.toList 0 st [st.h] [] fun st' => Q .normal st') : RunA P C (.region id ops true) st Q :=
  RunA.draw g p hp (draw_of_multi hs ops.toList 0 st [st.h] [] [] (by simp) r rfl (by simp [Plan.rank]) (by simp))

/-- What is asked of an operation that may meet with several heaps: its number, itself, its slots, what it yields. -/
abbrev Pd := Nat × Op × List AV × AV
def pdProp (P : Program) (C : Cfg) (q : Pd) : Nat × (Heap → Prop) := (q.1, fun H => OpA P C (rho C q.2.2.1) H q.2.1 (fun y h => y = q.2.2.2 ∧ h = H))
def pdOne (C : Cfg) (q : Pd) : List Heap → Prop
  | [] => True
  | H :: hs => plainA C (rho C q.2.2.1) H q.2.1 = some (q.2.2.2, H) ∧ pdOne C q hs
def pdAll (C : Cfg) (hs : List Heap) : List Pd → Prop
  | [] => True
  | q :: pd => pdOne C q hs ∧ pdAll C hs pd

theorem pdOne_get {q : Pd} : ∀ {hs : List Heap}, pdOne C q hs → ∀ H ∈ hs, plainA C (rho C q.2.2.1) H q.2.1 = some (q.2.2.2, H)
  | [], _, H, h => by simp at h
  | K :: hs, h, H, hm => by
    rcases List.mem_cons.1 hm with rfl | hm
    · exact h.1
    · exact pdOne_get h.2 H hm
theorem pdAll_get {hs : List Heap} : ∀ {pd : List Pd}, pdAll C hs pd → ∀ q ∈ pd, pdOne C q hs
  | [], _, q, h => by simp at h
  | r :: pd, h, q, hm => by
    rcases List.mem_cons.1 hm with rfl | hm
    · exact h.1
    · exact pdAll_get h.2 q hm

/-- The first operations of such a region, none of which is a call. -/
def opsME (C : Cfg) (ops : Array Oper) (p : Plan) (M : List Nat) : List Oper → Nat → St → List Heap → List Pd → Option (St × List Heap × List Pd)
  | [], _, st, hs, pd => some (st, hs, pd)
  | o :: rest, i, st, hs, pd => match wantA ops st.sl o with
    | some true => match stepS C (p.isE i) (rho C st.sl) st.h o.op with
      | some (x, h') => opsME C ops p M rest (i + 1) ⟨putA st.sl o.dst x, h'⟩ (match p.isE i with | true => h' :: hs | false => hs) (match M.contains i with | true => (i, o.op, st.sl, x) :: pd | false => pd)
      | none => none
    | some false => match p.isE i with
      | true => none
      | false => opsME C ops p M rest (i + 1) ⟨putA st.sl o.dst (.tup []), st.h⟩ hs pd
    | none => none

theorem OpsM.pre {ops : Array Oper} {p : Plan} {M : List Nat} {l : List Oper} {i : Nat} {st st' : St} {hs hs' : List Heap} {pd pd' : List Pd} {Q : St → Prop} (k : Nat) (h : opsME C ops p M (l.take k) i st hs pd = some (st', hs', pd'))
    (hk : OpsM P C ops p M (l.drop k) (i + (l.take k).length) st' hs' (pd'.map (pdProp P C)) Q) : OpsM P C ops p M l i st hs (pd.map (pdProp P C)) Q := by
  have key : ∀ (l1 : List Oper) (i : Nat) (s : St) (hs : List Heap) (pd : List Pd), opsME C ops p M l1 i s hs pd = some (st', hs', pd') → OpsM P C ops p M (l.drop k) (i + l1.length) st' hs' (pd'.map (pdProp P C)) Q → OpsM P C ops p M (l1 ++ l.drop k) i s hs (pd.map (pdProp P C)) Q := by
    intro l1
    induction l1 with
    | nil =>
      intro i s hs pd h0 hk
      simp only [opsME, Option.some.injEq, Prod.mk.injEq] at h0
      obtain ⟨rfl, rfl, rfl⟩ := h0
      exact hk
    | cons o l1 ih =>
      intro i s hs pd h0 hk
      have hk' : OpsM P C ops p M (l.drop k) (i + 1 + l1.length) st' hs' (pd'.map (pdProp P C)) Q := by
        rw [show i + 1 + l1.length = i + (o :: l1).length from by simp; omega]; exact hk
      simp only [opsME] at h0
      split at h0
      · rename_i hw
        split at h0
        · rename_i x h' hp
          have hpd : (match M.contains i with | true => (pdProp P C (i, o.op, s.sl, x)) :: pd.map (pdProp P C) | false => pd.map (pdProp P C)) = (match M.contains i with | true => (i, o.op, s.sl, x) :: pd | false => pd).map (pdProp P C) := by
            cases M.contains i <;> rfl
          have hop : OpA P C (rho C s.sl) s.h o.op (fun y h => y = x ∧ h = h') ∧ (p.isE i = false → h' = s.h) := by
            cases hE : p.isE i with
            | true =>
              rw [hE] at hp
              exact ⟨.plain hp ⟨rfl, rfl⟩, fun h => by cases h⟩
            | false =>
              rw [hE] at hp
              simp only [stepS, Option.map_eq_some_iff, Prod.mk.injEq] at hp
              obtain ⟨y, hy, rfl, rfl⟩ := hp
              exact ⟨.plain (quietA_plain hy) ⟨rfl, rfl⟩, fun _ => rfl⟩
          refine .inl ⟨hw, x, h', hop.1, hop.2, ?_⟩
          have := ih _ _ _ _ h0 hk'
          rw [← hpd] at this
          exact this
        · cases h0
      · rename_i hw
        split at h0
        · cases h0
        · rename_i hE
          exact .inr ⟨hw, hE, ih _ _ _ _ h0 hk'⟩
      · cases h0
  rw [← List.take_append_drop k l]
  exact key _ _ _ _ _ h hk

theorem OpsM.nil {ops : Array Oper} {p : Plan} {M : List Nat} {i : Nat} {st : St} {hs : List Heap} {pd : List Pd} {Q : St → Prop} (hp : pdAll C hs pd) (hq : Q st) : OpsM P C ops p M [] i st hs (pd.map (pdProp P C)) Q := by
  refine ⟨fun x hx k hk _ => ?_, hq⟩
  obtain ⟨q, hq, rfl⟩ := List.mem_map.1 hx
  have hmem : hs.reverse.getD k [] ∈ hs := by
    have hk' : k < hs.reverse.length := by simpa using hk
    rw [List.getD_eq_getElem?_getD, List.getElem?_eq_getElem hk', Option.getD_some]
    exact List.mem_reverse.1 (List.getElem_mem hk')
  exact .plain (pdOne_get (pdAll_get hp q hq) _ hmem) ⟨rfl, rfl⟩

theorem OpsM.split {ops : Array Oper} {p : Plan} {M : List Nat} {l : List Oper} {i : Nat} {st : St} {hs : List Heap} {pm : List (Nat × (Heap → Prop))} {Q : St → Prop} {b : Bool} (d : Nat) (hv : st.sl.getD d .any = .bool b) (ht : b = true → OpsM P C ops p M l i st hs pm Q) (hf : b = false → OpsM P C ops p M l i st hs pm Q) : OpsM P C ops p M l i st hs pm Q := by
  cases b with
  | true => exact ht rfl
  | false => exact hf rfl

/-- A call that meets with one heap alone and leaves it as it is. -/
theorem OpsM.call {ops : Array Oper} {p : Plan} {M : List Nat} {o : Oper} {rest : List Oper} {i : Nat} {st : St} {hs : List Heap} {pm : List (Nat × (Heap → Prop))} {Q : St → Prop} {c : Call} {f : FuncId} {args : List AV} {x : AV} (hm : M.contains i = false) (hE : p.isE i = false) (hw : wantA ops st.sl o = some true) (ho : o.op = .call c)
    (ht : targetA C (rho C st.sl) c = some (f, args)) (hb : hasBody C f = true) (hc : CallA P C f args st.h fun y h' => y = x ∧ h' = st.h) (hk : OpsM P C ops p M rest (i + 1) ⟨putA st.sl o.dst x, st.h⟩ hs pm Q) : OpsM P C ops p M (o :: rest) i st hs pm Q :=
  .inl ⟨hw, x, st.h, by rw [ho]; exact .call ht hb hc, fun _ => rfl, by rw [hm, hE]; exact hk⟩

end
end Go.Ab
