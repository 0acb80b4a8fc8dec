/-
  A REGION IN THE PICTURE, in the order of the text or in whatever order its edges allow; A CALL out of its body. Conditions: 'Good': what is known of the program is so.
-/
import Derived.Test.YtfcbamfgejfleaaDoorAbsRun
namespace Go.Ab
section
variable {P : Program} {C : Cfg}

theorem wantA_ok {h : Heap} {φ : Map} {w : World} {a : Act} {sl : List AV} (s : SlRel h φ w a sl) {ops : Array Oper} {o : Oper} {b : Bool} (hw : wantA ops sl o = some b) : Region.wanted o (yielded ops a.tmps) = b := by
  unfold wantA at hw
  unfold Region.wanted
  cases hg : o.guard with
  | none => simp [hg] at hw; simp [hw]
  | some jw =>
    obtain ⟨j, want⟩ := jw
    simp only [hg] at hw
    cases hd : (ops[j]?).bind (·.dst) with
    | none => simp [hd] at hw
    | some d =>
      simp only [hd] at hw
      split at hw
      · rename_i t ht
        cases hw
        have hr := s.rel d
        rw [ht] at hr
        have hv := hr.bool_inv
        have ht' : a.tmps[d]? = some (.bool t) := by
          cases he : a.tmps[d]? with
          | none => simp [Array.getD_eq_getD_getElem?, he, undef] at hv
          | some v => simp [Array.getD_eq_getD_getElem?, he] at hv; rw [hv]
        have hy : yielded ops a.tmps j = some t := by
          unfold yielded
          simp [hd, ht']
        simp only [hy]
        cases t <;> cases want <;> rfl
      · rename_i ht
        cases hw
        have hr := s.rel d
        rw [ht] at hr
        obtain ⟨a', hv, hsz, _⟩ := hr.tup_inv
        have hy : yielded ops a.tmps j = none := by
          unfold yielded
          simp only [hd, Option.bind_some]
          cases he : a.tmps[d]? with
          | none => rfl
          | some v =>
            simp [Array.getD_eq_getD_getElem?, he] at hv
            rw [hv]
        show (yielded ops a.tmps j == some want) = false
        rw [hy]
        rfl
      · cases hw

/-- What an operation leaves that is not carried out. -/
theorem skip_rel {h : Heap} {φ : Map} {w : World} : Rel h φ w undef (.tup []) := .tup #[] [] rfl (by simp)

/-- The operations of a region, one behind the other. -/
def OpsA (P : Program) (C : Cfg) (ops : Array Oper) : List Oper → St → (St → Prop) → Prop
  | [], st, Q => Q st
  | o :: rest, st, Q =>
    (wantA ops st.sl o = some true ∧ OpA P C (rho C st.sl) st.h o.op fun x h' => OpsA P C ops rest ⟨putA st.sl o.dst x, h'⟩ Q) ∨
    (wantA ops st.sl o = some false ∧ OpsA P C ops rest ⟨putA st.sl o.dst (.tup []), st.h⟩ Q)

theorem OpsA.sound (g : Good P C) {ops : Array Oper} {B : Nat} {h0 : Heap} {φ0 : Map} {w0 : World} {Q : St → Prop} : ∀ (l : List Oper) (st : St) (φ : Map) (w : World) (a : Act), Pic C.glob B st.h φ w → Ev h0 φ0 w0 st.h φ w → SlRel st.h φ w a st.sl →
    OpsA P C ops l st Q → wpList P ops (Post C B h0 φ0 w0 fun e st' => e = .normal ∧ Q st') l a w
  | [], st, φ, w, a, i, e, s, r => ⟨st, φ, i, e, s, rfl, r⟩
  | o :: rest, st, φ, w, a, i, e, s, r => by
    unfold wpList
    rcases r with ⟨h1, h2⟩ | ⟨h1, h2⟩
    · rw [wantA_ok s h1]
      refine .inl (Oper.wp_mono (fun a' w' hp => ?_) (OpA.sound g i (s.eval i rfl) h2))
      obtain ⟨v, x, h', φ', rfl, i', e', r', k⟩ := hp
      exact OpsA.sound g rest _ φ' w' _ i' (e.trans e') ((s.ev e').put o.dst r') k
    · rw [wantA_ok s h1]
      exact OpsA.sound g rest ⟨putA st.sl o.dst (.tup []), st.h⟩ φ w _ i e (s.put o.dst skip_rel) h2

theorem RunA.region (g : Good P C) {id : Nat} {ops : Array Oper} {st : St} {Q : Exit → St → Prop} (r : OpsA P C ops ops.toList st fun st' => Q .normal st') : RunA P C (.region id ops false) st Q := by
  intro B φ w a i s
  refine wp_mono (wp_region_list (OpsA.sound g ops.toList st φ w a i (.refl _ _ _) s r)) fun e a' w' hp => ?_
  obtain ⟨st', φ', h1, h2, h3, rfl, h4⟩ := hp
  exact ⟨st', φ', h1, h2, h3, h4⟩

/-! ### Whatever order the edges allow -/

/-- The values that an operation looks at, and no others. -/
def rhoR (C : Cfg) (look : List Tmp) (sl : List AV) : Operand → AV
  | .tmp t => if look.contains t then sl.getD t .any else .any
  | x => rho C sl x

/-- What is known of a region's edges: for each operation those that come before it in any order; which operations may turn the picture's heap. -/
structure Plan where
  before : List (List Nat)
  eff : List Bool

def Plan.bef (p : Plan) (i : Nat) : List Nat := p.before.getD i []
def Plan.isE (p : Plan) (i : Nat) : Bool := p.eff.getD i false
/-- How many operations that may turn the heap stand ahead of number 'i'. -/
def Plan.rank (p : Plan) : Nat → Nat
  | 0 => 0
  | i + 1 => p.rank i + if p.isE i then 1 else 0

/-- The plan is right. -/
def Plan.ok (p : Plan) (ops : Array Oper) (slots : Nat) : Bool :=
  (List.range ops.size).all fun i => match ops[i]? with
    | none => false
    | some o =>
      o.after.all (fun e => decide (e.on < i) || !Region.binds .any e) &&
      (p.bef i).all (fun j => o.after.any fun e => Region.binds .any e && (e.on == j || (p.bef e.on).contains j)) &&
      (match o.dst with
       | some d => decide (d < slots)
       | none => true) &&
      (List.range ops.size).all fun j => j == i || match ops[j]? with
        | none => false
        | some oj =>
          (match oj.dst with
           | some d => o.dst != some d && (!(o.looksAt ops).contains d || (if j < i then (p.bef i).contains j else (p.bef j).contains i))
           | none => true) &&
          (!(p.isE i && p.isE j && decide (j < i)) || (p.bef i).contains j)

/-- With which of the heaps may an operation meet? -/
def Plan.meets (p : Plan) (n i k : Nat) : Bool :=
  (List.range n).all fun j => !p.isE j || ((!(p.bef i).contains j || decide (p.rank j < k)) && (!(p.bef j).contains i || decide (k ≤ p.rank j)))

/-- The operations in the order of the text; 'hs': the heaps so far, the last one first; 'pend': what is to be asked of every heap that an operation may meet with. -/
def DrawA (P : Program) (C : Cfg) (ops : Array Oper) (p : Plan) : List Oper → Nat → List AV → List Heap → List (Nat × (Heap → Prop)) → (St → Prop) → Prop
  | [], _, sl, hs, pend, Q => (∀ x ∈ pend, ∀ k, k < hs.length → p.meets ops.size x.1 k = true → x.2 (hs.reverse.getD k [])) ∧ Q ⟨sl, hs.headD []⟩
  | o :: rest, i, sl, hs, pend, Q =>
    (wantA ops sl o = some true ∧ p.isE i = true ∧ ∃ x h', OpA P C (rhoR C (o.looksAt ops) sl) (hs.headD []) o.op (fun y h => y = x ∧ h = h') ∧ DrawA P C ops p rest (i + 1) (putA sl o.dst x) (h' :: hs) pend Q) ∨
    (wantA ops sl o = some true ∧ p.isE i = false ∧ ∃ x, pureA C (rhoR C (o.looksAt ops) sl) o.op = some x ∧ DrawA P C ops p rest (i + 1) (putA sl o.dst x) hs pend Q) ∨
    (wantA ops sl o = some true ∧ p.isE i = false ∧ ∃ x, DrawA P C ops p rest (i + 1) (putA sl o.dst x) hs ((i, fun H => OpA P C (rhoR C (o.looksAt ops) sl) H o.op (fun y h => y = x ∧ h = H)) :: pend) Q) ∨
    (wantA ops sl o = some false ∧ p.isE i = false ∧ DrawA P C ops p rest (i + 1) (putA sl o.dst (.tup [])) hs pend Q)

end
end Go.Ab
