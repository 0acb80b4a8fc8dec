/-
  THE TABLE OF TYPES IS THE PROGRAM'S: a look that the kernel carries out. And small rules for a region's operations. Conditions: none.
-/
import Derived.Test.YtfcbamfgejfleaaDoorAbsCall
namespace Go.Ab

def simpleEq : AV → AV → Bool
  | .any, .any | .nilp, .nilp | .nils, .nils | .nilf, .nilf | .nili, .nili => true
  | .bool a, .bool b => a == b
  | .int k a, .int k' b => k == k' && a == b
  | .str a, .str b => a.data.toList == b.data.toList
  | _, _ => false

theorem simpleEq_eq {a b : AV} (h : simpleEq a b = true) : a = b := by
  cases a <;> cases b <;> simp only [simpleEq, Bool.false_eq_true, Bool.and_eq_true, beq_iff_eq] at h <;> first | rfl | (subst h; rfl) | skip
  · obtain ⟨rfl, rfl⟩ := h; rfl
  · rename_i x y
    cases x; cases y
    simp at h
    rw [h]

def simpleEqL : List AV → List AV → Bool
  | [], [] => true
  | a :: as, b :: bs => simpleEq a b && simpleEqL as bs
  | _, _ => false

theorem simpleEqL_eq : ∀ {a b : List AV}, simpleEqL a b = true → a = b
  | [], [], _ => rfl
  | [], _ :: _, h => by simp [simpleEqL] at h
  | _ :: _, [], h => by simp [simpleEqL] at h
  | a :: as, b :: bs, h => by
    simp only [simpleEqL, Bool.and_eq_true] at h
    rw [simpleEq_eq h.1, simpleEqL_eq h.2]

def checkU (P : Program) (C : Cfg) (t : TypeId) : Bool :=
  match C.ut t with
  | .other => true
  | .int k => match P.underlying t with
    | some (.int k') => k == k'
    | _ => false
  | .bool => match P.underlying t with
    | some .bool => true
    | _ => false
  | .str => match P.underlying t with
    | some .string => true
    | _ => false
  | .slice e => match P.underlying t with
    | some (.slice e') => e == e' && (C.ut e).known
    | _ => false
  | .arr n e => match P.underlying t with
    | some (.array n' e') => n == n' && e == e' && (C.ut e).known && n * C.sz e == C.sz t
    | _ => false
  | .strct fields eq => match P.underlying t with
    | some (.struct fs) => fs.toList.map (fun f => (f.offset, f.type)) == fields && fields.all (fun f => (C.ut f.2).known && decide (f.1 + C.sz f.2 ≤ C.sz t)) &&
        (!eq || (!P.stoodInHeld t && !P.eqGuardType P.depth t && fs.toList.all fun f => f.name != "_"))
    | _ => false
  | .ptr e => match P.underlying t with
    | some (.pointer e') => e == e'
    | _ => false
  | .iface => match P.underlying t with
    | some (.interface _) => true
    | _ => false
  | .func => match P.underlying t with
    | some (.func _ _ _) => true
    | _ => false

def checkI (P : Program) (C : Cfg) (t : TypeId) : Bool :=
  !(C.ut t).known || match P.info? t with
    | some i => match i.zero with
      | some z => i.size == C.sz t && i.bytes == (C.ti t).bytes && simpleEqL (z.cells.toList.map emb) (C.ti t).zero && (C.ti t).zero.length == C.sz t && z.cells.toList.all (·.oneCell')
      | none => false
    | none => false

theorem check_ok {P : Program} {C : Cfg} {t : TypeId} (hu : checkU P C t = true) (hi : checkI P C t = true) : TOk P C t := by
  refine ⟨?_, fun hk => ?_⟩
  · unfold checkU at hu
    split at hu <;> rename_i he <;> rw [he] <;> simp only
    · split at hu
      · rename_i hp; rw [hp, beq_iff_eq.1 hu]
      · cases hu
    · split at hu
      · rename_i hp; exact hp
      · cases hu
    · split at hu
      · rename_i hp; exact hp
      · cases hu
    · split at hu
      · rename_i hp
        simp only [Bool.and_eq_true, beq_iff_eq] at hu
        exact ⟨by rw [hp, hu.1], hu.2⟩
      · cases hu
    · split at hu
      · rename_i hp
        simp only [Bool.and_eq_true, beq_iff_eq] at hu
        exact ⟨by rw [hp, hu.1.1.1, hu.1.1.2], hu.1.2, hu.2⟩
      · cases hu
    · split at hu
      · rename_i fs hp
        simp only [Bool.and_eq_true, beq_iff_eq, Bool.or_eq_true, Bool.not_eq_true', List.all_eq_true, decide_eq_true_eq, bne_iff_ne] at hu
        refine ⟨fs, hp, hu.1.1, fun f hf => hu.1.2 f hf, fun h => ?_⟩
        rcases hu.2 with h' | h'
        · rw [h] at h'; cases h'
        · exact ⟨h'.1.1, h'.1.2, h'.2⟩
      · cases hu
    · split at hu
      · rename_i hp; rw [hp, beq_iff_eq.1 hu]
      · cases hu
    · split at hu
      · rename_i ms hp; exact ⟨ms, hp⟩
      · cases hu
    · split at hu
      · rename_i a b c hp; exact ⟨a, b, c, hp⟩
      · cases hu
  · unfold checkI at hi
    rw [hk] at hi
    simp only [Bool.not_true, Bool.false_or] at hi
    split at hi
    · rename_i i hin
      split at hi
      · rename_i z hz
        simp only [Bool.and_eq_true, beq_iff_eq, List.all_eq_true] at hi
        exact ⟨i, z, hin, hz, hi.1.1.1.1, hi.1.1.1.2, simpleEqL_eq hi.1.1.2, hi.1.2, hi.2⟩
      · cases hi
    · cases hi

/-- The functions of a program. -/
def fnsOf (P : Program) (f : FuncId) : Option Func :=
  match P.funcs[f]? with
  | some fn => if fn.name == "runtime.NumGoroutine" then none else some fn
  | none => none

theorem fnsOf_ok {P : Program} {f : FuncId} {fn : Func} (h : fnsOf P f = some fn) : P.funcs[f]? = some fn ∧ (fn.name == "runtime.NumGoroutine") = false := by
  unfold fnsOf at h
  split at h
  · rename_i fn' hf
    split at h
    · cases h
    · rename_i hn
      cases h
      exact ⟨hf, by simpa using hn⟩
  · cases h

theorem good_of {P : Program} {C : Cfg} {n : Nat} (hu : (List.range n).all (fun t => checkU P C t && checkI P C t) = true) (hn : ∀ t, n ≤ t → C.ut t = .other) (hf : C.fns = fnsOf P)
    (hm : ∀ t name f, C.meth t name = some f → ∀ (v : Value) (w : World), (method (P.types.size + Made.depth) t v name).run P w = .ok (f, v) w ∧ (nilAhead (P.types.size + Made.depth) t v name).run P w = .ok (some false) w)
    (hx : P.follows .mixedOrders = true) : Good P C := by
  refine ⟨fun t => ?_, fun f fn h => fnsOf_ok (by rw [← hf]; exact h), hm, hx⟩
  by_cases ht : t < n
  · have := List.all_eq_true.1 hu t (List.mem_range.2 ht)
    simp only [Bool.and_eq_true] at this
    exact check_ok this.1 this.2
  · have h := hn t (Nat.le_of_not_lt ht)
    refine ⟨by rw [h]; trivial, fun hk => ?_⟩
    rw [h] at hk
    cases hk

section
variable {P : Program} {C : Cfg}

theorem OpsA.nil {ops : Array Oper} {st : St} {Q : St → Prop} (h : Q st) : OpsA P C ops [] st Q := h
theorem OpsA.plain {ops : Array Oper} {o : Oper} {rest : List Oper} {st : St} {Q : St → Prop} {x : AV} {h' : Heap} (hw : wantA ops st.sl o = some true) (hp : plainA C (rho C st.sl) st.h o.op = some (x, h'))
    (hk : OpsA P C ops rest ⟨putA st.sl o.dst x, h'⟩ Q) : OpsA P C ops (o :: rest) st Q := .inl ⟨hw, .plain hp hk⟩
theorem OpsA.skip {ops : Array Oper} {o : Oper} {rest : List Oper} {st : St} {Q : St → Prop} (hw : wantA ops st.sl o = some false)
    (hk : OpsA P C ops rest ⟨putA st.sl o.dst (.tup []), st.h⟩ Q) : OpsA P C ops (o :: rest) st Q := .inr ⟨hw, hk⟩
theorem OpsA.call {ops : Array Oper} {o : Oper} {rest : List Oper} {st : St} {Q : St → Prop} {c : Call} {f : FuncId} {args : List AV} (hw : wantA ops st.sl o = some true) (ho : o.op = .call c) (ht : targetA C (rho C st.sl) c = some (f, args)) (hb : hasBody C f = true)
    (hc : CallA P C f args st.h fun x h' => OpsA P C ops rest ⟨putA st.sl o.dst x, h'⟩ Q) : OpsA P C ops (o :: rest) st Q := .inl ⟨hw, by rw [ho]; exact .call ht hb hc⟩

/-- The operations of a region that holds no call. -/
def opsE (C : Cfg) (ops : Array Oper) : List Oper → St → Option St
  | [], st => some st
  | o :: rest, st => match wantA ops st.sl o with
    | some true => match plainA C (rho C st.sl) st.h o.op with
      | some (x, h') => opsE C ops rest ⟨putA st.sl o.dst x, h'⟩
      | none => none
    | some false => opsE C ops rest ⟨putA st.sl o.dst (.tup []), st.h⟩
    | none => none

theorem OpsA.of_E {ops : Array Oper} {Q : St → Prop} : ∀ {l : List Oper} {st st' : St}, opsE C ops l st = some st' → Q st' → OpsA P C ops l st Q
  | [], st, st', h, hq => by
    simp only [opsE, Option.some.injEq] at h
    subst h
    exact hq
  | o :: rest, st, st', h, hq => by
    simp only [opsE] at h
    split at h
    · rename_i hw
      split at h
      · rename_i x h' hp
        exact .plain hw hp (OpsA.of_E h hq)
      · cases h
    · rename_i hw
      exact .skip hw (OpsA.of_E h hq)
    · cases h

end
end Go.Ab
