/-
  SMALL RULES FOR WALKS IN THE PICTURE. Conditions: 'Good': what is known of the program is so.
-/
import Derived.Test.YtfcbamfgejfleaaDoorAbsTop
namespace Go.Ab
section
variable {P : Program} {C : Cfg}

/-- The first operations of a region, none of which is a call. -/
theorem OpsA.pre {ops : Array Oper} {l : List Oper} {st st' : St} {Q : St → Prop} (k : Nat) (h : opsE C ops (l.take k) st = some st') (hk : OpsA P C ops (l.drop k) st' Q) : OpsA P C ops l st Q := by
  have key : ∀ (l1 : List Oper) (s : St), opsE C ops l1 s = some st' → OpsA P C ops (l1 ++ l.drop k) s Q := by
    intro l1
    induction l1 with
    | nil =>
      intro s hs
      simp only [opsE, Option.some.injEq] at hs
      subst hs
      exact hk
    | cons o l1 ih =>
      intro s hs
      simp only [opsE] at hs
      split at hs
      · rename_i hw
        split at hs
        · rename_i x h' hp
          exact .plain hw hp (ih _ hs)
        · cases hs
      · rename_i hw
        exact .skip hw (ih _ hs)
      · cases hs
  rw [← List.take_append_drop k l]
  exact key _ _ h

theorem OpsA.split {ops : Array Oper} {l : List Oper} {st : St} {Q : St → Prop} {b : Bool} (d : Nat) (hv : st.sl.getD d .any = .bool b) (ht : b = true → OpsA P C ops l st Q) (hf : b = false → OpsA P C ops l st Q) : OpsA P C ops l st Q := by
  cases b with
  | true => exact ht rfl
  | false => exact hf rfl

theorem RunA.split {c : Code} {st : St} {Q : Exit → St → Prop} {b : Bool} (d : Nat) (hv : st.sl.getD d .any = .bool b) (ht : b = true → RunA P C c st Q) (hf : b = false → RunA P C c st Q) : RunA P C c st Q := by
  cases b with
  | true => exact ht rfl
  | false => exact hf rfl

theorem RunA.condT {c : Operand} {x y : Code} {st : St} {Q : Exit → St → Prop} (hc : rho C st.sl c = .bool true) (r : RunA P C x st Q) : RunA P C (.cond c x y) st Q := .cond hc r
theorem RunA.condF {c : Operand} {x y : Code} {st : St} {Q : Exit → St → Prop} (hc : rho C st.sl c = .bool false) (r : RunA P C y st Q) : RunA P C (.cond c x y) st Q := .cond hc r

theorem Ends.mk {fn : Func} {R : AV → Heap → Prop} {st : St} {x : AV} (hx : resA C fn.results st.sl st.h = some x) (hr : R x st.h) : Ends C fn R .ret st := ⟨x, hx, hr⟩
theorem Ends.mkn {fn : Func} {R : AV → Heap → Prop} {st : St} {x : AV} (hx : resA C fn.results st.sl st.h = some x) (hr : R x st.h) : Ends C fn R .normal st := ⟨x, hx, hr⟩

/-- What a result must be like. -/
def Fin (h : Heap) (Q : AV → Prop) (x : AV) (h1 : Heap) : Prop := ∃ l y, h1 = h ++ l ∧ frzT h.length h1 6 x = some y ∧ Q y

/-- A function whose blocks are given up at its end. -/
theorem CallA.body (g : Good P C) {f : FuncId} {fn : Func} {c : Code} {args : List AV} {h : Heap} {Q : AV → Prop} (hf : C.fns f = some fn) (hb : fn.body = some c)
    (r : RunA P C c ⟨args ++ List.replicate (fn.ntmps - args.length) .any, h⟩ (Ends C fn (Fin h Q))) : CallA P C f args h (fun x h' => Q x ∧ h' = h) :=
  CallA.shut (CallA.keep g hf hb r) fun _ _ ⟨l, y, h2, h3, h4⟩ => ⟨l, y, h2, h3, h4, rfl⟩

/-- The slots, some of them let go. -/
def Less : List AV → List AV → Prop
  | [], [] => True
  | x :: xs, y :: ys => (x = y ∨ x = .any) ∧ Less xs ys
  | _, _ => False

theorem Less.get : ∀ {xs ys : List AV}, Less xs ys → xs.length = ys.length ∧ ∀ t, xs.getD t .any = ys.getD t .any ∨ xs.getD t .any = .any
  | [], [], _ => ⟨rfl, fun t => .inl rfl⟩
  | x :: xs, y :: ys, h => by
    obtain ⟨h1, h2⟩ := h
    obtain ⟨k1, k2⟩ := Less.get h2
    refine ⟨by simp [k1], fun t => ?_⟩
    match t with
    | 0 => simpa using h1
    | t + 1 => simpa using k2 t
  | [], _ :: _, h => h.elim
  | _ :: _, [], h => h.elim

theorem RunA.fit {c : Code} {sl : List AV} {h : Heap} {Q : Exit → St → Prop} (sl' : List AV) (hs : Less sl' sl) (r : RunA P C c ⟨sl', h⟩ Q) : RunA P C c ⟨sl, h⟩ Q :=
  RunA.less (Less.get hs).1 (Less.get hs).2 r

/-- A loop whose round may let slots go. -/
def Fits (I : Nat → St → Prop) (m : Nat) (st : St) : Prop := ∃ sl, Less sl st.sl ∧ I m ⟨sl, st.h⟩

theorem RunA.loopL {c : Code} {st : St} {Q : Exit → St → Prop} (I : Nat → St → Prop) (n : Nat) (h0 : Fits I n st) (round : ∀ m sl h, I m ⟨sl, h⟩ → RunA P C c ⟨sl, h⟩ (Round (Fits I) m Q)) : RunA P C (.loop c) st Q := by
  refine RunA.loop (Fits I) n h0 fun m st' ⟨sl, h1, h2⟩ => ?_
  obtain ⟨s, hh⟩ := st'
  exact RunA.fit sl h1 (round m sl hh h2)

/-! ### Arithmetic -/

theorem wrap64 {n : Int} (h1 : -9223372036854775808 ≤ n) (h2 : n < 9223372036854775808) : IntKind.wrap .i64 n = n := by
  unfold IntKind.wrap
  have e1 : (2 : Int) ^ IntKind.bits .i64 = 18446744073709551616 := rfl
  have e2 : (2 : Int) ^ (IntKind.bits .i64 - 1) = 9223372036854775808 := rfl
  have e3 : IntKind.signed .i64 = true := rfl
  simp only [e1, e2, e3, Bool.true_and, decide_eq_true_eq]
  split <;> omega

theorem bTT : (true == true) = true := rfl
theorem bTF : (true == false) = false := rfl
theorem bFT : (false == true) = false := rfl
theorem bFF : (false == false) = true := rfl
end
end Go.Ab
