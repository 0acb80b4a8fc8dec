/-
  A CALL AND A PIECE OF CODE IN THE PICTURE: what it does whatever the world is, as long as the world is as the picture says. Conditions: 'Good': what is known of the program is so.
-/
import Derived.Test.YtfcbamfgejfleaaDoorAbsEffD
namespace Go.Ab

/-- In every world that is as the picture says the call returns; the world is then as a picture says for which 'Q' holds. -/
def CallA (P : Program) (C : Cfg) (f : FuncId) (args : List AV) (h : Heap) (Q : AV → Heap → Prop) : Prop :=
  ∀ (B : Nat) (φ : Map) (w : World) (cargs : Array Value), Pic C.glob B h φ w → cargs.size = args.length → (∀ (j : Nat) v x, cargs[j]? = some v → args[j]? = some x → Rel h φ w v x) →
    Calls P f cargs w fun e w' => ∃ v x h' φ', e = .returned v ∧ Pic C.glob B h' φ' w' ∧ Ev h φ w h' φ' w' ∧ Rel h' φ' w' v x ∧ Q x h'

/-- The same of a piece of code, by the way in which it is left. -/
def Post (C : Cfg) (B : Nat) (h : Heap) (φ : Map) (w : World) (Q : Exit → St → Prop) : Exit → Act → World → Prop :=
  fun e a' w' => ∃ st' φ', Pic C.glob B st'.h φ' w' ∧ Ev h φ w st'.h φ' w' ∧ SlRel st'.h φ' w' a' st'.sl ∧ Q e st'

def RunA (P : Program) (C : Cfg) (c : Code) (st : St) (Q : Exit → St → Prop) : Prop :=
  ∀ (B : Nat) (φ : Map) (w : World) (a : Act), Pic C.glob B st.h φ w → SlRel st.h φ w a st.sl → c.wp P (Post C B st.h φ w Q) a w

section
variable {P : Program} {C : Cfg}

theorem CallA.mono {f : FuncId} {args : List AV} {h : Heap} {Q Q' : AV → Heap → Prop} (c : CallA P C f args h Q) (hq : ∀ x h', Q x h' → Q' x h') : CallA P C f args h Q' :=
  fun B φ w cargs i hs hr => (c B φ w cargs i hs hr).mono fun _ _ ⟨v, x, h', φ', h1, h2, h3, h4, h5⟩ => ⟨v, x, h', φ', h1, h2, h3, h4, hq _ _ h5⟩

theorem RunA.mono {c : Code} {st : St} {Q Q' : Exit → St → Prop} (r : RunA P C c st Q) (hq : ∀ e st', Q e st' → Q' e st') : RunA P C c st Q' :=
  fun B φ w a i s => wp_mono (r B φ w a i s) fun _ _ _ ⟨st', φ', h1, h2, h3, h4⟩ => ⟨st', φ', h1, h2, h3, hq _ _ h4⟩

theorem RunA.skip {st : St} {Q : Exit → St → Prop} (hq : Q .normal st) : RunA P C .skip st Q :=
  fun _ φ w _ i s => wp_skip ⟨st, φ, i, .refl _ _ w, s, hq⟩

theorem RunA.label {l : Nat} {st : St} {Q : Exit → St → Prop} (hq : Q .normal st) : RunA P C (.label l) st Q :=
  fun _ φ w _ i s => wp_label ⟨st, φ, i, .refl _ _ w, s, hq⟩

theorem RunA.exit {id : Nat} {st : St} {Q : Exit → St → Prop} (hq : Q (.exit id) st) : RunA P C (.exit id) st Q :=
  fun _ φ w _ i s => wp_exit ⟨st, φ, i, .refl _ _ w, s, hq⟩

theorem RunA.ret {st : St} {Q : Exit → St → Prop} (hq : Q .ret st) : RunA P C .ret st Q :=
  fun _ φ w _ i s => wp_ret ⟨st, φ, i, .refl _ _ w, s, hq⟩

/-- What stands behind a piece of code. -/
def After (P : Program) (C : Cfg) (y : Code) (Q : Exit → St → Prop) : Exit → St → Prop
  | .normal, st => RunA P C y st Q
  | e, st => Q e st

theorem RunA.seq {x y : Code} {st : St} {Q : Exit → St → Prop} (r : RunA P C x st (After P C y Q)) : RunA P C (.seq x y) st Q := by
  intro B φ w a i s
  refine wp_seq (wp_mono (r B φ w a i s) fun e a' w' hp => ?_)
  obtain ⟨st', φ', h1, h2, h3, h4⟩ := hp
  cases e with
  | normal => exact wp_mono (h4 B φ' w' a' h1 h3) fun e a'' w'' ⟨st2, φ2, k1, k2, k3, k4⟩ => ⟨st2, φ2, k1, h2.trans k2, k3, k4⟩
  | exit id => exact ⟨st', φ', h1, h2, h3, h4⟩
  | goto l => exact ⟨st', φ', h1, h2, h3, h4⟩
  | ret => exact ⟨st', φ', h1, h2, h3, h4⟩
  | panic ch => exact ⟨st', φ', h1, h2, h3, h4⟩
  | outgrown => exact ⟨st', φ', h1, h2, h3, h4⟩

theorem RunA.cond {c : Operand} {x y : Code} {st : St} {Q : Exit → St → Prop} {t : Bool} (hc : rho C st.sl c = .bool t) (r : RunA P C (if t then x else y) st Q) : RunA P C (.cond c x y) st Q := by
  intro B φ w a i s
  have he := s.eval i rfl c
  rw [hc] at he
  exact wp_cond he.bool_inv (r B φ w a i s)

/-- A block is left at its end. -/
def InBlock (id : Nat) (Q : Exit → St → Prop) : Exit → St → Prop
  | .exit id', st => if id' = id then Q .normal st else Q (.exit id') st
  | e, st => Q e st

theorem RunA.block {id : Nat} {c : Code} {st : St} {Q : Exit → St → Prop} (r : RunA P C c st (InBlock id Q)) : RunA P C (.block id c) st Q := by
  intro B φ w a i s
  refine wp_block (wp_mono (r B φ w a i s) fun e a' w' hp => ?_)
  obtain ⟨st', φ', h1, h2, h3, h4⟩ := hp
  cases e with
  | exit id' =>
    simp only [Exit.inBlock, InBlock] at h4 ⊢
    split
    · rename_i he
      rw [if_pos he] at h4
      exact ⟨st', φ', h1, h2, h3, h4⟩
    · rename_i he
      rw [if_neg he] at h4
      exact ⟨st', φ', h1, h2, h3, h4⟩
  | normal => exact ⟨st', φ', h1, h2, h3, h4⟩
  | goto l => exact ⟨st', φ', h1, h2, h3, h4⟩
  | ret => exact ⟨st', φ', h1, h2, h3, h4⟩
  | panic ch => exact ⟨st', φ', h1, h2, h3, h4⟩
  | outgrown => exact ⟨st', φ', h1, h2, h3, h4⟩

/-- What a round of a loop must lead to. -/
def Round (I : Nat → St → Prop) (n : Nat) (Q : Exit → St → Prop) : Exit → St → Prop
  | .normal, st => ∃ m, m < n ∧ I m st
  | e, st => Q e st

theorem RunA.loop {c : Code} {st : St} {Q : Exit → St → Prop} (I : Nat → St → Prop) (n : Nat) (h0 : I n st) (round : ∀ m st', I m st' → RunA P C c st' (Round I m Q)) : RunA P C (.loop c) st Q := by
  intro B φ w a i s
  refine wp_loop_ghost (fun m a' w' => ∃ st' φ', Pic C.glob B st'.h φ' w' ∧ Ev st.h φ w st'.h φ' w' ∧ SlRel st'.h φ' w' a' st'.sl ∧ I m st') n ⟨st, φ, i, .refl _ _ _, s, h0⟩ ?_
  rintro m a' w' ⟨st1, φ1, i1, e1, s1, hI⟩
  refine wp_mono (round m st1 hI B φ1 w' a' i1 s1) fun e a2 w2 hp => ?_
  obtain ⟨st2, φ2, k1, k2, k3, k4⟩ := hp
  cases e with
  | normal =>
    obtain ⟨m', hlt, hI'⟩ := k4
    exact ⟨m', hlt, st2, φ2, k1, e1.trans k2, k3, hI'⟩
  | exit id => exact ⟨st2, φ2, k1, e1.trans k2, k3, k4⟩
  | goto l => exact ⟨st2, φ2, k1, e1.trans k2, k3, k4⟩
  | ret => exact ⟨st2, φ2, k1, e1.trans k2, k3, k4⟩
  | panic ch => exact ⟨st2, φ2, k1, e1.trans k2, k3, k4⟩
  | outgrown => exact ⟨st2, φ2, k1, e1.trans k2, k3, k4⟩

/-! ### Operations -/

/-- An operation leads to 'K'. -/
def OpA (P : Program) (C : Cfg) (ρ : Operand → AV) (h : Heap) (o : Op) (K : AV → Heap → Prop) : Prop :=
  (∃ x h', plainA C ρ h o = some (x, h') ∧ K x h') ∨ (∃ c f args, o = .call c ∧ targetA C ρ c = some (f, args) ∧ hasBody C f = true ∧ CallA P C f args h K)

theorem OpA.plain {ρ : Operand → AV} {h : Heap} {o : Op} {K : AV → Heap → Prop} {x : AV} {h' : Heap} (hp : plainA C ρ h o = some (x, h')) (hk : K x h') : OpA P C ρ h o K := .inl ⟨x, h', hp, hk⟩

theorem OpA.call {ρ : Operand → AV} {h : Heap} {c : Call} {K : AV → Heap → Prop} {f : FuncId} {args : List AV} (ht : targetA C ρ c = some (f, args)) (hb : hasBody C f = true) (hc : CallA P C f args h K) : OpA P C ρ h (.call c) K :=
  .inr ⟨c, f, args, rfl, ht, hb, hc⟩

theorem OpA.mono {ρ : Operand → AV} {h : Heap} {o : Op} {K K' : AV → Heap → Prop} (r : OpA P C ρ h o K) (hk : ∀ x h', K x h' → K' x h') : OpA P C ρ h o K' := by
  rcases r with ⟨x, h', h1, h2⟩ | ⟨c, f, args, h1, h2, h3, h4⟩
  · exact .inl ⟨x, h', h1, hk _ _ h2⟩
  · exact .inr ⟨c, f, args, h1, h2, h3, h4.mono hk⟩

/-- What an operation leads to. -/
def OpPost (C : Cfg) (B : Nat) (h : Heap) (φ : Map) (w : World) (a : Act) (dst : Option Tmp) (K : AV → Heap → Prop) : Act → World → Prop :=
  fun a' w' => ∃ v x h' φ', a' = a.put dst v ∧ Pic C.glob B h' φ' w' ∧ Ev h φ w h' φ' w' ∧ Rel h' φ' w' v x ∧ K x h'

theorem plainA_ok {B : Nat} {h : Heap} {φ : Map} {w : World} (i : Pic C.glob B h φ w) (g : Good P C) {ρc : Operand → Value} {ρ : Operand → AV} (hρ : ∀ x, Rel h φ w (ρc x) (ρ x)) {o : Oper} {x : AV} {h' : Heap}
    (hp : plainA C ρ h o.op = some (x, h')) : OkX P C.glob B h φ w (execOp ρc o) x h' := by
  unfold plainA at hp
  split at hp
  · rename_i y hy
    cases hp
    obtain ⟨v, w', h1, h2, h3⟩ := pureA_ok i g hρ hy
    exact ⟨_, v, w', φ, h1, .inl rfl, i.of_grown h2, .of_grown h2, h3⟩
  · split at hp
    · rename_i y hy
      cases hp
      obtain ⟨v, h1, h3⟩ := readA_ok i g hρ hy
      exact ⟨_, v, w, φ, h1, .inl rfl, i, .refl _ _ _, h3⟩
    · exact effA_ok i g hρ hp

theorem size_of_list {ρc : Operand → Value} {ρ : Operand → AV} (first captured : Array Value) (xs ys : List AV) (l : Array Operand) (h1 : first.size = xs.length) (h2 : captured.size = ys.length) :
    (first ++ l.map ρc ++ captured).size = (xs ++ l.toList.map ρ ++ ys).length := by
  simp [h1, h2]

theorem rel_append {h : Heap} {φ : Map} {w : World} {a b : Array Value} {xs ys : List AV} (ha : a.size = xs.length) (ra : ∀ (j : Nat) v x, a[j]? = some v → xs[j]? = some x → Rel h φ w v x)
    (rb : ∀ (j : Nat) v x, b[j]? = some v → ys[j]? = some x → Rel h φ w v x) : ∀ (j : Nat) v x, (a ++ b)[j]? = some v → (xs ++ ys)[j]? = some x → Rel h φ w v x := by
  intro j v x hv hx
  by_cases hj : j < a.size
  · rw [Array.getElem?_append_left hj] at hv
    rw [List.getElem?_append_left (by omega)] at hx
    exact ra j v x hv hx
  · rw [Array.getElem?_append_right (by omega)] at hv
    rw [List.getElem?_append_right (by omega), ← ha] at hx
    exact rb _ v x hv hx

theorem callFunc_run {f : FuncId} {fn : Func} (hf : P.funcs[f]? = some fn) (hn : (fn.name == "runtime.NumGoroutine") = false) (hb : fn.body.isSome = true) (args : Array Value) (w : World) :
    (callFunc f args).run P w = .ok (.enter f args) w := by
  have hb' : fn.body.isNone = false := by
    cases h : fn.body <;> simp [h] at hb ⊢
  simp only [callFunc, Sem.run_bind, run_program, Result.andThen_ok, hf, hn, hb', Bool.false_eq_true, if_false, Sem.run_pure]

theorem OpA.sound (g : Good P C) {B : Nat} {φ : Map} {w : World} {a : Act} {h : Heap} {ρ : Operand → AV} {o : Oper} {K : AV → Heap → Prop} {Q : Exit → Act → World → Prop} (i : Pic C.glob B h φ w) (hρ : ∀ x, Rel h φ w (a.eval x) (ρ x))
    (r : OpA P C ρ h o.op K) : o.wp P a w (OpPost C B h φ w a o.dst K) Q := by
  rcases r with ⟨x, h', hp, hk⟩ | ⟨c, f, args, ho, ht, hb, hc⟩
  · obtain ⟨nx, v, w', φ', h1, h2, h3, h4, h5⟩ := plainA_ok i g hρ hp
    unfold Oper.wp
    rw [h1]
    rcases h2 with rfl | ⟨rfl, rfl⟩
    · exact ⟨v, x, h', φ', rfl, h3, h4, h5, hk⟩
    · exact ⟨undef, x, h', φ', rfl, h3, h4, h5, hk⟩
  · have hfn : ∃ fn, P.funcs[f]? = some fn ∧ (fn.name == "runtime.NumGoroutine") = false ∧ fn.body.isSome = true := by
      unfold hasBody at hb
      split at hb
      · rename_i fn hfn
        exact ⟨fn, (g.fns f fn hfn).1, (g.fns f fn hfn).2, hb⟩
      · cases hb
    obtain ⟨fn, hf, hnm, hbody⟩ := hfn
    have key : ∃ cargs : Array Value, (execOp a.eval o).run P w = .ok (.enter f cargs) w ∧ cargs.size = args.length ∧ (∀ (j : Nat) v x, cargs[j]? = some v → args[j]? = some x → Rel h φ w v x) := by
      obtain ⟨dst, op, type, pos, after, guard⟩ := o
      simp only at ho
      subst ho
      obtain ⟨callee, cas, cts⟩ := c
      unfold targetA at ht
      obtain ⟨l1, l2⟩ := list_rel hρ cas
      cases callee with
      | value fo =>
        simp only at ht
        split at ht
        · rename_i id first captured hfo
          cases ht
          obtain ⟨ca, cc, hv, hs1, hs2, hr1, hr2⟩ := (hfo ▸ hρ fo : Rel h φ w (a.eval fo) _).fn_inv
          refine ⟨ca ++ cas.map a.eval ++ cc, ?_, size_of_list _ _ _ _ _ hs1 hs2, rel_append (by simp [hs1]) (rel_append hs1 hr1 l2) hr2⟩
          simp only [execOp, resolve, hv, Deferred.ofValue, Sem.run_bind, Sem.run_pure, Result.andThen_ok, invoke]
          exact callFunc_run hf hnm hbody _ w
        · cases ht
      | invoke recv name =>
        simp only at ht
        split at ht
        · rename_i t y hre
          split at ht
          · rename_i id hm
            cases ht
            obtain ⟨u, hv, hr⟩ := (hre ▸ hρ recv : Rel h φ w (a.eval recv) _).iface_inv
            refine ⟨#[u] ++ cas.map a.eval, ?_, by simp; omega, ?_⟩
            · have hmeth := (g.meth t name f hm u w).1
              have hex : ((#[.iface t u] ++ cas.map a.eval : Array Value)[0]? : Option Value) = some (.iface t u) := by
                rw [Array.getElem?_append_left (by simp)]
                rfl
              have hrest : (#[.iface t u] ++ cas.map a.eval : Array Value).extract 1 (#[.iface t u] ++ cas.map a.eval : Array Value).size = cas.map a.eval := by
                apply Array.ext'
                simp
                exact List.take_of_length_le (by simp)
              simp only [execOp, resolve, hv, Sem.run_bind, Sem.run_pure, Result.andThen_ok, invoke, hex, hrest, callMethod, run_program, hmeth]
              exact callFunc_run hf hnm hbody _ w
            · have := rel_append (a := #[u]) (xs := [y]) (b := cas.map a.eval) (ys := cas.toList.map ρ) (h := h) (φ := φ) (w := w) rfl (fun j v x hv hx => by
                match j with
                | 0 =>
                  simp at hv hx
                  subst hv hx
                  exact hr
                | j + 1 => simp at hx) l2
              simpa using this
          · cases ht
        · cases ht
      | builtin b => simp at ht
    obtain ⟨cargs, hrun, hsz, hrel⟩ := key
    unfold Oper.wp
    rw [hrun, Oper.upon_enter]
    refine (hc B φ w cargs i hsz hrel).mono fun e w' hpost => ?_
    obtain ⟨v, x, h', φ', rfl, h1, h2, h3, h4⟩ := hpost
    exact ⟨v, x, h', φ', rfl, h1, h2, h3, h4⟩

end
end Go.Ab
