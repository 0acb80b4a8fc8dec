/-
  WHAT AN OPERATION ON VALUES DOES IN THE PICTURE, IT DOES IN THE MODEL (the operations one by one). Conditions: 'Good': the table of types is the program's.
-/
import Derived.Test.YtfcbamfgejfleaaDoorAbsPure
namespace Go.Ab
section
variable {P : Program} {C : Cfg} {h : Heap} {φ : Map} {w : World}

theorem intBin_ok {op : BinOp} {t : TypeId} {k k' : IntKind} {a b : Int} {x : AV} (hk : isShift op = true ∨ k = k') (hx : intBin op k a b = some x) : OkV P h φ w (binOp op t (.int k a) (.int k' b)) x := by
  cases op <;> simp only [intBin] at hx <;> simp only [isShift, Bool.false_eq_true, false_or] at hk
  case add => cases hx; subst hk; exact .same (by simp [binOp, Op.intArith]) (.int_of _ _)
  case sub => cases hx; subst hk; exact .same (by simp [binOp, Op.intArith]) (.int_of _ _)
  case mul => cases hx; subst hk; exact .same (by simp [binOp, Op.intArith]) (.int_of _ _)
  case quo =>
    split at hx
    · cases hx
    · rename_i hb
      cases hx; subst hk; exact .same (by simp [binOp, Op.intDiv, hb]) (.int_of _ _)
  case rem =>
    split at hx
    · cases hx
    · rename_i hb
      cases hx; subst hk; exact .same (by simp [binOp, Op.intDiv, hb]) (.int_of _ _)
  case and => cases hx; subst hk; exact .same (by simp only [binOp, ne_eq, not_true, if_false]; exact congrArg (fun s : Sem Value => s.run P w) (intBits_and k a b)) (.int_of _ _)
  case or => cases hx; subst hk; exact .same (by simp only [binOp, ne_eq, not_true, if_false]; exact congrArg (fun s : Sem Value => s.run P w) (intBits_or k a b)) (.int_of _ _)
  case xor => cases hx; subst hk; exact .same (by simp only [binOp, ne_eq, not_true, if_false]; exact congrArg (fun s : Sem Value => s.run P w) (intBits_xor k a b)) (.int_of _ _)
  case andNot => cases hx; subst hk; exact .same (by simp only [binOp, ne_eq, not_true, if_false]; exact congrArg (fun s : Sem Value => s.run P w) (intBits_andNot k a b)) (.int_of _ _)
  case shl =>
    split at hx
    · cases hx
    · rename_i hb
      cases hx; exact .same (by simp [binOp, Op.shift, hb]) (.int_of _ _)
  case shr =>
    split at hx
    · cases hx
    · rename_i hb
      cases hx; exact .same (by simp [binOp, Op.shift, hb]) (.int_of _ _)
  case eql => cases hx; subst hk; exact .same (by simp [binOp, Op.intCmp]) (.bool_of _)
  case neq => cases hx; subst hk; exact .same (by simp [binOp, Op.intCmp]) (.bool_of _)
  case lss => cases hx; subst hk; exact .same (by simp [binOp, Op.intCmp]) (.bool_of _)
  case leq => cases hx; subst hk; exact .same (by simp [binOp, Op.intCmp]) (.bool_of _)
  case gtr => cases hx; subst hk; exact .same (by simp [binOp, Op.intCmp]) (.bool_of _)
  case geq => cases hx; subst hk; exact .same (by simp [binOp, Op.intCmp]) (.bool_of _)

theorem strBin_ok {op : BinOp} {t : TypeId} {a b : ByteArray} {x : AV} (hx : strBin op a b = some x) : OkV P h φ w (binOp op t (.string a) (.string b)) x := by
  cases op <;> simp only [strBin] at hx
  case add =>
    split at hx
    · rename_i hb
      cases hx
      have h' : ¬ ((9223372036854775807 : Int) < (a.size : Int) + (b.size : Int)) := by omega
      exact .same (by simp [binOp, Op.stringOp, h']) (.str_of _)
    · cases hx
  case eql => cases hx; exact .same (by simp [binOp, Op.stringOp]) (.bool_of _)
  case neq => cases hx; exact .same (by simp [binOp, Op.stringOp]) (.bool_of _)
  all_goals cases hx

theorem part_run (g : Good P C) {t : TypeId} {cs : Array Value} {xs : List AV} {off : Nat} {x : AV} (hsz : cs.size = xs.length) (h1 : ∀ (j : Nat) v, cs[j]? = some v → v.oneCell' = true)
    (hr : ∀ (j : Nat) v y, cs[j]? = some v → xs[j]? = some y → Rel h φ w v y) (hp : partA C t xs off = some x) : ∃ v, (part t cs off).run P w = .ok v w ∧ Rel h φ w v x := by
  by_cases hagg : (C.ut t).isAgg = true
  · have hk : (C.ut t).known = true := by revert hagg; cases C.ut t <;> simp [UD.isAgg, UD.known]
    have hp' : off + C.sz t ≤ xs.length ∧ .agg ((xs.drop off).take (C.sz t)) = x := by
      unfold partA at hp
      revert hp hagg
      cases C.ut t <;> simp [UD.isAgg]
    obtain ⟨hle, rfl⟩ := hp'
    refine ⟨.agg (cs.extract off (off + C.sz t)), by simp [part, run_isAgg g hk, hagg, run_sizeOf g hk], .agg _ _ (by simp; omega) (fun j v hv => ?_) (fun j v y hv hy => ?_)⟩
    · rw [Array.getElem?_extract] at hv
      split at hv
      · exact h1 _ v hv
      · cases hv
    · rw [Array.getElem?_extract] at hv
      split at hv
      · rename_i hlt
        rw [List.getElem?_take, List.getElem?_drop] at hy
        split at hy
        · exact hr _ v y hv hy
        · cases hy
      · cases hv
  · have hk : (C.ut t).known = true := by
      unfold partA at hp
      revert hp
      cases C.ut t <;> simp [UD.known]
    have hp' : xs[off]? = some x := by
      unfold partA at hp
      revert hp hagg
      cases C.ut t <;> simp [UD.isAgg]
    have hlt : off < cs.size := by rw [hsz]; exact (List.getElem?_eq_some_iff.1 hp').1
    have hv : cs[off]? = some cs[off] := Array.getElem?_eq_getElem hlt
    exact ⟨cs[off], by simp [part, run_isAgg g hk, hagg, hv], hr _ _ _ hv hp'⟩

/-- Equality of plain values. -/
theorem eqA_run (g : Good P C) : ∀ (d n : Nat) (t : TypeId) (x y : AV) (u v : Value) (r : Bool), eqA C d t x y = some r → Rel h φ w u x → Rel h φ w v y → d ≤ n → (Op.equalIn n t u v).run P w = .ok r w
  | 0, _, _, _, _, _, _, _, he, _, _, _ => by simp [eqA] at he
  | d + 1, 0, _, _, _, _, _, _, _, _, _, hn => by omega
  | d + 1, n + 1, t, x, y, u, v, r, he, ru, rv, hn => by
    simp only [eqA] at he
    split at he
    · rename_i a b hu
      cases ru.bool_inv; cases rv.bool_inv; cases he
      simp [Op.equalIn, run_und (und_bool g hu)]
    · rename_i k0 k a k' b hu
      split at he
      · rename_i hk
        subst hk
        cases ru.int_inv; cases rv.int_inv; cases he
        simp [Op.equalIn, run_und (und_int g hu)]
      · cases he
    · rename_i a b hu
      cases ru.str_inv; cases rv.str_inv; cases he
      simp [Op.equalIn, run_und (und_str g hu), beq_toListBytes]
    · rename_i fields xs ys hu
      obtain ⟨fs, hfu, hff, hfk, heq⟩ := und_strct g hu
      obtain ⟨hst, _, hname⟩ := heq rfl
      obtain ⟨cu, rfl, hsu, hu1, hru⟩ := ru.agg_inv
      obtain ⟨cv, rfl, hsv, hv1, hrv⟩ := rv.agg_inv
      have hst' : P.stoodInHeld t = false := hst
      simp only [Op.equalIn, Sem.run_bind, run_und hfu, Result.andThen_ok, run_program, hst', Bool.false_eq_true, if_false]
      have key : ∀ (l : List Field), (∀ f ∈ l, f ∈ fs.toList) → (l.map fun f => (f.offset, f.type)).foldr (fun f r => match partA C f.2 xs f.1, partA C f.2 ys f.1 with
          | some u, some v => match eqA C d f.2 u v with
            | some true => r
            | some false => some false
            | none => none
          | _, _ => none) (some true) = some r →
          (forIn l ((none, ()) : Option Bool × Unit) fun f _ => do
            if f.name ≠ "_" then
              if (!(← Op.equalIn n f.type (← part f.type cu f.offset) (← part f.type cv f.offset))) = true then pure (ForInStep.done (some false, ()))
              else pure (ForInStep.yield (none, ()))
            else pure (ForInStep.yield (none, ())) : Sem (Option Bool × Unit)).run P w = .ok (if r then none else some false, ()) w := by
        intro l
        induction l with
        | nil => intro _ hr; simp at hr; subst hr; rfl
        | cons f l ih =>
          intro hin hr
          simp only [List.map_cons, List.foldr_cons] at hr
          have hf := hin f (by simp)
          have hnm : f.name ≠ "_" := hname f hf
          cases hp1 : partA C f.type xs f.offset with
          | none => simp [hp1] at hr
          | some p1 =>
            cases hp2 : partA C f.type ys f.offset with
            | none => simp [hp1, hp2] at hr
            | some p2 =>
              simp only [hp1, hp2] at hr
              obtain ⟨v1, e1, r1⟩ := part_run g hsu hu1 hru hp1
              obtain ⟨v2, e2, r2⟩ := part_run g hsv hv1 hrv hp2
              cases hq : eqA C d f.type p1 p2 with
              | none => simp [hq] at hr
              | some q =>
                have e3 := eqA_run g d n f.type p1 p2 v1 v2 q hq r1 r2 (by omega)
                cases q with
                | false =>
                  simp only [hq, Option.some.injEq] at hr
                  subst hr
                  simp [List.forIn_cons, hnm, e1, e2, e3]
                | true =>
                  simp only [hq] at hr
                  have := ih (fun x hx => hin x (by simp [hx])) hr
                  simp only [List.forIn_cons, hnm, ne_eq, not_false_eq_true, if_true, Sem.run_bind, e1, e2, e3, Result.andThen_ok, Bool.not_true, Bool.false_eq_true, if_false, Sem.run_pure]
                  exact this
      have := key fs.toList (fun f hf => hf) (by rw [hff]; exact he)
      rw [← Array.forIn_toList]
      rw [this]
      cases r <;> rfl
    · cases he

end
end Go.Ab
