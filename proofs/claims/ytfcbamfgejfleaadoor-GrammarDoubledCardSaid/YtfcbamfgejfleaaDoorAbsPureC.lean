/-
  WHAT AN OPERATION ON VALUES DOES IN THE PICTURE, IT DOES IN THE MODEL (all operations on values). Conditions: 'Good': the table of types is the program's.
-/
import Derived.Test.YtfcbamfgejfleaaDoorAbsPureB
namespace Go.Ab
section
variable {P : Program} {C : Cfg} {h : Heap} {φ : Map} {w : World}

theorem binA_ok (g : Good P C) {op : BinOp} {t : TypeId} {x y z : AV} {u v : Value} {ox oy : Operand} (hx : binA C op t x y = some z) (ru : Rel h φ w u x) (rv : Rel h φ w v y) :
    OkV P h φ w (do eqGuard op t ox oy u v; binOp op t u v) z := by
  unfold binA at hx
  split at hx
  · split at hx
    · rename_i hk
      cases ru.int_inv; cases rv.int_inv
      obtain ⟨v', w', h1, h2, h3⟩ := intBin_ok (P := P) (h := h) (φ := φ) (w := w) (t := t) hk hx
      exact ⟨v', w', by rw [eqGuard_at_int]; exact h1, h2, h3⟩
    · cases hx
  · cases ru.str_inv; cases rv.str_inv
    obtain ⟨v', w', h1, h2, h3⟩ := strBin_ok (P := P) (h := h) (φ := φ) (w := w) (t := t) hx
    exact ⟨v', w', by rw [eqGuard_at_string]; exact h1, h2, h3⟩
  · cases ru.bool_inv; cases rv.bool_inv
    split at hx
    · split at hx
      · rename_i a b _ hu
        cases hx
        refine .same (v := .bool (a == b)) ?_ (.bool_of _)
        have he := eqA_run (h := h) (φ := φ) (w := w) g 1 10000 t (.bool a) (.bool b) (.bool a) (.bool b) (a == b) (by simp [eqA, hu]) (.bool_of a) (.bool_of b) (by omega)
        rw [eqGuard_at_bool, show binOp .eql t (.bool a) (.bool b) = (do pure (.bool (← Op.equalIn 10000 t (.bool a) (.bool b)))) from rfl]
        simp only [Sem.run_bind, Sem.run_pure, Result.andThen_ok, he]
      · cases hx
    · split at hx
      · rename_i a b _ hu
        cases hx
        refine .same (v := .bool (a != b)) ?_ (.bool_of _)
        have he := eqA_run (h := h) (φ := φ) (w := w) g 1 10000 t (.bool a) (.bool b) (.bool a) (.bool b) (a == b) (by simp [eqA, hu]) (.bool_of a) (.bool_of b) (by omega)
        rw [eqGuard_at_bool, show binOp .neq t (.bool a) (.bool b) = (do pure (.bool (!(← Op.equalIn 10000 t (.bool a) (.bool b))))) from rfl]
        simp only [Sem.run_bind, Sem.run_pure, Result.andThen_ok, he, bne]
      · cases hx
    · cases hx
  · rename_i xs ys
    have guard : ∀ {r : Bool}, eqA C 4 t (.agg xs) (.agg ys) = some r → ∀ op', (eqGuard op' t ox oy u v).run P w = .ok () w ∧ (Op.equalIn 10000 t u v).run P w = .ok r w ∧ ∃ a b, u = .agg a ∧ v = .agg b := by
      intro r hr op'
      have he := eqA_run g 4 10000 t (.agg xs) (.agg ys) u v r hr ru rv (by omega)
      obtain ⟨a, rfl, _⟩ := ru.agg_inv
      obtain ⟨b, rfl, _⟩ := rv.agg_inv
      refine ⟨?_, he, a, b, rfl, rfl⟩
      simp only [eqA] at hr
      split at hr
      · rename_i hxx _; cases hxx
      · rename_i hxx _; cases hxx
      · rename_i hxx _; cases hxx
      · rename_i fields _ _ hu _ _
        obtain ⟨fs, hfu, hff, hfk, heq⟩ := und_strct g hu
        exact run_eqGuard_agg w op' t ox oy a b (heq rfl).2.1
      · cases hr
    split at hx
    · obtain ⟨r, hr, rfl⟩ := Option.map_eq_some_iff.1 hx
      obtain ⟨h1, h2, a, b, rfl, rfl⟩ := guard hr .eql
      exact .same (by simp only [Sem.run_bind, h1, Result.andThen_ok, run_eql_struct, h2]) (.bool_of _)
    · obtain ⟨r, hr, rfl⟩ := Option.map_eq_some_iff.1 hx
      obtain ⟨h1, h2, a, b, rfl, rfl⟩ := guard hr .neq
      exact .same (by simp only [Sem.run_bind, h1, Result.andThen_ok, run_neq_struct, h2]) (.bool_of _)
    · cases hx
  · cases hx

theorem unA_ok {op : UnOp} {x z : AV} {u : Value} (hx : unA op x = some z) (ru : Rel h φ w u x) : OkV P h φ w (Op.unary op u) z := by
  unfold unA at hx
  split at hx
  · cases ru.int_inv; cases hx
    exact .same (by simp [Op.unary, Op.intArith]) (.int_of _ _)
  · cases ru.bool_inv; cases hx
    exact .same (by simp [Op.unary]) (.bool_of _)
  · cases hx

/-- An operand that may be missing. -/
def OptRel (h : Heap) (φ : Map) (w : World) (v : Option Value) (x : Option AV) : Prop := (x = none ∧ v = none) ∨ ∃ y u, x = some y ∧ v = some u ∧ Rel h φ w u y

/-- The bounds of a slice expression. -/
theorem bounds_run {isSlice : Bool} {cap n : Nat} {lo hi : Option AV} {lo' hi' : Option Value} {a b : Nat} (hn : n ≤ cap) (rl : OptRel h φ w lo' lo) (rh : OptRel h φ w hi' hi)
    (hb : boundA hi n n = some b) (ha : boundA lo 0 b = some a) : (Instr.sliceBounds isSlice n cap lo' hi' none).run P w = .ok (a, b, cap) w ∧ a ≤ b ∧ b ≤ n := by
  rcases rh with ⟨rfl, rfl⟩ | ⟨y, u, rfl, rfl, ru⟩ <;> rcases rl with ⟨rfl, rfl⟩ | ⟨z, v, rfl, rfl, rv⟩
  · simp only [boundA, Option.some.injEq] at hb ha
    subst hb ha
    exact ⟨by simp [Instr.sliceBounds], Nat.zero_le _, Nat.le_refl _⟩
  · simp only [boundA, Option.some.injEq] at hb
    subst hb
    cases z <;> simp only [boundA, reduceCtorEq] at ha
    rename_i k i
    split at ha
    · rename_i hc
      cases ha; cases rv.int_inv
      exact ⟨by simp [Instr.sliceBounds, run_sliceBound w k i n .sliceB hc.1 hc.2], by omega, Nat.le_refl _⟩
    · cases ha
  · simp only [boundA, Option.some.injEq] at ha
    subst ha
    cases y <;> simp only [boundA, reduceCtorEq] at hb
    rename_i k i
    split at hb
    · rename_i hc
      cases hb; cases ru.int_inv
      exact ⟨by simp [Instr.sliceBounds, run_sliceBound w k i cap (if isSlice = true then .sliceAcap else .sliceAlen) hc.1 (by omega)], Nat.zero_le _, by omega⟩
    · cases hb
  · cases y <;> simp only [boundA, reduceCtorEq] at hb
    rename_i k i
    cases z <;> simp only [boundA, reduceCtorEq] at ha
    rename_i k' i'
    split at hb
    · rename_i hc
      cases hb; cases ru.int_inv
      split at ha
      · rename_i hc'
        cases ha; cases rv.int_inv
        exact ⟨by simp [Instr.sliceBounds, run_sliceBound w k i cap (if isSlice = true then .sliceAcap else .sliceAlen) hc.1 (by omega), run_sliceBound w k' i' i.toNat .sliceB hc'.1 hc'.2], by omega, by omega⟩
      · cases ha
    · cases hb

end
end Go.Ab
