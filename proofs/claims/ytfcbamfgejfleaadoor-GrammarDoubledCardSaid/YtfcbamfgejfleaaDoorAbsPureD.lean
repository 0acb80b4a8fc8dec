/-
  WHAT AN OPERATION ON VALUES DOES IN THE PICTURE, IT DOES IN THE MODEL (all operations on values, in one statement). Conditions: 'Good': the table of types is the program's.
-/
import Derived.Test.YtfcbamfgejfleaaDoorAbsPureC
namespace Go.Ab
section
variable {P : Program} {C : Cfg} {h : Heap} {φ : Map} {w : World}

/-- A part of a slice that is never written again. -/
theorem vec_cut {S : Nat → Nat → Prop} {v : Value} {n sz a b : Nat} {cells : List AV} (hp : PRel w S v (.vec n cells)) (hab : a ≤ b) (hbn : b ≤ n) :
    ∃ ad c, v = .slice ad n c ∧ (n ≤ c ∨ n = 0) ∧ (n ≤ c → PRel w S (.slice (if c = a then ad else ad.map (·.add (a * sz))) (b - a) (c - a)) (.vec (b - a) ((cells.drop (a * sz)).take ((b - a) * sz)))) := by
  cases hp with
  | vec0 ad c =>
    refine ⟨ad, c, rfl, .inr rfl, fun _ => ?_⟩
    have ha : a = 0 := by omega
    have hb : b = 0 := by omega
    subst ha hb
    simp only [Nat.sub_self, Nat.zero_mul, List.drop_nil, List.take_nil]
    exact .vec0 _ _
  | vec bl o n c cells vs hS hnc hlen hc hr =>
    refine ⟨_, c, rfl, .inl hnc, fun _ => ?_⟩
    by_cases hz : b - a = 0
    · rw [hz]
      simp only [Nat.zero_mul, List.take_zero]
      exact .vec0 _ _
    · have hca : c ≠ a := by omega
      rw [if_neg hca]
      simp only [Option.map_some, Addr.add_lit]
      refine .vec bl (o + a * sz) (b - a) (c - a) _ ((vs.drop (a * sz)).take ((b - a) * sz)) (fun j hj => (by rw [Nat.add_assoc]; refine hS _ ?_; simp at hj; omega)) (by omega) (by simp [hlen]) (fun j v hv => ?_) (fun j v x hv hx => ?_)
      · rw [List.getElem?_take, List.getElem?_drop] at hv
        split at hv
        · rw [Nat.add_assoc]
          exact hc _ v hv
        · cases hv
      · rw [List.getElem?_take, List.getElem?_drop] at hv hx
        split at hv
        · rename_i hlt
          rw [if_pos hlt] at hx
          exact hr _ v x hv hx
        · cases hv

theorem sliceA_ok (g : Good P C) {t : TypeId} {x z : AV} {lo hi : Option AV} {u : Value} {lo' hi' : Option Value} (hx : sliceA C t x lo hi = some z) (ru : Rel h φ w u x) (rl : OptRel h φ w lo' lo) (rh : OptRel h φ w hi' hi) :
    OkV P h φ w (Instr.sliceAt t u lo' hi' none) z := by
  unfold sliceA at hx
  split at hx
  · rename_i s hu
    cases ru.str_inv
    simp only [Option.bind_eq_bind, Option.bind_eq_some_iff] at hx
    obtain ⟨b, hb, a, ha, hz⟩ := hx
    cases hz
    obtain ⟨hr, hab, hbn⟩ := bounds_run (P := P) (isSlice := false) (cap := s.size) (Nat.le_refl _) rl rh hb ha
    exact .same (by simp [Instr.sliceAt, Instr.slice, run_und (und_str g hu), hr]) (.str_of _)
  · rename_i e n cells hu
    obtain ⟨hue, hke⟩ := und_slice g hu
    simp only [Option.bind_eq_bind, Option.bind_eq_some_iff] at hx
    obtain ⟨b, hb, a, ha, hz⟩ := hx
    cases hz
    have hpv := ru.vec_inv
    have hab : a ≤ b ∧ b ≤ n := (bounds_run (P := P) (isSlice := true) (cap := n) (Nat.le_refl _) rl rh hb ha).2
    obtain ⟨ad, c, rfl, hnc, hrel⟩ := vec_cut (sz := C.sz e) hpv hab.1 hab.2
    have hnc' : n ≤ c := by rcases hnc with h' | h' <;> omega
    obtain ⟨hr, _, _⟩ := bounds_run (P := P) (isSlice := true) (cap := c) hnc' rl rh hb ha
    refine .same (by simp [Instr.sliceAt, Instr.slice, run_und hue, hr, run_sizeOf g hke]) (.pure (hrel hnc'))
  · rename_i e β gn off n hu
    obtain ⟨hue, hke⟩ := und_slice g hu
    simp only [Option.bind_eq_bind, Option.bind_eq_some_iff] at hx
    obtain ⟨b, hb, a, ha, hz⟩ := hx
    have hab : a ≤ b ∧ b ≤ n := (bounds_run (P := P) (isSlice := true) (cap := n) (Nat.le_refl _) rl rh hb ha).2
    obtain ⟨ad, cap, bk, rfl, hbk, hg, hlc, hcm, had, hn, hv⟩ := ru.own_inv
    obtain ⟨hr, _, _⟩ := bounds_run (P := P) (isSlice := true) (cap := cap) hlc rl rh hb ha
    have hrun : (Instr.sliceAt t (.slice ad n cap) lo' hi' none).run P w = .ok (.slice (if cap = a then ad else ad.map (·.add (a * C.sz e))) (b - a) (cap - a)) w := by
      simp [Instr.sliceAt, Instr.slice, run_und hue, hr, run_sizeOf g hke]
    split at hz
    · rename_i ha0
      cases hz
      subst ha0
      refine .same hrun ?_
      have e1 : (if cap = 0 then ad else ad.map (·.add (0 * C.sz e))) = ad := by
        split
        · rfl
        · cases ad <;> simp [Addr.add_zero']
      rw [e1]
      simp only [Nat.sub_zero]
      exact .own β gn off b cap ad bk hbk hg (by omega) hcm (fun h0 => had (by omega)) hn hv
    · rename_i ha0
      split at hz
      · rename_i hab2
        cases hz
        refine .same hrun ?_
        obtain ⟨bl, rfl⟩ := had (by omega)
        rw [if_neg (by omega)]
        simp only [Option.map_some, Addr.add_lit]
        have hpos : 0 < a * C.sz e := Nat.mul_pos (by omega) hab2.2
        refine .own β gn _ _ (cap - a) _ bk hbk hg (by omega) (by omega) (fun _ => ⟨bl, rfl⟩) (fun he hvv => ?_) (fun he hvv => ?_)
        · have := (hn he hvv).2
          omega
        · obtain ⟨h1, _⟩ := hv he hvv
          simp only [Option.some.injEq, Addr.mk.injEq, and_true] at h1
          rw [h1]
          exact ⟨rfl, fun h0 => by omega⟩
      · split at hz
        · rename_i hab3
          cases hz
          have hba : b - a = 0 := by omega
          rw [hba] at hrun
          exact .same hrun (.pure (.vec0 _ _))
        · cases hz
  · rename_i e hu
    obtain ⟨hue, hke⟩ := und_slice g hu
    cases ru.nils_inv
    simp only [Option.bind_eq_bind, Option.bind_eq_some_iff] at hx
    obtain ⟨b, hb, a, ha, hz⟩ := hx
    cases hz
    obtain ⟨hr, hab, hbn⟩ := bounds_run (P := P) (isSlice := true) (cap := 0) (Nat.le_refl _) rl rh hb ha
    have ha0 : a = 0 := by omega
    have hb0 : b = 0 := by omega
    subst ha0 hb0
    exact .same (by simp [Instr.sliceAt, Instr.slice, run_und hue, hr, run_sizeOf g hke]) (.pure .nils)
  · cases hx

end
end Go.Ab
