/- My own texts, put together by a program of mine. -/
import Derived.Test.YtbmaijdkebjnhaaK0
set_option linter.unusedSimpArgs false
set_option linter.unusedVariables false
set_option maxRecDepth 100000
set_option maxHeartbeats 4000000
section
namespace Go.Ab
section
variable {P : Program} {C : Cfg} {G : Nat → AV} {B : Nat} {h : c6} {φ φ' : Map} {w w' : World}
def laid (h : c6) (β : Nat) (b blk : Blk) : c6 := h.set β { blk with gen := b.gen + 1 }
def aK (h : c6) (φ' : Map) (β : Nat) : Map := fun γ => if γ = β then φ' h.length else φ' γ
theorem fT {β : Nat} {b blk : Blk} (hb : h[β]? = some b) {γ : Nat} {c : Blk} (hc : (laid h β b blk)[γ]? = some c) : (γ ≠ β ∧ h[γ]? = some c) ∨ (γ = β ∧ c = { blk with gen := b.gen + 1 }) := by
 have hl := (List.getElem?_eq_some_iff.1 hb).1
 unfold laid at hc
 by_cases e : γ = β
 ·subst e
  rw [List.getElem?_set_self hl] at hc
  exact .inr ⟨rfl, (Option.some.inj hc).symm⟩
 ·rw [List.getElem?_set_ne (Ne.symm e)] at hc
  exact .inl ⟨e, hc⟩
theorem fP {blk : Blk} {γ : Nat} {c : Blk} (hc : h[γ]? = some c) : (h ++ [blk])[γ]? = some c := by
 rw [List.getElem?_append_left (List.getElem?_eq_some_iff.1 hc).1]
 exact hc
theorem U0 {β : Nat} {b blk : Blk} (hb : h[β]? = some b) (hv : blk.cJ = false) {k : Nat} (hk : M9 (h ++ [blk]) φ' w' k) : M9 (laid h β b blk) (aK h φ' β) w' k := by
 refine ⟨hk.1, fun γ c hc hcv => ?_⟩
 rcases fT hb hc with ⟨e, hc'⟩ | ⟨rfl, rfl⟩
 ·simp only [aK, e, if_false]
  exact hk.2 γ c (fP hc') hcv
 ·simp only [aK, if_true]
  exact hk.2 h.length blk (by simp) hv
theorem mK {β : Nat} {b blk : Blk} (hb : h[β]? = some b) (hv : blk.cJ = false) {k j : Nat} (hk : dO (h ++ [blk]) φ' w' k j) : dO (laid h β b blk) (aK h φ' β) w' k j := by
 refine ⟨hk.1, fun γ c hc hcv => ?_⟩
 rcases fT hb hc with ⟨e, hc'⟩ | ⟨rfl, rfl⟩
 ·simp only [aK, e, if_false]
  exact hk.2 γ c (fP hc') hcv
 ·simp only [aK, if_true]
  exact hk.2 h.length blk (by simp) hv
theorem E7 {β : Nat} {b blk : Blk} (hb : h[β]? = some b) (hbv : b.cJ = true) (hv : blk.cJ = false) {v : Value} {x : AV} (r : Rel (h ++ [blk]) φ' w' v x) : Refs h.length x → Rel (laid h β b blk) (aK h φ' β) w' v x := by
 have hl := (List.getElem?_eq_some_iff.1 hb).1
 have at_ : (laid h β b blk)[β]? = some { blk with gen := b.gen + 1 } := by unfold laid; rw [List.getElem?_set_self hl]
 have ne_ : ∀ {γ : Nat} {c : Blk}, γ ≠ β → γ < h.length → (h ++ [blk])[γ]? = some c → (laid h β b blk)[γ]? = some c := by
  intro γ c e hγ hc
  unfold laid
  rw [List.getElem?_set_ne (Ne.symm e)]
  rw [List.getElem?_append_left hγ] at hc
  exact hc
 induction r with
 | pure hp => exact fun _ => .pure (hp.mono fun k j hk => ⟨rfl, mK hb hv hk⟩)
 | ptr γ g off bl c hc hg hcv =>
  intro hx
  have hγ : γ < h.length := by cases hx; assumption
  by_cases e : γ = β
  ·subst e
   have hcb : c = b := by
    rw [List.getElem?_append_left hγ, hb] at hc
    exact (Option.some.inj hc).symm
   subst hcb
   exact .ptr γ g off bl _ at_ t66 (fun he => by simp only at he; omega)
  ·exact .ptr γ g off bl c (ne_ e hγ hc) hg (fun h1 h2 => by simp only [aK, e, if_false]; exact hcv h1 h2)
 | own γ g off len cap ad c hc hg hlc hcm had hn hcv =>
  intro hx
  have hγ : γ < h.length := by cases hx; assumption
  by_cases e : γ = β
  ·subst e
   have hcb : c = b := by
    rw [List.getElem?_append_left hγ, hb] at hc
    exact (Option.some.inj hc).symm
   subst hcb
   exact .own γ g off len cap ad _ at_ t66 hlc hcm had (fun he => by simp only at he; omega) (fun he => by simp only at he; omega)
  ·exact .own γ g off len cap ad c (ne_ e hγ hc) hg hlc hcm had hn (fun h1 h2 => by simp only [aK, e, if_false]; exact hcv h1 h2)
 | fn f a c xs ys ha hc _ _ iha ihc =>
  intro hx
  cases hx with
  | fn _ _ _ h1 h2 => exact .fn f a c xs ys ha hc (fun j v x k1 k2 => iha j v x k1 k2 (h1 x (List.mem_of_getElem? k2))) (fun j v x k1 k2 => ihc j v x k1 k2 (h2 x (List.mem_of_getElem? k2)))
 | iface t v x _ ih =>
  intro hx
  cases hx with
  | iface _ _ h1 => exact .iface t v x (ih h1)
 | agg a xs ha h1 _ ih =>
  intro hx
  cases hx with
  | agg _ h2 => exact .agg a xs ha h1 fun j v x k1 k2 => ih j v x k1 k2 (h2 x (List.mem_of_getElem? k2))
 | tup a xs ha _ ih =>
  intro hx
  cases hx with
  | tup _ h2 => exact .tup a xs ha fun j v x k1 k2 => ih j v x k1 k2 (h2 x (List.mem_of_getElem? k2))
theorem EG {β : Nat} {b blk : Blk} (i0 : Pic G B h φ w) (i : Pic G B (h ++ [blk]) φ' w') (e : Ev h φ w (h ++ [blk]) φ' w') (hb : h[β]? = some b) (hbv : b.cJ = true) (hv : blk.cJ = false) (hc : ∀ x ∈ blk.cells, Refs h.length x) :
  Pic G B (laid h β b blk) (aK h φ' β) w' ∧ Ev h φ w (laid h β b blk) (aK h φ' β) w' := by
 have hnew : (h ++ [blk])[h.length]? = some blk := by simp
 have ev : Ev h φ w (laid h β b blk) (aK h φ' β) w' := by
  refine ⟨e.os, e.tape, e.output, e.size, fun k hk => ⟨(e.kJ k hk).1, U0 hb hv (e.kJ k hk).2⟩, fun k j hk => ⟨(e.cells k j hk).1, mK hb hv (e.cells k j hk).2⟩, by simp [laid], fun γ c c' h1 h2 => ?_⟩
  rcases fT hb h2 with ⟨hne, h2'⟩ | ⟨rfl, rfl⟩
  ·rw [h1] at h2'
   cases h2'
   have := e.QQ γ c c h1 (fP h1)
   refine ⟨Nat.le_refl _, fun _ => ⟨?_, rfl, rfl⟩⟩
   simp only [aK, hne, if_false]
   exact (this.2 rfl).1
  ·rw [hb] at h1
   cases h1
   exact ⟨by simp only; omega, fun he => by simp only at he; omega⟩
 refine ⟨⟨fun γ c hγ hcv => ?_, fun γ γ' c c' h1 h2 v1 v2 he => ?_, fun γ c hγ hcv => ?_, fun γ c hγ hcv => ?_, i.room, fun g => (i.eD g).mono fun k j hk => ⟨rfl, mK hb hv hk⟩⟩, ev⟩
 ·rcases fT hb hγ with ⟨hne, hγ'⟩ | ⟨rfl, rfl⟩
  ·obtain ⟨cur0, _, _, k3, k4⟩ := i0.blk γ c hγ' hcv
   obtain ⟨cur, q1, q2, q3, q4⟩ := i.blk γ c (fP hγ') hcv
   simp only [aK, hne, if_false]
   refine ⟨cur, q1, q2, q3, fun j v x a1 a2 => ⟨(q4 j v x a1 a2).1, ?_⟩⟩
   have hj : j < cur0.size := Nat.lt_of_lt_of_le (List.getElem?_eq_some_iff.1 a2).1 k3
   exact E7 hb hbv hv (q4 j v x a1 a2).2 (Refs.T6 (k4 j cur0[j] x (Array.getElem?_eq_getElem hj) a2).2)
  ·obtain ⟨cur, q1, q2, q3, q4⟩ := i.blk h.length blk hnew hv
   simp only [aK, if_true]
   exact ⟨cur, q1, q2, q3, fun j v x a1 a2 => ⟨(q4 j v x a1 a2).1, E7 hb hbv hv (q4 j v x a1 a2).2 (hc x (List.mem_of_getElem? a2))⟩⟩
 ·rcases fT hb h1 with ⟨n1, k1⟩ | ⟨rfl, rfl⟩ <;> rcases fT hb h2 with ⟨n2, k2⟩ | ⟨rfl, rfl⟩
  ·simp only [aK, n1, n2, if_false] at he
   exact i.inj γ γ' c c' (fP k1) (fP k2) v1 v2 he
  ·simp only [aK, n1, if_false, if_true] at he
   have := i.inj γ h.length c blk (fP k1) hnew v1 hv he
   have := (List.getElem?_eq_some_iff.1 k1).1
   omega
  ·simp only [aK, n2, if_false, if_true] at he
   have := i.inj h.length γ' blk c' hnew (fP k2) hv v2 he
   have := (List.getElem?_eq_some_iff.1 k2).1
   omega
  ·rfl
 ·rcases fT hb hγ with ⟨hne, hγ'⟩ | ⟨rfl, rfl⟩
  ·simp only [aK, hne, if_false]
   exact i.base γ c (fP hγ') hcv
  ·simp only [aK, if_true]
   exact i.base h.length blk hnew hv
 ·rcases fT hb hγ with ⟨hne, hγ'⟩ | ⟨rfl, rfl⟩
  ·exact i.cJ γ c (fP hγ') hcv
  ·simp only at hcv
   rw [hv] at hcv
   cases hcv
def mkA (C : Cfg) (ρ : Operand → AV) (o : Op) : Option (Bool × Nat × Blk) :=
 match o with
 | .alloc t => match C.cJ t with
  | [] => if (C.ut t).known = true ∧ (C.ti t).zero.length = C.sz t then some (true, 0, ⟨0, false, t, C.sz t, (C.ti t).zero, 0⟩) else none
  | _ => none
 | .box t x => match C.cJ t with
  | [] => if (ρ x).storable = true ∧ (ρ x).cellsOf.length = C.sz t then some (true, 0, ⟨0, false, t, C.sz t, (ρ x).cellsOf, 0⟩) else none
  | _ => none
 | .buildSlice t len parts => match C.ut t with
  | .slice e => if len * C.sz e ≤ 16777216 ∧ 0 < C.sz e then (match tG (fun i => if i < len then some (i * C.sz e, C.sz e) else none) ((List.replicate len (C.ti e).zero).flatten) (parts.toList.map fun p => (p.1, ρ p.2)) with
    | some cells => if cells.length = len * C.sz e ∧ len ≤ maxLen then some (false, len, ⟨0, false, e, C.sz e, cells, 0⟩) else none
    | none => none) else none
  | _ => none
 | .makeSlice t l c => match C.ut t, ρ l, ρ c with
  | .slice e, .int _ n, .int _ m => if n = m ∧ 0 ≤ n ∧ (C.ti e).bytes * n ≤ 281474976710656 ∧ n ≤ (maxLen : Int) ∧ 0 < C.sz e ∧ (C.ti e).zero.length = C.sz e then
    some (false, n.toNat, ⟨0, false, e, C.sz e, (List.replicate n.toNat (C.ti e).zero).flatten, 0⟩) else none
  | _, _, _ => none
 | _ => none
theorem U1 {ρ : Operand → AV} {o : Op} {p : Bool} {n : Nat} {blk : Blk} (hm : mkA C ρ o = some (p, n, blk)) : lK C ρ h o = some (if p then .ptr h.length 0 0 else .own h.length 0 0 n, h ++ [blk]) ∧ blk.cJ = false ∧ blk.gen = 0 := by
 unfold mkA at hm
 split at hm
 ·rename_i t
  split at hm
  ·rename_i hv
   split at hm
   ·rename_i hc
    cases hm
    simp only [lK, hc.1, if_true, mF, hc.2, hv, uM, and_self]
   ·cases hm
  ·cases hm
 ·rename_i t x
  split at hm
  ·rename_i hv
   split at hm
   ·rename_i hc
    cases hm
    simp only [lK, hc.1, if_true, mF, hc.2, hv, uM, and_self]
   ·cases hm
  ·cases hm
 ·rename_i t len parts
  split at hm
  ·rename_i e hu
   split at hm
   ·rename_i hc
    split at hm
    ·rename_i cells hf
     split at hm
     ·rename_i hl
      cases hm
      refine ⟨?_, rfl, rfl⟩
      simp only [lK, hu, if_pos hc, hf, if_pos hl, Bool.false_eq_true, if_false]
     ·cases hm
    ·cases hm
   ·cases hm
  ·cases hm
 ·rename_i t l c
  split at hm
  ·rename_i e k n k' m hu hl hc
   split at hm
   ·rename_i hb
    cases hm
    refine ⟨?_, rfl, rfl⟩
    simp only [lK, hu, hl, hc, if_pos hb, Bool.false_eq_true, if_false]
   ·cases hm
  ·cases hm
 ·cases hm
def atA (C : Cfg) (ρ : Operand → AV) (h : c6) (β : Nat) (o : Op) : Option (AV × c6) :=
 match h[β]? with
 | some b => match b.cJ with
  | true => match mkA C ρ o with
   | some (p, n, blk) => match blk.cells.all (z6 h.length 4) with
    | true => some (if p then .ptr β (b.gen + 1) 0 else .own β (b.gen + 1) 0 n, laid h β b blk)
    | false => none
   | none => none
  | false => none
 | none => none
theorem eE {n : Nat} : ∀ (d : Nat) (x : AV), z6 n d x = true → Refs n x
 | 0, x, hx => by simp [z6] at hx
 | d + 1, x, hx => by
  cases x with
  | ptr β g off => simp only [z6, decide_eq_true_eq] at hx; exact .ptr _ _ _ hx
  | own β g off l => simp only [z6, decide_eq_true_eq] at hx; exact .own _ _ _ _ hx
  | fn f a c =>
   simp only [z6, Bool.and_eq_true] at hx
   exact .fn f _ _ (fun y hy => eE d y (List.all_eq_true.1 hx.1 y hy)) (fun y hy => eE d y (List.all_eq_true.1 hx.2 y hy))
  | iface t v => exact .iface t _ (eE d v (by simpa [z6] using hx))
  | agg xs => exact .agg _ fun y hy => eE d y (List.all_eq_true.1 (by simpa only [z6] using hx) y hy)
  | tup xs => exact .tup _ fun y hy => eE d y (List.all_eq_true.1 (by simpa only [z6] using hx) y hy)
  | any => exact .any
  | bool b => exact .bool _
  | int k n => exact .int _ _
  | str s => exact .str _
  | iP => exact .iP
  | g6 => exact .g6
  | m6 => exact .m6
  | mW => exact .mW
  | vec n cs => exact .vec _ _
  | jK cs o => exact .jK _ _
theorem atA_ok (i : Pic G B h φ w) (g : Good P C) {ρc : Operand → Value} {ρ : Operand → AV} (hρ : ∀ x, Rel h φ w (ρc x) (ρ x)) {o : Oper} {β : Nat} {y : AV} {h2 : c6} (he : atA C ρ h β o.op = some (y, h2)) : OkX P G B h φ w (execOp ρc o) y h2 := by
 unfold atA at he
 split at he
 ·rename_i b hb
  split at he
  ·rename_i hbv
   split at he
   ·rename_i p n blk hm
    split at he
    ·rename_i hcells
     cases he
     obtain ⟨hf, hv, hgen⟩ := U1 (h := h) hm
     obtain ⟨nx, v, w', φ', q1, q2, q3, q4, q5⟩ := T0 i g hρ hf
     obtain ⟨m1, m2⟩ := EG i q3 q4 hb hbv hv (fun z hz => eE 4 z (List.all_eq_true.1 hcells z hz))
     have hl := (List.getElem?_eq_some_iff.1 hb).1
     have at_ : (laid h β b blk)[β]? = some { blk with gen := b.gen + 1 } := by unfold laid; rw [List.getElem?_set_self hl]
     have hnew : (h ++ [blk])[h.length]? = some blk := by simp
     cases p with
     | true =>
      rw [if_pos rfl] at q5
      rw [if_pos rfl]
      obtain ⟨bl, c, rfl, hc, hg2, hcv⟩ := q5.oM
      rw [hnew] at hc
      cases hc
      refine ⟨nx, _, w', aK h φ' β, q1, q2, m1, m2, .ptr β _ 0 bl _ at_ (Nat.le_refl _) (fun _ _ => ?_)⟩
      simp only [aK, if_true]
      exact hcv hgen.symm hv
     | false =>
      rw [if_neg (by decide)] at q5
      rw [if_neg (by decide)]
      obtain ⟨ad, cap, c, rfl, hc, hg2, hlc, hcm, had, hn, hcv⟩ := q5.jN
      rw [hnew] at hc
      cases hc
      refine ⟨nx, _, w', aK h φ' β, q1, q2, m1, m2, .own β _ 0 _ cap ad _ at_ (Nat.le_refl _) hlc hcm had (fun _ h0 => by simp only at h0; rw [hv] at h0; cases h0) (fun _ _ => ?_)⟩
      simp only [aK, if_true]
      have hq := hcv hgen.symm hv
      exact ⟨hq.1, fun _ => hq.2 rfl⟩
    ·cases he
   ·cases he
  ·cases he
 ·cases he
end
end Go.Ab
end
section
namespace Go.Ab
section
variable {P : Program} {C : Cfg}
def cK.zP (p : cK) (M : List Nat) (ops : Array Oper) : Bool :=
 (List.range ops.size).all fun i => p.isE i || M.contains i || (List.range (p.eL ops.size + 1)).all fun k => k == p.eL i || !p.meets ops.size i k
def cO (P : Program) (C : Cfg) (ops : Array Oper) (p : cK) (M : List Nat) : List Oper → Nat → St → List c6 → List (Nat × (c6 → Prop)) → (St → Prop) → Prop
 | [], _, st, hs, pend, Q => (∀ x ∈ pend, ∀ k, k < hs.length → p.meets ops.size x.1 k = true → x.2 (hs.reverse.getD k [])) ∧ Q st
 | o :: rest, i, st, hs, pend, Q =>
  (s6 ops st.sl o = some true ∧ ∃ x h', OpA P C (rho C st.sl) st.h o.op (fun y h => y = x ∧ h = h') ∧ (p.isE i = false → h' = st.h) ∧
   cO P C ops p M rest (i + 1) ⟨cZ st.sl o.dst x, h'⟩ (match p.isE i with | true => h' :: hs | false => hs)
    (match M.contains i with | true => (i, fun H => OpA P C (rho C st.sl) H o.op (fun y h => y = x ∧ h = H)) :: pend | false => pend) Q) ∨
  (s6 ops st.sl o = some false ∧ p.isE i = false ∧ cO P C ops p M rest (i + 1) ⟨cZ st.sl o.dst (.tup []), st.h⟩ hs pend Q)
theorem gJ {ops : Array Oper} {p : cK} {M : List Nat} (hs : p.zP M ops = true) {Q : St → Prop} : ∀ (l : List Oper) (i : Nat) (st : St) (H : List c6) (pend pm : List (Nat × (c6 → Prop))), i + l.length = ops.size → cO P C ops p M l i st H pm Q →
  H.headD [] = st.h → H.length = p.eL i + 1 →
  (∀ x ∈ pend, (x.1 < i ∧ p.isE x.1 = false ∧ M.contains x.1 = false ∧ x.2 (H.reverse.getD (p.eL x.1) [])) ∨ (∃ y ∈ pm, y.1 = x.1 ∧ ∀ K, y.2 K → x.2 K)) → xF P C ops p l i st.sl H pend Q
 | [], i, st, H, pend, pm, hi, r, hh, hl, hp => by
  obtain ⟨r1, r2⟩ := r
  refine ⟨fun x hx k hk hm => ?_, ?_⟩
  ·rcases hp x hx with ⟨h1, h2, h4, h3⟩ | ⟨y, hy, he, hi'⟩
   ·have hi' : i = ops.size := by simpa using hi
    have := List.all_eq_true.1 hs x.1 (List.mem_range.2 (by omega))
    rw [h2, h4, Bool.false_or, Bool.false_or] at this
    have := List.all_eq_true.1 this k (List.mem_range.2 (by rw [← hi', ← hl]; exact hk))
    rw [hm] at this
    simp at this
    rw [this]
    exact h3
   ·exact hi' _ (r1 y hy k hk (by rw [he]; exact hm))
  ·obtain ⟨sl, h⟩ := st
   simp only at hh
   rw [hh]
   exact r2
 | o :: rest, i, st, H, pend, pm, hi, r, hh, hl, hp => by
  have hrest : i + 1 + rest.length = ops.size := by rw [← hi]; simp; omega
  have hgt : ∀ j, j < i → p.eL j < H.length := fun j hj => by
   have := rH p (Nat.le_of_lt hj)
   omega
  have hcur : H.reverse.getD (p.eL i) [] = st.h := by
   rw [← hh]
   cases H with
   | nil => simp at hl
   | cons x H =>
    simp at hl
    rw [List.getD_eq_getElem?_getD, List.reverse_cons, List.getElem?_append_right t59]
    simp [hl]
  have grow : ∀ {pm' : List (Nat × (c6 → Prop))}, (∀ y ∈ pm, y ∈ pm') → ∀ h', ∀ x ∈ pend, (x.1 < i + 1 ∧ p.isE x.1 = false ∧ M.contains x.1 = false ∧ x.2 ((h' :: H).reverse.getD (p.eL x.1) [])) ∨ (∃ y ∈ pm', y.1 = x.1 ∧ ∀ K, y.2 K → x.2 K) := by
   intro pm' hpm h' x hx
   rcases hp x hx with ⟨k1, k2, k4, k3⟩ | ⟨y, hy, he, hk⟩
   ·exact .inl ⟨by omega, k2, k4, by rw [E5 _ (hgt _ k1)]; exact k3⟩
   ·exact .inr ⟨y, hpm y hy, he, hk⟩
  have kJ : ∀ {pm' : List (Nat × (c6 → Prop))}, (∀ y ∈ pm, y ∈ pm') → ∀ x ∈ pend, (x.1 < i + 1 ∧ p.isE x.1 = false ∧ M.contains x.1 = false ∧ x.2 (H.reverse.getD (p.eL x.1) [])) ∨ (∃ y ∈ pm', y.1 = x.1 ∧ ∀ K, y.2 K → x.2 K) := by
   intro pm' hpm x hx
   rcases hp x hx with ⟨k1, k2, k4, k3⟩ | ⟨y, hy, he, hk⟩
   ·exact .inl ⟨by omega, k2, k4, k3⟩
   ·exact .inr ⟨y, hpm y hy, he, hk⟩
  rcases r with ⟨h1, x, h', h2, h3, h4⟩ | ⟨h1, h2, h4⟩
  ·have h2' := OpA.congr (rM (ops := ops)) h2
   cases hE : p.isE i with
   | true =>
    rw [hE] at h4
    refine .inl ⟨h1, hE, x, h', ?_, gJ hs rest (i + 1) _ (h' :: H) pend _ hrest h4 rfl (by simp [cK.eL, hE, hl]) (grow (fun y hy => ?_) h')⟩
    ·rw [hh]; exact h2'
    ·cases M.contains i with
     | true => exact List.mem_cons_of_mem _ hy
     | false => exact hy
   | false =>
    rw [hE] at h4
    have he := h3 hE
    subst he
    refine .inr (.inr (.inl ⟨h1, hE, x, gJ hs rest (i + 1) ⟨cZ st.sl o.dst x, st.h⟩ H _ _ hrest h4 hh (by simp [cK.eL, hE, hl]) fun y hy => ?_⟩))
    cases hM : M.contains i with
    | true =>
     rcases List.mem_cons.1 hy with rfl | hy
     ·exact .inr ⟨_, List.mem_cons_self, rfl, fun K hK => OpA.congr (rM (ops := ops)) hK⟩
     ·exact kJ (fun z hz => List.mem_cons_of_mem _ hz) y hy
    | false =>
     rcases List.mem_cons.1 hy with rfl | hy
     ·refine .inl ⟨by simp, hE, hM, ?_⟩
      show OpA P C _ (H.reverse.getD (p.eL i) []) o.op _
      rw [hcur]
      exact h2'
     ·exact kJ (fun z hz => hz) y hy
  ·exact .inr (.inr (.inr ⟨h1, h2, gJ hs rest (i + 1) ⟨cZ st.sl o.dst (.tup []), st.h⟩ H pend pm hrest h4 hh t98 (kJ fun _ hy => hy)⟩))
theorem c8.jP (g : Good P C) {id : Nat} {ops : Array Oper} {st : St} {Q : Exit → St → Prop} (p : cK) (M : List Nat) (hp : p.ok ops st.sl.length = true) (hs : p.zP M ops = true) (r : cO P C ops p M ops.toList 0 st [st.h] [] fun st' => Q .normal st') : c8 P C (.region id ops true) st Q :=
 c8.draw g p hp (gJ hs ops.toList 0 st [st.h] [] [] (by simp) r rfl (by simp [cK.eL]) (by simp))
abbrev Pd := Nat × Op × List AV × AV
def kG (P : Program) (C : Cfg) (q : Pd) : Nat × (c6 → Prop) := (q.1, fun H => OpA P C (rho C q.2.2.1) H q.2.1 (fun y h => y = q.2.2.2 ∧ h = H))
def U2 (C : Cfg) (q : Pd) : List c6 → Prop
 | [] => True
 | H :: hs => p7 C (rho C q.2.2.1) H q.2.1 = some (q.2.2.2, H) ∧ U2 C q hs
def EH (C : Cfg) (hs : List c6) : List Pd → Prop
 | [] => True
 | q :: pd => U2 C q hs ∧ EH C hs pd
theorem xL {q : Pd} : ∀ {hs : List c6}, U2 C q hs → ∀ H ∈ hs, p7 C (rho C q.2.2.1) H q.2.1 = some (q.2.2.2, H)
 | [], _, H, h => by simp at h
 | K :: hs, h, H, hm => by
  rcases List.mem_cons.1 hm with rfl | hm
  ·exact h.1
  ·exact xL h.2 H hm
theorem xM {hs : List c6} : ∀ {pd : List Pd}, EH C hs pd → ∀ q ∈ pd, U2 C q hs
 | [], _, q, h => by simp at h
 | r :: pd, h, q, hm => by
  rcases List.mem_cons.1 hm with rfl | hm
  ·exact h.1
  ·exact xM h.2 q hm
def xN (C : Cfg) (ops : Array Oper) (p : cK) (M : List Nat) : List Oper → Nat → St → List c6 → List Pd → Option (St × List c6 × List Pd)
 | [], _, st, hs, pd => some (st, hs, pd)
 | o :: rest, i, st, hs, pd => match s6 ops st.sl o with
  | some true => match tH C (p.isE i) (rho C st.sl) st.h o.op with
   | some (x, h') => xN C ops p M rest (i + 1) ⟨cZ st.sl o.dst x, h'⟩ (match p.isE i with | true => h' :: hs | false => hs) (match M.contains i with | true => (i, o.op, st.sl, x) :: pd | false => pd)
   | none => none
  | some false => match p.isE i with
   | true => none
   | false => xN C ops p M rest (i + 1) ⟨cZ st.sl o.dst (.tup []), st.h⟩ hs pd
  | none => none
theorem cO.pre {ops : Array Oper} {p : cK} {M : List Nat} {l : List Oper} {i : Nat} {st st' : St} {hs hs' : List c6} {pd pd' : List Pd} {Q : St → Prop} (k : Nat) (h : xN C ops p M (l.take k) i st hs pd = some (st', hs', pd'))
  (hk : cO P C ops p M (l.drop k) (i + (l.take k).length) st' hs' (pd'.map (kG P C)) Q) : cO P C ops p M l i st hs (pd.map (kG P C)) Q := by
 have key : ∀ (l1 : List Oper) (i : Nat) (s : St) (hs : List c6) (pd : List Pd), xN C ops p M l1 i s hs pd = some (st', hs', pd') → cO P C ops p M (l.drop k) (i + l1.length) st' hs' (pd'.map (kG P C)) Q → cO P C ops p M (l1 ++ l.drop k) i s hs (pd.map (kG P C)) Q := by
  intro l1
  induction l1 with
  | nil =>
   intro i s hs pd h0 hk
   simp only [xN, Option.some.injEq, Prod.mk.injEq] at h0
   obtain ⟨rfl, rfl, rfl⟩ := h0
   exact hk
  | cons o l1 ih =>
   intro i s hs pd h0 hk
   have hk' : cO P C ops p M (l.drop k) (i + 1 + l1.length) st' hs' (pd'.map (kG P C)) Q := by
    rw [show i + 1 + l1.length = i + (o :: l1).length from by simp; omega]; exact hk
   simp only [xN] at h0
   split at h0
   ·rename_i hw
    split at h0
    ·rename_i x h' hp
     have hpd : (match M.contains i with | true => (kG P C (i, o.op, s.sl, x)) :: pd.map (kG P C) | false => pd.map (kG P C)) = (match M.contains i with | true => (i, o.op, s.sl, x) :: pd | false => pd).map (kG P C) := by
      cases M.contains i <;> rfl
     have hop : OpA P C (rho C s.sl) s.h o.op (fun y h => y = x ∧ h = h') ∧ (p.isE i = false → h' = s.h) := by
      cases hE : p.isE i with
      | true =>
       rw [hE] at hp
       exact ⟨.plain hp ⟨rfl, rfl⟩, fun h => by cases h⟩
      | false =>
       rw [hE] at hp
       simp only [tH, Option.map_eq_some_iff, Prod.mk.injEq] at hp
       obtain ⟨y, hy, rfl, rfl⟩ := hp
       exact ⟨.plain (dA hy) ⟨rfl, rfl⟩, fun _ => rfl⟩
     refine .inl ⟨hw, x, h', hop.1, hop.2, ?_⟩
     have := ih _ _ _ _ h0 hk'
     rw [← hpd] at this
     exact this
    ·cases h0
   ·rename_i hw
    split at h0
    ·cases h0
    ·rename_i hE
     exact .inr ⟨hw, hE, ih _ _ _ _ h0 hk'⟩
   ·cases h0
 rw [← List.take_append_drop k l]
 exact key _ _ _ _ _ h hk
theorem cO.nil {ops : Array Oper} {p : cK} {M : List Nat} {i : Nat} {st : St} {hs : List c6} {pd : List Pd} {Q : St → Prop} (hp : EH C hs pd) (hq : Q st) : cO P C ops p M [] i st hs (pd.map (kG P C)) Q := by
 refine ⟨fun x hx k hk _ => ?_, hq⟩
 obtain ⟨q, hq, rfl⟩ := List.mem_map.1 hx
 have hmem : hs.reverse.getD k [] ∈ hs := by
  have hk' : k < hs.reverse.length := by simpa using hk
  rw [List.getD_eq_getElem?_getD, List.getElem?_eq_getElem hk', Option.getD_some]
  exact List.mem_reverse.1 (List.getElem_mem hk')
 exact .plain (xL (xM hp q hq) _ hmem) ⟨rfl, rfl⟩
theorem cO.split {ops : Array Oper} {p : cK} {M : List Nat} {l : List Oper} {i : Nat} {st : St} {hs : List c6} {pm : List (Nat × (c6 → Prop))} {Q : St → Prop} {b : Bool} (d : Nat) (hv : st.sl.getD d .any = .bool b) (ht : b = true → cO P C ops p M l i st hs pm Q) (hf : b = false → cO P C ops p M l i st hs pm Q) : cO P C ops p M l i st hs pm Q := by
 cases b with
 | true => exact ht rfl
 | false => exact hf rfl
theorem cO.call {ops : Array Oper} {p : cK} {M : List Nat} {o : Oper} {rest : List Oper} {i : Nat} {st : St} {hs : List c6} {pm : List (Nat × (c6 → Prop))} {Q : St → Prop} {c : Call} {f : FuncId} {args : List AV} {x : AV} (hm : M.contains i = false) (hE : p.isE i = false) (hw : s6 ops st.sl o = some true) (ho : o.op = .call c)
  (ht : u3 C (rho C st.sl) c = some (f, args)) (hb : n7 C f = true) (hc : CallA P C f args st.h fun y h' => y = x ∧ h' = st.h) (hk : cO P C ops p M rest (i + 1) ⟨cZ st.sl o.dst x, st.h⟩ hs pm Q) : cO P C ops p M (o :: rest) i st hs pm Q :=
 .inl ⟨hw, x, st.h, by rw [ho]; exact .call ht hb hc, fun _ => rfl, by rw [hm, hE]; exact hk⟩
end
end Go.Ab
end
section
namespace Go.Ab
section
variable {P : Program} {C : Cfg}
structure s7 where
  before : List (List Nat)
  eff : List Bool
  req : List Nat
  LU : List Nat
  place : List (Option Nat)
  DI : List Nat
  jP : List Nat
def s7.bef (p : s7) (i : Nat) : List Nat := p.before.getD i []
def s7.isE (p : s7) (i : Nat) : Bool := p.eff.getD i false
def s7.fits (p : s7) (i D : Nat) : Bool := Nat.beq (D &&& p.req.getD i 0) (p.req.getD i 0) && (Nat.beq (D &&& p.LU.getD i 0) 0 && !D.testBit i)
def s7.ok (p : s7) (ops : Array Oper) (slots : Nat) : Bool :=
  (List.range ops.size).all fun i => match ops[i]? with
    | none => false
    | some o =>
      o.after.all (fun e => decide (e.on < i) || !Region.binds .any e) &&
      (p.bef i).all (fun j => o.after.any fun e => Region.binds .any e && (e.on == j || (p.bef e.on).contains j)) &&
      (match o.dst with
       | some d => decide (d < slots)
       | none => true) &&
      ((List.range ops.size).all fun j => j == i || match ops[j]? with
        | none => false
        | some oj =>
          (match oj.dst with
           | some d => o.dst != some d && (!(o.looksAt ops).contains d || (if j < i then (p.bef i).contains j else (p.bef j).contains i))
           | none => true)) &&
      ((List.range ops.size).all fun j => (p.req.getD i 0).testBit j == (p.isE j && (p.bef i).contains j)) &&
      ((List.range ops.size).all fun j => (p.LU.getD i 0).testBit j == (p.isE j && (p.bef j).contains i)) &&
      decide (p.req.getD i 0 < 2 ^ ops.size) && decide (p.LU.getD i 0 < 2 ^ ops.size)
structure zQ (p : s7) (ops : Array Oper) (slots : Nat) : Prop where
  back : ∀ (i : Nat) (o : Oper), ops[i]? = some o → ∀ e ∈ o.after, Region.binds .any e = true → e.on < i
  bef : ∀ (i : Nat) (o : Oper), ops[i]? = some o → ∀ j ∈ p.bef i, ∃ e ∈ o.after, Region.binds .any e = true ∧ (e.on = j ∨ j ∈ p.bef e.on)
  fits : ∀ (i : Nat) (o : Oper) (d : Tmp), ops[i]? = some o → o.dst = some d → d < slots
  apart : ∀ (i j : Nat) (oi oj : Oper), ops[i]? = some oi → ops[j]? = some oj → i ≠ j → ∀ d, oj.dst = some d → oi.dst ≠ some d
  look : ∀ (i j : Nat) (oi oj : Oper), ops[i]? = some oi → ops[j]? = some oj → i ≠ j → ∀ d, oj.dst = some d → d ∈ oi.looksAt ops → (j < i ∧ j ∈ p.bef i) ∨ (i < j ∧ i ∈ p.bef j)
  req : ∀ i j, i < ops.size → (p.req.getD i 0).testBit j = true → j < ops.size ∧ p.isE j = true ∧ j ∈ p.bef i
  LU : ∀ i j, i < ops.size → (p.LU.getD i 0).testBit j = true → j < ops.size ∧ p.isE j = true ∧ i ∈ p.bef j
theorem s7.spec {p : s7} {ops : Array Oper} {slots : Nat} (h : p.ok ops slots = true) : zQ p ops slots := by
  have key : ∀ (i : Nat) (o : Oper), ops[i]? = some o → _ := fun i o ho => by
    have h1 := List.all_eq_true.1 h i (List.mem_range.2 (Array.getElem?_eq_some_iff.1 ho).1)
    simp only [ho, Bool.and_eq_true] at h1
    exact h1
  have key2 : ∀ (i j : Nat) (oi oj : Oper), ops[i]? = some oi → ops[j]? = some oj → i ≠ j → _ := fun i j oi oj hi hj hne => by
    have h1 := List.all_eq_true.1 (key i oi hi).1.1.1.1.2 j (List.mem_range.2 (Array.getElem?_eq_some_iff.1 hj).1)
    simp only [hj, Bool.or_eq_true, beq_iff_eq, Ne.symm hne, false_or] at h1
    exact h1
  refine ⟨fun i o ho e he hb => ?_, fun i o ho j hj => ?_, fun i o d ho hd => ?_, fun i j oi oj hi hj hne d hd => ?_, fun i j oi oj hi hj hne d hd hl => ?_, fun i j hi hj => ?_, fun i j hi hj => ?_⟩
  · have h2 := Array.all_eq_true_iff_forall_mem.1 (key i o ho).1.1.1.1.1.1.1 e he
    simp only [Bool.or_eq_true, decide_eq_true_eq, Bool.not_eq_true'] at h2
    rcases h2 with h2 | h2
    · exact h2
    · rw [hb] at h2; cases h2
  · have h2 := List.all_eq_true.1 (key i o ho).1.1.1.1.1.1.2 j hj
    obtain ⟨e, he, h3⟩ := Array.any_eq_true'.1 h2
    simp only [Bool.and_eq_true, Bool.or_eq_true, beq_iff_eq] at h3
    refine ⟨e, he, h3.1, ?_⟩
    rcases h3.2 with h4 | h4
    · exact .inl h4
    · exact .inr (by simpa using h4)
  · have h1 := (key i o ho).1.1.1.1.1.2
    simp only [hd, decide_eq_true_eq] at h1
    exact h1
  · have h1 := key2 i j oi oj hi hj hne
    simp only [hd, Bool.and_eq_true, bne_iff_ne, ne_eq] at h1
    exact h1.1
  · have h1 := key2 i j oi oj hi hj hne
    simp only [hd, Bool.and_eq_true, Bool.or_eq_true, Bool.not_eq_true'] at h1
    have h2 := h1.2
    have hc : (oi.looksAt ops).contains d = true := by simpa using hl
    rcases h2 with h2 | h2
    · rw [hc] at h2; cases h2
    · split at h2
      · rename_i hlt
        exact .inl ⟨hlt, by simpa using h2⟩
      · rename_i hlt
        exact .inr ⟨by omega, by simpa using h2⟩
  · have ho : ops[i]? = some ops[i] := Array.getElem?_eq_getElem hi
    have hjn : j < ops.size := by
      have := (key i _ ho).1.2
      simp only [decide_eq_true_eq] at this
      rcases Nat.lt_or_ge j ops.size with h' | h'
      · exact h'
      · rw [Nat.testBit_lt_two_pow (Nat.lt_of_lt_of_le this (Nat.pow_le_pow_right (by decide) h'))] at hj
        cases hj
    have h2 := List.all_eq_true.1 (key i _ ho).1.1.1.2 j (List.mem_range.2 hjn)
    rw [hj] at h2
    simp only [beq_iff_eq] at h2
    have h3 := h2.symm
    simp only [Bool.and_eq_true] at h3
    exact ⟨hjn, h3.1, by simpa using h3.2⟩
  · have ho : ops[i]? = some ops[i] := Array.getElem?_eq_getElem hi
    have hjn : j < ops.size := by
      have := (key i _ ho).2
      simp only [decide_eq_true_eq] at this
      rcases Nat.lt_or_ge j ops.size with h' | h'
      · exact h'
      · rw [Nat.testBit_lt_two_pow (Nat.lt_of_lt_of_le this (Nat.pow_le_pow_right (by decide) h'))] at hj
        cases hj
    have h2 := List.all_eq_true.1 (key i _ ho).1.1.2 j (List.mem_range.2 hjn)
    rw [hj] at h2
    simp only [beq_iff_eq] at h2
    have h3 := h2.symm
    simp only [Bool.and_eq_true] at h3
    exact ⟨hjn, h3.1, by simpa using h3.2⟩
def lookW : List (Nat × c6) → Nat → Option c6
  | [], _ => none
  | (D, H) :: W, E => match Nat.beq D E with
    | true => some H
    | false => lookW W E
def OpG (P : Program) (C : Cfg) (pl : Option Nat) (ρ : Operand → AV) (h : c6) (o : Op) (K : AV → c6 → Prop) : Prop :=
  match pl with
  | none => OpA P C ρ h o K
  | some β => ∃ x h', atA C ρ h β o = some (x, h') ∧ K x h'
theorem OpG.sound (g : Good P C) {B : Nat} {φ : Map} {w : World} {a : Act} {h : c6} {ρ : Operand → AV} {o : Oper} {pl : Option Nat} {K : AV → c6 → Prop} {Q : Exit → Act → World → Prop} (i : Pic C.eD B h φ w) (hρ : ∀ x, Rel h φ w (a.eval x) (ρ x))
    (r : OpG P C pl ρ h o.op K) : o.wp P a w (JP C B h φ w a o.dst K) Q := by
  unfold OpG at r
  split at r
  · exact OpA.sound g i hρ r
  · obtain ⟨x, h', hp, hk⟩ := r
    obtain ⟨nx, v, w', φ', h1, h2, h3, h4, h5⟩ := atA_ok i g hρ hp
    unfold Oper.wp
    rw [h1]
    rcases h2 with rfl | ⟨rfl, rfl⟩
    · exact ⟨v, x, h', φ', rfl, h3, h4, h5, hk⟩
    · exact ⟨undef, x, h', φ', rfl, h3, h4, h5, hk⟩
def EI (P : Program) (C : Cfg) (ops : Array Oper) (p : s7) (b : Nat) (W : List (Nat × c6)) (i : Nat) (o : Oper) (sl : List AV) (r : AV) : Prop :=
  (s6 ops sl o = some true ∧ ∀ D H, lookW W D = some H → p.fits i D = true →
    ∃ H', OpG P C ((p.place.getD i none).map (b + ·)) (N4 C (o.looksAt ops) sl) H o.op (fun y h => y = r ∧ h = H') ∧ (p.isE i = true → lookW W (D ||| 2 ^ i) = some H') ∧ (p.isE i = false → H' = H)) ∨
  (s6 ops sl o = some false ∧ r = .tup [] ∧ ∀ D H, lookW W D = some H → p.fits i D = true → p.isE i = true → lookW W (D ||| 2 ^ i) = some H)
structure DG (C : Cfg) (ops : Array Oper) (p : s7) (W : List (Nat × c6)) (sl0 rs : List AV) (B : Nat) (h0 : c6) (φ0 : Map) (w0 : World) (listed : Array Bool) (a : Act) (w : World) (D : Nat) (H : c6) (φ : Map) : Prop where
  lsz : listed.size = ops.size
  down : ∀ (i : Nat) (o : Oper), ops[i]? = some o → listed.getD i false = true → ∀ e ∈ o.after, Region.binds .any e = true → listed.getD e.on false = true
  dst : ∀ (i : Nat) (o : Oper) (d : Tmp), ops[i]? = some o → listed.getD i false = true → o.dst = some d → Rel H φ w (a.tmps.getD d undef) (rs.getD i .any)
  oth : ∀ t, (∀ (i : Nat) (o : Oper), ops[i]? = some o → listed.getD i false = true → o.dst ≠ some t) → Rel H φ w (a.tmps.getD t undef) (sl0.getD t .any)
  num : ∀ j, D.testBit j = true ↔ (j < ops.size ∧ p.isE j = true ∧ listed.getD j false = true)
  top : lookW W D = some H
  pic : Pic C.eD B H φ w
  ev : Ev h0 φ0 w0 H φ w
  size : sl0.length ≤ a.tmps.size
  kS : a.defers = []
variable {ops : Array Oper} {p : s7} {W : List (Nat × c6)} {sl0 rs : List AV} {B : Nat} {h0 : c6} {φ0 : Map} {w0 : World} {listed : Array Bool} {a : Act} {w : World} {D : Nat} {H : c6} {φ : Map}
theorem DG.bef (d : DG C ops p W sl0 rs B h0 φ0 w0 listed a w D H φ) {slots : Nat} (s : zQ p ops slots) :
    ∀ (i : Nat) (o : Oper), ops[i]? = some o → (∀ e ∈ o.after, Region.binds .any e = true → listed.getD e.on false = true) → ∀ j ∈ p.bef i, listed.getD j false = true := by
  intro i
  induction i using Nat.strongRecOn with
  | _ i ih =>
    intro o ho he j hj
    obtain ⟨e, hem, hb, hor⟩ := s.bef i o ho j hj
    have hl := he e hem hb
    rcases hor with rfl | hj'
    · exact hl
    · have hon := s.back i o ho e hem hb
      have hsz : e.on < ops.size := by
        rw [← d.lsz]
        rcases Nat.lt_or_ge e.on listed.size with h' | h'
        · exact h'
        · simp [Array.getD_eq_getD_getElem?, Array.getElem?_eq_none h'] at hl
      exact ih e.on hon _ (Array.getElem?_eq_getElem hsz) (d.down _ _ (Array.getElem?_eq_getElem hsz) hl) j hj'
theorem DG.looks (d : DG C ops p W sl0 rs B h0 φ0 w0 listed a w D H φ) (s : zQ p ops sl0.length)
    (hrs : rs.length = ops.size) {i : Nat} {o : Oper} (ho : ops[i]? = some o) (hun : listed.getD i false = false) (hall : ∀ e ∈ o.after, Region.binds .any e = true → listed.getD e.on false = true) {t : Tmp} (ht : t ∈ o.looksAt ops) :
    Rel H φ w (a.tmps.getD t undef) ((mC sl0 ops.toList rs i).getD t .any) := by
  have hi : i < ops.size := (Array.getElem?_eq_some_iff.1 ho).1
  rcases nD ops.toList sl0 rs i t (by simpa using hrs) t59 (fun x hx e he => by
      obtain ⟨j, hj, rfl⟩ := List.mem_iff_getElem.1 hx
      exact s.fits j _ e t74 he) (fun x y ox oy h1 h2 h3 e he => by
      exact s.apart y x oy ox t85 t97 (Ne.symm h3) e he) with ⟨j, oj, h1, h2, h3, h4⟩ | ⟨h1, h2⟩
  · rw [h4]
    have hj : ops[j]? = some oj := by simpa using h2
    rcases s.look i j o oj ho hj (by omega) t h3 ht with ⟨_, h5⟩ | ⟨h5, _⟩
    · exact d.dst j oj t hj (d.bef s i o ho hall j h5) h3
    · omega
  · rw [h2]
    refine d.oth t fun j oj hj hl hd => ?_
    by_cases hji : j < i
    · exact h1 j oj hji t93 hd
    · by_cases hje : j = i
      · subst hje
        rw [hun] at hl
        cases hl
      · rcases s.look i j o oj ho hj (Ne.symm hje) t hd ht with ⟨h5, _⟩ | ⟨h5, h6⟩
        · omega
        · have := d.bef s j oj hj (d.down j oj hj hl) i h6
          rw [hun] at this
          cases this
theorem DG.DX (d : DG C ops p W sl0 rs B h0 φ0 w0 listed a w D H φ) (s : zQ p ops sl0.length)
    (hrs : rs.length = ops.size) {i : Nat} {o : Oper} (ho : ops[i]? = some o) (hun : listed.getD i false = false) (hall : ∀ e ∈ o.after, Region.binds .any e = true → listed.getD e.on false = true) (x : Operand) :
    Rel H φ w (a.eval x) (N4 C (o.looksAt ops) (mC sl0 ops.toList rs i) x) := by
  cases x with
  | tmp t =>
    simp only [N4]
    split
    · rename_i hc
      exact d.looks s hrs ho hun hall (by simpa using hc)
    · exact .iG _
  | const v => exact uQ v
  | global g => exact .pure (d.pic.eD g)
  | func f => exact .pure (.func (.func f))
theorem DG.wanted (d : DG C ops p W sl0 rs B h0 φ0 w0 listed a w D H φ) (s : zQ p ops sl0.length)
    (hrs : rs.length = ops.size) {i : Nat} {o : Oper} (ho : ops[i]? = some o) (hun : listed.getD i false = false) (hall : ∀ e ∈ o.after, Region.binds .any e = true → listed.getD e.on false = true) {b : Bool}
    (hw : s6 ops (mC sl0 ops.toList rs i) o = some b) : Region.wanted o (yielded ops a.tmps) = b := by
  unfold s6 at hw
  unfold Region.wanted
  cases hg : o.guard with
  | none => simp [hg] at hw; simp [hw]
  | some jw =>
    obtain ⟨j, want⟩ := jw
    simp only [hg] at hw
    cases hd : (ops[j]?).bind (·.dst) with
    | none => simp [hd] at hw
    | some e =>
      simp only [hd] at hw
      split at hw
      · rename_i t ht
        cases hw
        have hmem : e ∈ o.looksAt ops := by
          unfold Oper.looksAt
          simp [hg, hd]
        have hr := d.looks s hrs ho hun hall hmem
        rw [ht] at hr
        have hv := hr.aU
        have ht' : a.tmps[e]? = some (.bool t) := by
          cases he : a.tmps[e]? with
          | none => simp [Array.getD_eq_getD_getElem?, he, undef] at hv
          | some v => simp [Array.getD_eq_getD_getElem?, he] at hv; rw [hv]
        have hy : yielded ops a.tmps j = some t := by
          unfold yielded
          simp [hd, ht']
        simp only [hy]
        cases t <;> cases want <;> rfl
      · rename_i ht
        cases hw
        have hmem : e ∈ o.looksAt ops := by
          unfold Oper.looksAt
          simp [hg, hd]
        have hr := d.looks s hrs ho hun hall hmem
        rw [ht] at hr
        obtain ⟨a', hv, hsz, _⟩ := hr.kQ
        have hy : yielded ops a.tmps j = none := by
          unfold yielded
          simp only [hd, Option.bind_some]
          cases he : a.tmps[e]? with
          | none => rfl
          | some v =>
            simp [Array.getD_eq_getD_getElem?, he] at hv
            rw [hv]
        show (yielded ops a.tmps j == some want) = false
        rw [hy]
        rfl
      · cases hw
theorem DG.step (d : DG C ops p W sl0 rs B h0 φ0 w0 listed a w D H φ) (s : zQ p ops sl0.length)
    {i : Nat} {o : Oper} (ho : ops[i]? = some o) (hall : ∀ e ∈ o.after, Region.binds .any e = true → listed.getD e.on false = true)
    {D' : Nat} {H' : c6} {φ' : Map} {w' : World} {v : Value} (hk : ∀ j, D'.testBit j = true ↔ (j < ops.size ∧ p.isE j = true ∧ (listed.setIfInBounds i true).getD j false = true)) (hk' : lookW W D' = some H')
    (hp : Pic C.eD B H' φ' w') (he : Ev H φ w H' φ' w') (hv : Rel H' φ' w' v (rs.getD i .any)) :
    DG C ops p W sl0 rs B h0 φ0 w0 (listed.setIfInBounds i true) (a.put o.dst v) w' D' H' φ' := by
  have hi : i < listed.size := by rw [d.lsz]; exact (Array.getElem?_eq_some_iff.1 ho).1
  have hget : ∀ j, (listed.setIfInBounds i true).getD j false = true ↔ (j = i ∨ listed.getD j false = true) := fun j => by
    rw [oP hi]
    by_cases hj : j = i <;> simp [hj]
  have hput : ∀ t, o.dst ≠ some t → (a.put o.dst v).tmps.getD t undef = a.tmps.getD t undef := fun t ht => by
    cases hd : o.dst with
    | none => simp [Act.put]
    | some e =>
      have : e ≠ t := fun h => ht (by rw [hd, h])
      simp [Act.put, Array.getD_eq_getD_getElem?, Array.getElem?_setIfInBounds_ne this]
  refine ⟨by simp [d.lsz], fun j oj hj hl e hem hb => ?_, fun j oj t hj hl hd => ?_, fun t ht => ?_, hk, hk', hp, d.ev.trans he, ?_, ?_⟩
  · rw [hget]
    rcases (hget j).1 hl with rfl | hl'
    · rw [ho] at hj
      cases hj
      exact .inr (hall e hem hb)
    · exact .inr (d.down j oj hj hl' e hem hb)
  · by_cases hji : j = i
    · subst hji
      rw [ho] at hj
      cases hj
      have ht := s.fits j o t ho hd
      have ht' : t < a.tmps.size := Nat.lt_of_lt_of_le ht d.size
      have : (a.put o.dst v).tmps.getD t undef = v := by simp [hd, Act.put, Array.getD_eq_getD_getElem?, ht']
      rw [this]
      exact hv
    · have hl' : listed.getD j false = true := by
        rcases (hget j).1 hl with h | h
        · exact absurd h hji
        · exact h
      rw [hput t (s.apart i j o oj ho hj (Ne.symm hji) t hd)]
      exact he.rel (d.dst j oj t hj hl' hd)
  · rw [hput t (ht i o ho ((hget i).2 (.inl rfl)))]
    exact he.rel (d.oth t fun j oj hj hl => ht j oj hj ((hget j).2 (.inr hl)))
  · have : (a.put o.dst v).tmps.size = a.tmps.size := by cases hd : o.dst <;> simp [Act.put]
    rw [this]
    exact d.size
  · have : (a.put o.dst v).defers = a.defers := by cases hd : o.dst <;> simp [Act.put]
    rw [this]
    exact d.kS
def s7.full (p : s7) : Nat → Nat
  | 0 => 0
  | k + 1 => if p.isE k then p.full k ||| 2 ^ k else p.full k
theorem s7.E8 (p : s7) : ∀ n j, (p.full n).testBit j = true ↔ (j < n ∧ p.isE j = true)
  | 0, j => by simp [s7.full]
  | n + 1, j => by
    have ih := p.E8 n j
    simp only [s7.full]
    split
    · rename_i hE
      rw [Nat.testBit_or, Bool.or_eq_true, ih, Nat.testBit_two_pow, decide_eq_true_eq]
      constructor
      · rintro (⟨h1, h2⟩ | rfl)
        · exact ⟨by omega, h2⟩
        · exact ⟨by omega, hE⟩
      · rintro ⟨h1, h2⟩
        by_cases e : n = j
        · exact .inr e
        · exact .inl ⟨by omega, h2⟩
    · rename_i hE
      rw [ih]
      constructor
      · rintro ⟨h1, h2⟩; exact ⟨by omega, h2⟩
      · rintro ⟨h1, h2⟩
        by_cases e : n = j
        · subst e; exact absurd h2 hE
        · exact ⟨by omega, h2⟩
theorem U3 (g : Good P C) {Hf : c6} {b : Nat} (s : zQ p ops sl0.length) (hrs : rs.length = ops.size) (hF : lookW W (p.full ops.size) = some Hf)
    (hfact : ∀ i o, ops[i]? = some o → EI P C ops p b W i o (mC sl0 ops.toList rs i) (rs.getD i .any)) {Q : Exit → Act → World → Prop}
    (hQ : ∀ a w φ, Pic C.eD B Hf φ w → Ev h0 φ0 w0 Hf φ w → iA Hf φ w a (mC sl0 ops.toList rs ops.size) → Q .normal a w) :
    ∀ (fuel : Nat) (listed : Array Bool) (a : Act) (w : World) (D : Nat) (H : c6) (φ : Map), left ops.size listed ≤ fuel → DG C ops p W sl0 rs B h0 φ0 w0 listed a w D H φ → wpAny P .any ops Q fuel listed a w := by
  have done : ∀ (listed : Array Bool) (a : Act) (w : World) (D : Nat) (H : c6) (φ : Map), DG C ops p W sl0 rs B h0 φ0 w0 listed a w D H φ → (∀ i, i < ops.size → listed.getD i false = true) → Q .normal a w := by
    intro listed a w D H φ d hall
    have hD : D = p.full ops.size := by
      refine Nat.eq_of_testBit_eq fun j => ?_
      rw [Bool.eq_iff_iff, d.num, p.E8]
      constructor
      · rintro ⟨h1, h2, _⟩; exact ⟨h1, h2⟩
      · rintro ⟨h1, h2⟩; exact ⟨h1, h2, hall j h1⟩
    have hH : H = Hf := by
      have := d.top
      rw [hD, hF] at this
      exact (Option.some.inj this).symm
    subst hH
    refine hQ a w φ d.pic d.ev ⟨by rw [mI]; exact d.size, fun t => ?_, d.kS⟩
    rcases nD ops.toList sl0 rs ops.size t (by simpa using hrs) (by simp) (fun x hx e he => by
        obtain ⟨j, hj, rfl⟩ := List.mem_iff_getElem.1 hx
        exact s.fits j _ e t74 he) (fun x y ox oy h1 h2 h3 e he => by
        exact s.apart y x oy ox t85 t97 (Ne.symm h3) e he) with ⟨j, oj, h1, h2, h3, h4⟩ | ⟨h1, h2⟩
    · rw [h4]
      exact d.dst j oj t t85 (hall j h1) h3
    · rw [h2]
      exact d.oth t fun j oj hj _ => h1 j oj (Array.getElem?_eq_some_iff.1 hj).1 t93
  have noready : ∀ (listed : Array Bool), listed.size = ops.size → Region.ready .any ops listed = [] → ∀ i, i < ops.size → listed.getD i false = true := by
    intro listed hsz hr i
    induction i using Nat.strongRecOn with
    | _ i ih =>
      intro hi
      cases hl : listed.getD i false with
      | true => rfl
      | false =>
        have ho : ops[i]? = some ops[i] := Array.getElem?_eq_getElem hi
        have hmem : i ∈ Region.ready .any ops listed := by
          rw [mem_ready]
          refine ⟨?_, _, ho, fun e he hb => ?_⟩
          · simp [Array.getD_eq_getD_getElem?, hsz, hi] at hl ⊢
            exact hl
          · have hon := s.back i _ ho e he hb
            exact ih e.on hon (by omega)
        rw [hr] at hmem
        cases hmem
  intro fuel
  induction fuel with
  | zero =>
    intro listed a w D H φ hleft d
    have hall : ∀ i, i < ops.size → listed.getD i false = true := by
      intro i hi
      cases hl : listed.getD i false with
      | true => rfl
      | false =>
        have : i ∈ (List.range ops.size).filter fun i => !listed.getD i false := List.mem_filter.2 ⟨List.mem_range.2 hi, by simp [hl]⟩
        have h0 : ((List.range ops.size).filter fun i => !listed.getD i false) = [] := List.eq_nil_of_length_eq_zero (by unfold left at hleft; omega)
        rw [h0] at this
        cases this
    refine ⟨?_, done listed a w D H φ d hall⟩
    cases hr : Region.ready .any ops listed with
    | nil => rfl
    | cons x xs =>
      have hx : x ∈ Region.ready .any ops listed := by rw [hr]; simp
      obtain ⟨h1, _, h2, _⟩ := mem_ready.1 hx
      have := iI h1
      rw [hall x (Array.getElem?_eq_some_iff.1 h2).1] at this
      cases this.2
  | succ fuel ih =>
    intro listed a w D H φ hleft d
    refine ⟨fun hr => done listed a w D H φ d (noready listed d.lsz hr), fun i hi => ?_⟩
    obtain ⟨hun0, o, ho, hall⟩ := mem_ready.1 hi
    obtain ⟨hisz, hun⟩ := iI hun0
    have hin : i < ops.size := by rw [← d.lsz]; exact hisz
    have hlt := E0 hisz hin hun
    have hbef := d.bef s i o ho hall
    have hget : ∀ j, (listed.setIfInBounds i true).getD j false = true ↔ (j = i ∨ listed.getD j false = true) := fun j => by
      rw [oP hisz]
      by_cases hj : j = i <;> simp [hj]
    have hDi : D.testBit i = false := by
      cases hb : D.testBit i with
      | false => rfl
      | true => have := ((d.num i).1 hb).2.2; rw [hun] at this; cases this
    have hfits : p.fits i D = true := by
      unfold s7.fits
      simp only [Bool.and_eq_true, Nat.beq_eq, hDi, Bool.not_false, and_true]
      refine ⟨Nat.eq_of_testBit_eq fun j => ?_, Nat.eq_of_testBit_eq fun j => ?_⟩
      · rw [Nat.testBit_and]
        cases hr : (p.req.getD i 0).testBit j with
        | false => rw [Bool.and_false]
        | true =>
          obtain ⟨h1, h2, h3⟩ := s.req i j hin hr
          rw [(d.num j).2 ⟨h1, h2, hbef j h3⟩]
          rfl
      · rw [Nat.testBit_and, Nat.zero_testBit]
        cases hr : (p.LU.getD i 0).testBit j with
        | false => rw [Bool.and_false]
        | true =>
          obtain ⟨h1, h2, h3⟩ := s.LU i j hin hr
          cases hb : D.testBit j with
          | false => rfl
          | true =>
            have hl := ((d.num j).1 hb).2.2
            have hoj : ops[j]? = some ops[j] := Array.getElem?_eq_getElem h1
            have := d.bef s j _ hoj (d.down j _ hoj hl) i h3
            rw [hun] at this
            cases this
    have hmore : p.isE i = true → ∀ j, (D ||| 2 ^ i).testBit j = true ↔ (j < ops.size ∧ p.isE j = true ∧ (listed.setIfInBounds i true).getD j false = true) := by
      intro hE j
      rw [Nat.testBit_or, Bool.or_eq_true, Nat.testBit_two_pow, decide_eq_true_eq, d.num, hget]
      constructor
      · rintro (⟨h1, h2, h3⟩ | rfl)
        · exact ⟨h1, h2, .inr h3⟩
        · exact ⟨hin, hE, .inl rfl⟩
      · rintro ⟨h1, h2, h3 | h3⟩
        · exact .inr h3.symm
        · exact .inl ⟨h1, h2, h3⟩
    have hsame : p.isE i = false → ∀ j, D.testBit j = true ↔ (j < ops.size ∧ p.isE j = true ∧ (listed.setIfInBounds i true).getD j false = true) := by
      intro hE j
      rw [d.num, hget]
      constructor
      · rintro ⟨h1, h2, h3⟩; exact ⟨h1, h2, .inr h3⟩
      · rintro ⟨h1, h2, h3 | h3⟩
        · subst h3; rw [hE] at h2; cases h2
        · exact ⟨h1, h2, h3⟩
    unfold wpOp
    simp only [ho]
    rcases hfact i o ho with ⟨h1, h2⟩ | ⟨h1, h2, h3⟩
    · rw [if_pos (d.wanted s hrs ho hun hall h1)]
      obtain ⟨H', k1, k2, k3⟩ := h2 D H d.top hfits
      refine .inl (Oper.wp_mono (fun a' w' hp => ?_) (OpG.sound g d.pic (d.DX s hrs ho hun hall) k1))
      obtain ⟨v, x, h', φ', rfl, hp1, hp2, hp3, rfl, rfl⟩ := hp
      cases hE : p.isE i with
      | true => exact ih _ _ _ (D ||| 2 ^ i) _ φ' (by omega) (d.step s ho hall (hmore hE) (k2 hE) hp1 hp2 hp3)
      | false =>
        have := k3 hE
        subst this
        exact ih _ _ _ D _ φ' (by omega) (d.step s ho hall (hsame hE) d.top hp1 hp2 hp3)
    ·
      rw [if_neg (by rw [d.wanted s hrs ho hun hall h1]; simp)]
      cases hE : p.isE i with
      | true => exact ih _ _ _ (D ||| 2 ^ i) H φ (by omega) (d.step s ho hall (hmore hE) (h3 D H d.top hfits hE) d.pic (.refl _ _ _) (by rw [h2]; exact nC))
      | false => exact ih _ _ _ D H φ (by omega) (d.step s ho hall (hsame hE) d.top d.pic (.refl _ _ _) (by rw [h2]; exact nC))
def kept (m : Nat) : c6 := List.replicate m ⟨0, true, 0, 0, [], 0⟩
theorem E9 {G : Nat → AV} {h : c6} (i : Pic G B h φ w) : ∀ m, Pic G B (h ++ kept m) φ w ∧ Ev h φ w (h ++ kept m) φ w
  | 0 => by simpa [kept] using ⟨i, Ev.refl h φ w⟩
  | m + 1 => by
    obtain ⟨i1, e1⟩ := E9 i m
    obtain ⟨i2, e2⟩ := mX i1
    have : h ++ kept (m + 1) = (h ++ kept m) ++ [⟨0, true, 0, 0, [], 0⟩] := by simp [kept, List.replicate_succ']
    rw [this]
    exact ⟨i2, e1.trans e2⟩
theorem c8.drawG (g : Good P C) {id : Nat} {st : St} {Q : Exit → St → Prop} (p : s7) (m : Nat) (hp : p.ok ops st.sl.length = true) (rs : List AV) (W : List (Nat × c6)) (Hf : c6) (hrs : rs.length = ops.size)
    (h0 : lookW W 0 = some (st.h ++ kept m)) (hF : lookW W (p.full ops.size) = some Hf)
    (hfact : ∀ i o, ops[i]? = some o → EI P C ops p st.h.length W i o (mC st.sl ops.toList rs i) (rs.getD i .any)) (hq : Q .normal ⟨mC st.sl ops.toList rs ops.size, Hf⟩) : c8 P C (.region id ops true) st Q := by
  intro B φ w a i s
  have sp := s7.spec hp
  obtain ⟨i1, e1⟩ := E9 i m
  refine wp_region_any g.mixed (U3 (C := C) g (B := B) (h0 := st.h) (φ0 := φ) (w0 := w) (sl0 := st.sl) sp hrs hF hfact (fun a' w' φ' k1 k2 k3 => ⟨_, φ', k1, k2, k3, hq⟩) ops.size (Array.replicate ops.size false) a _ 0 (st.h ++ kept m) φ ?_ ?_)
  · unfold left
    have := List.length_filter_le (fun i => !(Array.replicate ops.size false).getD i false) (List.range ops.size)
    simpa using this
  · have hno : ∀ j, (Array.replicate ops.size false).getD j false = false := fun j => by
      by_cases hj : j < ops.size <;> simp [Array.getD_eq_getD_getElem?, hj]
    have hg := nE w
    refine ⟨by simp, fun j o _ hl => (by rw [hno] at hl; cases hl), fun j o t _ hl => (by rw [hno] at hl; cases hl), fun t _ => ?_, fun j => by rw [hno]; simp, h0, ?_, ?_, s.size, s.kS⟩
    · exact (Ev.fM hg).rel (e1.rel (s.rel t))
    · exact i1.fM hg
    · exact e1.trans (Ev.fM hg)
end
end Go.Ab
end
section
namespace Go.Ab
section force
variable {β : Type}
def fN (n : Nat) (K : Nat → β) : β := match n with
 | 0 => K 0
 | m + 1 => K (m + 1)
theorem xO (n : Nat) (K : Nat → β) : fN n K = K n := by cases n <;> rfl
def fI (n : Int) (K : Int → β) : β := match n with
 | .ofNat m => fN m fun m => K (.ofNat m)
 | .negSucc m => fN m fun m => K (.negSucc m)
theorem fI_eq (n : Int) (K : Int → β) : fI n K = K n := by cases n <;> simp only [fI, xO]
def fB (b : Bool) (K : Bool → β) : β := match b with
 | true => K true
 | false => K false
theorem fB_eq (b : Bool) (K : Bool → β) : fB b K = K b := by cases b <;> rfl
def fL {α : Type} (f : α → (α → β) → β) : List α → (List α → β) → β
 | [], K => K []
 | x :: xs, K => f x fun x' => fL f xs fun xs' => K (x' :: xs')
theorem zR {α : Type} {f : α → (α → β) → β} (hf : ∀ x K, f x K = K x) : ∀ (l : List α) (K : List α → β), fL f l K = K l
 | [], _ => rfl
 | x :: xs, K => by simp only [fL, hf, zR hf xs]
def fU (b : UInt8) (K : UInt8 → β) : β := fN b.toNat fun n => K (UInt8.ofNat n)
theorem fU_eq (b : UInt8) (K : UInt8 → β) : fU b K = K b := by simp only [fU, xO, UInt8.ofNat_toNat]
def fS (s : ByteArray) (K : ByteArray → β) : β := fL fU s.data.toList fun l => K ⟨⟨l⟩⟩
theorem fS_eq (s : ByteArray) (K : ByteArray → β) : fS s K = K s := by
 simp only [fS, zR fU_eq]
def fA0 (x : AV) (K : AV → β) : β := match x with
 | .bool b => fB b fun b => K (.bool b)
 | .int k n => fI n fun n => K (.int k n)
 | .ptr b g o => fN b fun b => fN g fun g => fN o fun o => K (.ptr b g o)
 | .jK cs o => fN o fun o => K (.jK cs o)
 | .own b g o l => fN b fun b => fN g fun g => fN o fun o => fN l fun l => K (.own b g o l)
 | .vec n cs => fN n fun n => K (.vec n cs)
 | x => K x
theorem xP (x : AV) (K : AV → β) : fA0 x K = K x := by cases x <;> simp only [fA0, xO, fI_eq, fB_eq]
def fA1 (x : AV) (K : AV → β) : β := match x with
 | .agg cs => fL fA0 cs fun cs => K (.agg cs)
 | x => fA0 x K
theorem JQ (x : AV) (K : AV → β) : fA1 x K = K x := by cases x <;> simp only [fA1, xP, zR xP]
def fA2 (x : AV) (K : AV → β) : β := match x with
 | .tup cs => fL fA1 cs fun cs => K (.tup cs)
 | x => fA1 x K
theorem fA2_eq (x : AV) (K : AV → β) : fA2 x K = K x := by cases x <;> simp only [fA2, JQ, zR JQ]
def fD : Nat → AV → (AV → β) → β
 | 0, x, K => fA0 x K
 | d + 1, x, K => match x with
  | .vec n cs => fN n fun n => fL (fD d) cs fun cs => K (.vec n cs)
  | .jK cs o => fN o fun o => fL (fD d) cs fun cs => K (.jK cs o)
  | .agg cs => fL (fD d) cs fun cs => K (.agg cs)
  | .tup cs => fL (fD d) cs fun cs => K (.tup cs)
  | .str s => fS s fun s => K (.str s)
  | .iface t v => fD d v fun v => K (.iface t v)
  | x => fA0 x K
theorem U4 : ∀ (d : Nat) (x : AV) (K : AV → β), fD d x K = K x
 | 0, x, K => xP x K
 | d + 1, x, K => by cases x <;> simp only [fD, xO, xP, fS_eq, zR (U4 d), U4 d]
def RK (b : Blk) (K : Blk → β) : β := match b with
 | ⟨g, v, e, z, cs, q⟩ => fN g fun g => fB v fun v => fN e fun e => fN z fun z => fN q fun q => fL fA0 cs fun cs => K ⟨g, v, e, z, cs, q⟩
theorem U5 (b : Blk) (K : Blk → β) : RK b K = K b := by simp only [RK, xO, fB_eq, zR xP]
def fH (h : c6) (K : c6 → β) : β := fL RK h K
theorem LV (h : c6) (K : c6 → β) : fH h K = K h := zR U5 h K
end force
inductive TT where
 | lf (x : AV)
 | nd (l r : TT)
def TT.get : TT → Nat → AV
 | .lf x, _ => x
 | .nd l r, n => match n % 2 with
  | 0 => l.get (n / 2)
  | _ => r.get (n / 2)
def TT.put {β : Type} : TT → Nat → AV → (TT → β) → β
 | .lf _, _, x, K => K (.lf x)
 | .nd l r, n, x, K => match n % 2 with
  | 0 => l.put (n / 2) x fun l' => K (.nd l' r)
  | _ => r.put (n / 2) x fun r' => K (.nd l r')
def TT.set : TT → Nat → AV → TT
 | .lf _, _, x => .lf x
 | .nd l r, n, x => match n % 2 with
  | 0 => .nd (l.set (n / 2) x) r
  | _ => .nd l (r.set (n / 2) x)
def TT.full : Nat → TT
 | 0 => .lf .any
 | d + 1 => .nd (TT.full d) (TT.full d)
def TT.deep : Nat → TT → Prop
 | 0, .lf _ => True
 | d + 1, .nd l r => l.deep d ∧ r.deep d
 | _, _ => False
theorem TT.put_eq {β : Type} : ∀ (t : TT) (n : Nat) (x : AV) (K : TT → β), t.put n x K = K (t.set n x)
 | .lf _, _, _, _ => rfl
 | .nd l r, n, x, K => by
  simp only [TT.put, TT.set]
  split
  ·exact TT.put_eq l _ _ _
  ·exact TT.put_eq r _ _ _
theorem TT.rO : ∀ d, TT.deep d (TT.full d)
 | 0 => trivial
 | d + 1 => ⟨TT.rO d, TT.rO d⟩
theorem TT.F0 : ∀ (d n : Nat), (TT.full d).get n = .any
 | 0, _ => rfl
 | d + 1, n => by
  simp only [TT.full, TT.get]
  split <;> exact TT.F0 d _
theorem TT.vB : ∀ (d : Nat) (t : TT) (n : Nat) (x : AV), TT.deep d t → TT.deep d (t.set n x)
 | 0, .lf _, _, _, _ => trivial
 | d + 1, .nd l r, n, x, h => by
  simp only [TT.set]
  split
  ·exact ⟨TT.vB d l _ x h.1, h.2⟩
  ·exact ⟨h.1, TT.vB d r _ x h.2⟩
 | 0, .nd _ _, _, _, h => h.elim
 | _ + 1, .lf _, _, _, h => h.elim
theorem TT.zS : ∀ (d : Nat) (t : TT) (n m : Nat) (x : AV), TT.deep d t → n < 2 ^ d → m < 2 ^ d → (t.set n x).get m = if n = m then x else t.get m
 | 0, .lf y, n, m, x, _, hn, hm => by
  simp at hn hm
  simp [TT.set, TT.get, hn, hm]
 | d + 1, .nd l r, n, m, x, h, hn, hm => by
  have hn' : n / 2 < 2 ^ d := by rw [Nat.pow_succ] at hn; omega
  have hm' : m / 2 < 2 ^ d := by rw [Nat.pow_succ] at hm; omega
  simp only [TT.set]
  split
  ·rename_i h0
   simp only [TT.get]
   split
   ·rename_i k0
    rw [TT.zS d l _ _ x h.1 hn' hm']
    by_cases e : n = m
    ·rw [if_pos e, if_pos (by rw [e])]
    ·rw [if_neg e, if_neg (by omega)]
   ·rename_i k0
    rw [if_neg (fun e => k0 (by rw [← e]; exact h0))]
  ·rename_i h0
   simp only [TT.get]
   split
   ·rename_i k0
    rw [if_neg (fun e => h0 (by rw [e]; exact k0))]
   ·rename_i k0
    rw [TT.zS d r _ _ x h.2 hn' hm']
    by_cases e : n = m
    ·rw [if_pos e, if_pos (by rw [e])]
    ·rw [if_neg e, if_neg (fun e2 => e (by
      have h0' : n % 2 ≠ 0 := h0
      have k0' : m % 2 ≠ 0 := k0
      omega))]
 | 0, .nd _ _, _, _, _, h, _, _ => h.elim
 | _ + 1, .lf _, _, _, _, h, _, _ => h.elim
structure Sl (d n : Nat) (T : TT) (sl : List AV) : Prop where
 len : sl.length = n
 fit : n ≤ 2 ^ d
 deep : TT.deep d T
 get : ∀ t, t < n → sl.getD t .any = T.get t
theorem Sl.set {d n : Nat} {T : TT} {sl : List AV} (s : Sl d n T sl) (t : Nat) (x : AV) (ht : t < n) : Sl d n (T.set t x) (sl.set t x) := by
 have hf := s.fit
 refine ⟨by simp [s.len], s.fit, TT.vB d T t x s.deep, fun m hm => ?_⟩
 rw [TT.zS d T t m x s.deep (by omega) (by omega)]
 by_cases e : t = m
 ·subst e
  simp [List.getD, s.len, ht]
 ·rw [if_neg e, ← s.get m hm]
  simp only [List.getD_eq_getElem?_getD, List.getElem?_set_ne e]
section
variable {P : Program} {C : Cfg}
def DJ (C : Cfg) (n : Nat) (T : TT) : Operand → AV
 | .tmp t => match Nat.blt t n with
  | true => T.get t
  | false => .any
 | .const v => LL v
 | .global g => C.eD g
 | .func f => .fn (.func f) [] []
theorem mL {d n : Nat} {T : TT} {sl : List AV} (s : Sl d n T sl) : DJ C n T = rho C sl := by
 funext x
 cases x with
 | tmp t =>
  simp only [DJ, rho]
  by_cases h : t < n
  ·rw [show Nat.blt t n = true from by rw [Nat.blt_eq]; exact h]
   exact (s.get t h).symm
  ·have hb : Nat.blt t n = false := by
    cases hb : Nat.blt t n with
    | false => rfl
    | true => exact absurd (by rw [Nat.blt_eq] at hb; exact hb) h
   rw [hb, List.getD_eq_getElem?_getD, List.getElem?_eq_none (by rw [s.len]; exact Nat.le_of_not_lt h)]
   rfl
 | _ => rfl
abbrev fA := FuncId → List AV → c6 → Option (AV × c6)
def fA.ok (P : Program) (C : Cfg) (call : fA) : Prop := ∀ f args h x h', call f args h = some (x, h') → CallA P C f args h fun y k => y = x ∧ k = h'
def opE (C : Cfg) (call : fA) (ρ : Operand → AV) (h : c6) (o : Op) : Option (AV × c6) :=
 match o with
 | .call c => match c.callee with
  | .builtin _ => p7 C ρ h o
  | _ => match u3 C ρ c with
   | some (f, args) => match n7 C f with
    | true => call f args h
    | false => none
   | none => none
 | _ => p7 C ρ h o
theorem JR {call : fA} (hc : call.ok P C) {ρ : Operand → AV} {h : c6} {o : Op} {x : AV} {h' : c6} (he : opE C call ρ h o = some (x, h')) : OpA P C ρ h o fun y k => y = x ∧ k = h' := by
 have key : ∀ c, o = .call c → (match u3 C ρ c with
   | some (f, args) => match n7 C f with
    | true => call f args h
    | false => none
   | none => none) = some (x, h') → OpA P C ρ h o fun y k => y = x ∧ k = h' := by
  intro c ho he
  split at he
  ·rename_i f args ht
   split at he
   ·rename_i hb
    exact .inr ⟨c, f, args, ho, ht, hb, hc f args h x h' he⟩
   ·cases he
  ·cases he
 unfold opE at he
 split at he
 ·rename_i c
  split at he
  ·exact .plain he ⟨rfl, rfl⟩
  ·exact key c rfl he
 ·exact .plain he ⟨rfl, rfl⟩
def deepOp : Op → Bool
 | .slice .. | .convert .. | .binOp .add .. => true
 | _ => false
def fX {β : Type} (o : Op) (x : AV) (K : AV → β) : β := match deepOp o with
 | true => fD 1 x K
 | false => fA2 x K
theorem EJ {β : Type} (o : Op) (x : AV) (K : AV → β) : fX o x K = K x := by unfold fX; split <;> first | exact U4 1 x K | exact fA2_eq x K
def U6 : Op → Bool
 | .alloc .. | .box .. | .store .. | .buildSlice .. | .makeSlice .. | .convert .. | .call .. => true
 | _ => false
def fHo {β : Type} (o : Op) (h : c6) (K : c6 → β) : β := match U6 o with
 | true => fH h K
 | false => K h
theorem U7 {β : Type} (o : Op) (h : c6) (K : c6 → β) : fHo o h K = K h := by unfold fHo; split <;> first | exact LV h K | rfl
def QR {β : Type} (n : Nat) (T : TT) (d : Option Tmp) (x : AV) (K : TT → Option β) : Option β := match d with
 | some t => match Nat.blt t n with
  | true => T.put t x K
  | false => none
 | none => K T
theorem vC {β : Type} {d n : Nat} {T : TT} {sl : List AV} (s : Sl d n T sl) {dst : Option Tmp} {x : AV} {K : TT → Option β} {r : β} (h : QR n T dst x K = some r) : ∃ T', Sl d n T' (cZ sl dst x) ∧ K T' = some r := by
 unfold QR at h
 cases dst with
 | none => exact ⟨T, s, h⟩
 | some t =>
  simp only at h
  split at h
  ·rename_i hb
   rw [TT.put_eq] at h
   exact ⟨_, s.set t x (by rw [Nat.blt_eq] at hb; exact hb), h⟩
  ·cases h
def EK (ops : Array Oper) (n : Nat) (T : TT) (o : Oper) : Option Bool :=
 match o.guard with
 | none => some true
 | some (j, want) => match (ops[j]?).bind (·.dst) with
  | some d => match DJ C n T (.tmp d) with
   | .bool b => some (b == want)
   | .tup [] => some false
   | _ => none
  | none => none
theorem F1 {d n : Nat} {T : TT} {sl : List AV} (s : Sl d n T sl) {ops : Array Oper} {o : Oper} : EK (C := C) ops n T o = s6 ops sl o := by
 unfold EK s6
 rw [mL s]
 rfl
inductive Dl where
 | set (β : Nat) (b : Blk)
 | push (b : Blk)
def dl (h : c6) : Dl → c6
 | .set β b => h.set β b
 | .push b => h ++ [b]
def setK {γ : Type} : c6 → Nat → Blk → (c6 → γ) → γ
 | [], _, _, K => K []
 | _ :: xs, 0, b, K => K (b :: xs)
 | x :: xs, β + 1, b, K => setK xs β b fun xs => K (x :: xs)
theorem U8 {γ : Type} : ∀ (h : c6) (β : Nat) (b : Blk) (K : c6 → γ), setK h β b K = K (h.set β b)
 | [], _, _, _ => rfl
 | _ :: _, 0, _, _ => rfl
 | x :: xs, β + 1, b, K => by simp only [setK, U8 xs, List.set_cons_succ]
def EL {γ : Type} : c6 → Blk → (c6 → γ) → γ
 | [], b, K => K [b]
 | x :: xs, b, K => EL xs b fun xs => K (x :: xs)
theorem F2 {γ : Type} : ∀ (h : c6) (b : Blk) (K : c6 → γ), EL h b K = K (h ++ [b])
 | [], _, _ => rfl
 | x :: xs, b, K => by simp only [EL, F2 xs, List.cons_append]
def dlK {γ : Type} (h : c6) (d : Dl) (K : c6 → γ) : γ := match d with
 | .set β b => fN β fun β => RK b fun b => setK h β b K
 | .push b => RK b fun b => EL h b K
theorem dlK_eq {γ : Type} (h : c6) (d : Dl) (K : c6 → γ) : dlK h d K = K (dl h d) := by
 cases d <;> simp only [dlK, xO, U5, U8, F2, dl]
def zT (C : Cfg) (e : TypeId) (h : c6) (base src : AV) : Option (AV × Dl) :=
 match rd h (C.sz e) src, lenOf src with
 | some new, some m =>
  if new.length = m * C.sz e ∧ 0 < C.sz e then
   match base with
   | .g6 =>
    if m = 0 then none
    else if m ≤ maxLen ∧ m * (C.ti e).bytes ≤ 140737488355328 then some (.own h.length 0 0 m, .push ⟨0, false, e, C.sz e, new, 0⟩)
    else none
   | .own β g off len =>
    match h[β]? with
    | some b =>
     if b.gen = g ∧ off = 0 ∧ (len + m ≤ maxLen ∧ (len + m) * (C.ti e).bytes ≤ 140737488355328) then
      if m = 0 then none
      else if b.cJ then (if len = 0 then some (.own β (g + 1) 0 m, .set β ⟨g + 1, false, e, C.sz e, new, b.frz⟩) else none)
      else if b.elem = e ∧ b.esz = C.sz e ∧ len * C.sz e ≤ b.cells.length ∧ b.frz ≤ len * C.sz e then
       if (len + m) * C.sz e ≤ b.cells.length then some (.own β g 0 (len + m), .set β { b with cells := over b.cells (len * C.sz e) new })
       else some (.own β (g + 1) 0 (len + m), .set β ⟨g + 1, false, e, C.sz e, b.cells.take (len * C.sz e) ++ new, b.frz⟩)
      else none
     else none
    | none => none
   | _ => none
  else none
 | _, _ => none
theorem N8 {C : Cfg} {e : TypeId} {h : c6} {base src x : AV} {d : Dl} (hd : zT C e h base src = some (x, d)) : j7 C e h base src = some (x, dl h d) := by
 unfold zT at hd
 unfold j7
 split at hd
 ·rename_i new m h1 h2
  rw [h1, h2]
  simp only
  split at hd
  ·rename_i hc
   rw [if_pos hc]
   split at hd
   ·split at hd
    ·cases hd
    ·rename_i hm
     split at hd
     ·rename_i hl
      cases hd
      simp only [if_neg hm, if_pos hl, dl]
     ·cases hd
   ·split at hd
    ·rename_i b hb
     split at hd
     ·rename_i hg
      split at hd
      ·cases hd
      ·rename_i hm
       split at hd
       ·rename_i hv
        split at hd
        ·rename_i hl
         cases hd
         simp only [hb, if_pos hg, if_neg hm, if_pos hv, if_pos hl, dl]
        ·cases hd
       ·rename_i hv
        split at hd
        ·rename_i he
         split at hd
         ·rename_i hl
          cases hd
          simp only [hb, if_pos hg, if_neg hm, if_neg hv, if_pos he, if_pos hl, dl]
         ·rename_i hl
          cases hd
          simp only [hb, if_pos hg, if_neg hm, if_neg hv, if_pos he, if_neg hl, dl]
        ·cases hd
     ·cases hd
    ·cases hd
   ·cases hd
  ·cases hd
 ·cases hd
def U9 (C : Cfg) (ρ : Operand → AV) (h : c6) (o : Op) : Option (AV × Dl) :=
 match o with
 | .alloc t => match mkA C ρ (.alloc t) with
  | some (p, n, blk) => some (if p then .ptr h.length 0 0 else .own h.length 0 0 n, .push blk)
  | none => none
 | .box t x => match mkA C ρ (.box t x) with
  | some (p, n, blk) => some (if p then .ptr h.length 0 0 else .own h.length 0 0 n, .push blk)
  | none => none
 | .buildSlice t l ps => match mkA C ρ (.buildSlice t l ps) with
  | some (p, n, blk) => some (if p then .ptr h.length 0 0 else .own h.length 0 0 n, .push blk)
  | none => none
 | .makeSlice t l c => match mkA C ρ (.makeSlice t l c) with
  | some (p, n, blk) => some (if p then .ptr h.length 0 0 else .own h.length 0 0 n, .push blk)
  | none => none
 | .store t p x => if (ρ x).storable = true ∧ (ρ x).cellsOf.length = C.sz t ∧ (C.ut t).known = true then (match ρ p with
  | .ptr β g off => match h[β]? with
   | some b => if b.gen = g ∧ b.cJ = false ∧ off + (ρ x).cellsOf.length ≤ b.cells.length ∧ b.frz ≤ off then some (.any, .set β { b with cells := over b.cells off (ρ x).cellsOf }) else none
   | none => none
  | _ => none) else none
 | .call c => match c.callee with
  | .builtin .append => match c.args.toList, c.argTypes.toList with
   | [b, x], [t, u] => match C.ut t with
    | .slice e => if t = u then zT C e h (ρ b) (ρ x) else none
    | _ => none
   | _, _ => none
  | _ => none
 | _ => none
theorem V0 {C : Cfg} {ρ : Operand → AV} {h : c6} {o : Op} {x : AV} {d : Dl} (hd : U9 C ρ h o = some (x, d)) : p7 C ρ h o = some (x, dl h d) := by
 have mk : ∀ o', (match mkA C ρ o' with
  | some (p, n, blk) => some ((if p then AV.ptr h.length 0 0 else .own h.length 0 0 n), Dl.push blk)
  | none => none) = some (x, d) → lK C ρ h o' = some (x, dl h d) := by
  intro o' hd
  split at hd
  ·rename_i p n blk hm
   cases hd
   rw [(U1 (h := h) hm).1]
   rfl
  ·cases hd
 unfold U9 at hd
 split at hd
 ·exact mk _ hd
 ·exact mk _ hd
 ·exact mk _ hd
 ·exact mk _ hd
 ·split at hd
  ·rename_i hc
   split at hd
   ·rename_i β g off hp
    split at hd
    ·rename_i b hb
     split at hd
     ·rename_i hg
      cases hd
      simp only [p7, dY, eS, lK, if_pos hc, hp, qZ, hb, if_pos hg, Option.map_some, dl]
     ·cases hd
    ·cases hd
   ·cases hd
  ·cases hd
 ·rename_i c
  split at hd
  ·rename_i hcal
   split at hd
   ·rename_i b y t u ha ht
    split at hd
    ·rename_i e hu
     split at hd
     ·rename_i htu
      have := N8 hd
      simp only [p7, dY, fQ, eS, lK, hcal, ha, ht, hu, if_pos htu, this]
     ·cases hd
    ·cases hd
   ·cases hd
  ·cases hd
 ·cases hd
def QS (C : Cfg) (call : fA) (ops : Array Oper) (n : Nat) {β : Type} : List Oper → TT → c6 → (TT → c6 → Option β) → Option β
 | [], T, h, K => K T h
 | o :: rest, T, h, K => match EK (C := C) ops n T o with
  | some true => match U9 C (DJ C n T) h o.op with
   | some (x, d) => fX o.op x fun x => dlK h d fun h => QR n T o.dst x fun T => QS C call ops n rest T h K
   | none => match opE C call (DJ C n T) h o.op with
    | some (x, h') => fX o.op x fun x => fHo o.op h' fun h' => QR n T o.dst x fun T => QS C call ops n rest T h' K
    | none => none
  | some false => QR n T o.dst (.tup []) fun T => QS C call ops n rest T h K
  | none => none
theorem vD {call : fA} (hc : call.ok P C) {ops : Array Oper} {d n : Nat} {β : Type} {r : β} {Q : St → Prop} : ∀ (l : List Oper) (T : TT) (sl : List AV) (h : c6) (K : TT → c6 → Option β), Sl d n T sl → QS C call ops n l T h K = some r →
  (∀ T' sl' h', Sl d n T' sl' → K T' h' = some r → Q ⟨sl', h'⟩) → l5 P C ops l ⟨sl, h⟩ Q
 | [], T, sl, h, K, s, he, hk => hk T sl h s he
 | o :: rest, T, sl, h, K, s, he, hk => by
  simp only [QS] at he
  rw [F1 s] at he
  split at he
  ·rename_i hw
   split at he
   ·rename_i x d hp
    rw [EJ, dlK_eq] at he
    rw [mL s] at hp
    obtain ⟨T', s', he'⟩ := vC s he
    exact .inl ⟨hw, .plain (V0 hp) (vD hc rest T' _ _ K s' he' hk)⟩
   ·split at he
    ·rename_i x h' hp
     rw [EJ, U7] at he
     rw [mL s] at hp
     obtain ⟨T', s', he'⟩ := vC s he
     exact .inl ⟨hw, (JR hc hp).mono fun y k ⟨e1, e2⟩ => by subst e1 e2; exact vD hc rest T' _ _ K s' he' hk⟩
    ·cases he
  ·rename_i hw
   obtain ⟨T', s', he'⟩ := vC s he
   exact .inr ⟨hw, vD hc rest T' _ _ K s' he' hk⟩
  ·cases he
def xQ : Nat → AV → AV → Bool
 | 0, x, y => nG x y
 | d + 1, x, y => match x, y with
  | .agg a, .agg b => eqL (xQ d) a b
  | .tup a, .tup b => eqL (xQ d) a b
  | .vec n a, .vec m b => Nat.beq n m && eqL (xQ d) a b
  | .jK a n, .jK b m => Nat.beq n m && eqL (xQ d) a b
  | .ptr a b c, .ptr a' b' c' => Nat.beq a a' && (Nat.beq b b' && Nat.beq c c')
  | .own a b c e, .own a' b' c' e' => Nat.beq a a' && (Nat.beq b b' && (Nat.beq c c' && Nat.beq e e'))
  | .iface t a, .iface t' b => Nat.beq t t' && xQ d a b
  | x, y => nG x y
where
 eqL (f : AV → AV → Bool) : List AV → List AV → Bool
 | [], [] => true
 | a :: as1, b :: bs => f a b && eqL f as1 bs
 | _, _ => false
theorem rP {f : AV → AV → Bool} (hf : ∀ x y, f x y = true → x = y) : ∀ (a b : List AV), xQ.eqL f a b = true → a = b
 | [], [], _ => rfl
 | [], _ :: _, h => by simp [xQ.eqL] at h
 | _ :: _, [], h => by simp [xQ.eqL] at h
 | a :: as1, b :: bs, h => by
  simp only [xQ.eqL, Bool.and_eq_true] at h
  rw [hf a b h.1, rP hf as1 bs h.2]
theorem rQ : ∀ (d : Nat) (x y : AV), xQ d x y = true → x = y
 | 0, x, y, h => mJ h
 | d + 1, x, y, h => by
  have ih := rQ d
  unfold xQ at h
  split at h
  ·rw [rP ih _ _ h]
  ·rw [rP ih _ _ h]
  ·simp only [Bool.and_eq_true, Nat.beq_eq] at h
   rw [h.1, rP ih _ _ h.2]
  ·simp only [Bool.and_eq_true, Nat.beq_eq] at h
   rw [h.1, rP ih _ _ h.2]
  ·simp only [Bool.and_eq_true, Nat.beq_eq] at h
   rw [h.1, h.2.1, h.2.2]
  ·simp only [Bool.and_eq_true, Nat.beq_eq] at h
   rw [h.1, h.2.1, h.2.2.1, h.2.2.2]
  ·simp only [Bool.and_eq_true, Nat.beq_eq] at h
   rw [h.1, ih _ _ h.2]
  ·exact mJ h
def LW (a b : Blk) : Bool := match a, b with
 | ⟨g, v, e, z, cs, q⟩, ⟨g', v', e', z', cs', q'⟩ => Nat.beq g g' && ((v == v') && (Nat.beq e e' && (Nat.beq z z' && (Nat.beq q q' && xQ.eqL (xQ 4) cs cs'))))
theorem EM {a b : Blk} (h : LW a b = true) : a = b := by
 obtain ⟨g, v, e, z, cs, q⟩ := a
 obtain ⟨g', v', e', z', cs', q'⟩ := b
 simp only [LW, Bool.and_eq_true, Nat.beq_eq, beq_iff_eq] at h
 rw [h.1, h.2.1, h.2.2.1, h.2.2.2.1, h.2.2.2.2.1, rP (rQ 4) _ _ h.2.2.2.2.2]
def aD : c6 → c6 → Bool
 | [], [] => true
 | a :: as1, b :: bs => LW a b && aD as1 bs
 | _, _ => false
theorem nH : ∀ {a b : c6}, aD a b = true → a = b
 | [], [], _ => rfl
 | [], _ :: _, h => by simp [aD] at h
 | _ :: _, [], h => by simp [aD] at h
 | a :: as1, b :: bs, h => by
  simp only [aD, Bool.and_eq_true] at h
  rw [EM h.1, nH h.2]
def DK (C : Cfg) (call : fA) (pl : Option Nat) (want : Bool) (ρ : Operand → AV) (H : c6) (o : Op) : Option (AV × c6) :=
 match want with
 | false => some (.tup [], H)
 | true => match pl with
  | some β => atA C ρ H β o
  | none => match U6 o with
   | true => opE C call ρ H o
   | false => match mD C ρ H o with
    | some x => some (x, H)
    | none => none
theorem runO_ok {call : fA} (hc : call.ok P C) {pl : Option Nat} {ρ : Operand → AV} {H H' : c6} {o : Op} {x : AV} (hr : DK C call pl true ρ H o = some (x, H')) : OpG P C pl ρ H o fun y h => y = x ∧ h = H' := by
 unfold DK at hr
 unfold OpG
 cases pl with
 | some β => exact ⟨x, H', hr, rfl, rfl⟩
 | none =>
  simp only at hr ⊢
  split at hr
  ·exact JR hc hr
  ·split at hr
   ·rename_i y hy
    cases hr
    exact .plain (dA hy) ⟨rfl, rfl⟩
   ·cases hr
def EN (want : Bool) (pl : Option Nat) (o : Op) (H' H : c6) : Bool := match want with
 | false => true
 | true => match pl with
  | some _ => false
  | none => match U6 o with
   | false => true
   | true => aD H' H
theorem F3 {call : fA} {pl : Option Nat} {want : Bool} {ρ : Operand → AV} {H H' : c6} {o : Op} {x : AV} (hr : DK C call pl want ρ H o = some (x, H')) (hs : EN want pl o H' H = true) : H' = H := by
 unfold EN at hs
 unfold DK at hr
 cases want with
 | false => cases hr; rfl
 | true =>
  cases pl with
  | some β => cases hs
  | none =>
   simp only at hs hr
   split at hs
   ·rename_i ht
    rw [ht] at hr
    simp only at hr
    split at hr
    ·cases hr; rfl
    ·cases hr
   ·exact nH hs
def okX (x : Option AV) (y : AV) : Bool := match x with
 | none => true
 | some x => xQ 8 y x
def tJ (C : Cfg) (call : fA) (p : s7) (i : Nat) (pl : Option Nat) (want : Bool) (ρ : Operand → AV) (o : Op) : List (Nat × c6) → Option AV → Option (Option AV × List (Nat × c6))
 | [], x => some (x, [])
 | (D, H) :: W, x => match p.fits i D with
  | false => tJ C call p i pl want ρ o W x
  | true => match DK C call pl want ρ H o with
   | none => none
   | some (y, H') => fX o y fun y => fHo o H' fun H' => match okX x y with
    | false => none
    | true => match p.isE i with
     | true => match tJ C call p i pl want ρ o W (some (x.getD y)) with
      | some (z, news) => fN (D ||| 2 ^ i) fun D' => some (z, (D', H') :: news)
      | none => none
     | false => match EN want pl o H' H with
      | true => tJ C call p i pl want ρ o W (some (x.getD y))
      | false => none
theorem qE {call : fA} {p : s7} {i : Nat} {pl : Option Nat} {want : Bool} {ρ : Operand → AV} {o : Op} : ∀ (W : List (Nat × c6)) (x z : Option AV) (news : List (Nat × c6)), tJ C call p i pl want ρ o W x = some (z, news) →
  (∀ x0, x = some x0 → z = some x0) ∧ (∀ D H, (D, H) ∈ W → p.fits i D = true → ∃ y H', z = some y ∧ DK C call pl want ρ H o = some (y, H') ∧ (p.isE i = true → (D ||| 2 ^ i, H') ∈ news) ∧ (p.isE i = false → H' = H)) ∧
  (∀ D' H', (D', H') ∈ news → ∃ D, D' = D ||| 2 ^ i ∧ ∃ H, (D, H) ∈ W)
 | [], x, z, news, h => by
  simp only [tJ, Option.some.injEq, Prod.mk.injEq] at h
  obtain ⟨rfl, rfl⟩ := h
  exact ⟨fun _ h => h, fun D H h => by simp at h, fun D H h => by simp at h⟩
 | (E, G) :: W, x, z, news, h => by
  simp only [tJ] at h
  split at h
  ·rename_i hf
   obtain ⟨h1, h2, h3⟩ := qE W x z news h
   refine ⟨h1, fun D H hm hfit => ?_, fun D' H' hm => ?_⟩
   ·rcases List.mem_cons.1 hm with he | hm
    ·cases he
     rw [hf] at hfit
     cases hfit
    ·exact h2 D H hm hfit
   ·obtain ⟨D, e, H, hm⟩ := h3 D' H' hm
    exact ⟨D, e, H, List.mem_cons_of_mem _ hm⟩
  ·rename_i hf
   split at h
   ·cases h
   ·rename_i y G' hr
    rw [EJ, U7] at h
    split at h
    ·cases h
    ·rename_i hx
     have hxy : ∀ x0, x = some x0 → y = x0 := fun x0 hx0 => by
      rw [hx0] at hx
      exact rQ 8 _ _ hx
     have hget : ∀ zz, (∀ x0, some (x.getD y) = some x0 → zz = some x0) → zz = some y := fun zz hz => by
      have := hz _ rfl
      rw [this]
      cases x with
      | none => rfl
      | some x0 => rw [hxy x0 rfl]; rfl
     split at h
     ·rename_i hE
      split at h
      ·rename_i z' news' h4
       rw [xO] at h
       simp only [Option.some.injEq, Prod.mk.injEq] at h
       obtain ⟨rfl, rfl⟩ := h
       obtain ⟨h1, h2, h3⟩ := qE W _ _ _ h4
       have hz := hget _ h1
       refine ⟨fun x0 hx0 => by rw [hz, hxy x0 hx0], fun D H hm hfit => ?_, fun D' H' hm => ?_⟩
       ·rcases List.mem_cons.1 hm with he | hm
        ·cases he
         exact ⟨y, G', hz, hr, fun _ => List.mem_cons_self, fun h => by rw [hE] at h; cases h⟩
        ·obtain ⟨y', H', k1, k2, k3, k4⟩ := h2 D H hm hfit
         exact ⟨y', H', k1, k2, fun e => List.mem_cons_of_mem _ (k3 e), k4⟩
       ·rcases List.mem_cons.1 hm with he | hm
        ·cases he
         exact ⟨E, rfl, G, List.mem_cons_self⟩
        ·obtain ⟨D, e, H, hm⟩ := h3 D' H' hm
         exact ⟨D, e, H, List.mem_cons_of_mem _ hm⟩
      ·cases h
     ·rename_i hE
      split at h
      ·rename_i hs
       obtain ⟨h1, h2, h3⟩ := qE W _ _ _ h
       have hz := hget _ h1
       refine ⟨fun x0 hx0 => by rw [hz, hxy x0 hx0], fun D H hm hfit => ?_, fun D' H' hm => ?_⟩
       ·rcases List.mem_cons.1 hm with he | hm
        ·cases he
         exact ⟨y, G', hz, hr, fun h => t69, fun _ => F3 hr hs⟩
        ·exact h2 D H hm hfit
       ·obtain ⟨D, e, H, hm⟩ := h3 D' H' hm
        exact ⟨D, e, H, List.mem_cons_of_mem _ hm⟩
      ·cases h
abbrev Pt := Nat × Option Nat × Bool × Op × TT × AV
def LZ (C : Cfg) (call : fA) (p : s7) (n : Nat) (W : List (Nat × c6)) (q : Pt) : Bool :=
 W.all fun (D, H) => match p.fits q.1 D with
  | false => true
  | true => match DK C call q.2.1 q.2.2.1 (DJ C n q.2.2.2.2.1) H q.2.2.2.1 with
   | none => false
   | some (y, H') => xQ 8 y q.2.2.2.2.2 && (match p.isE q.1 with
    | true => match lookW W (D ||| 2 ^ q.1) with
     | some H2 => aD H' H2
     | none => false
    | false => EN q.2.2.1 q.2.1 q.2.2.2.1 H' H)
def RN (p : s7) : List (Nat × c6) → List (Nat × c6) → Option (List (Nat × c6))
 | [], W => some W
 | (D, H) :: news, W => match RN p news W with
  | some W' => match lookW W' D with
   | none => match p.DI.contains D with
    | true => some ((D, H) :: W')
    | false => none
   | some _ => none
  | none => none
def RO (C : Cfg) (call : fA) (ops : Array Oper) (p : s7) (n b : Nat) {β : Type} : List Oper → Nat → TT → List (Nat × c6) → List Pt → (TT → c6 → Option β) → Option β
 | [], _, T, W, pd, K => match pd.all (LZ C call p n W) with
  | true => match lookW W (p.full ops.size) with
   | some H => K T H
   | none => none
  | false => none
 | o :: rest, i, T, W, pd, K => match EK (C := C) ops n T o with
  | some want => match tJ C call p i ((p.place.getD i none).map (b + ·)) want (DJ C n T) o.op W none with
   | some (some x, news) => match RN p news W with
    | some W' => QR n T o.dst x fun T' => RO C call ops p n b rest (i + 1) T' W' (match p.jP.contains i with | true => (i, (p.place.getD i none).map (b + ·), want, o.op, T, x) :: pd | false => pd) K
    | none => none
   | _ => none
  | none => none
def s7.okS (p : s7) (n : Nat) : Bool := p.DI.contains 0 && (List.range n).all fun i => p.jP.contains i || p.DI.all fun D => !p.fits i D || Nat.blt D (2 ^ i)
def s7.m (p : s7) : Nat := (p.place.filterMap id).length
def N9 (W : List (Nat × c6)) : Prop := ∀ D H, (D, H) ∈ W → lookW W D = some H
theorem rR : ∀ {W : List (Nat × c6)} {D : Nat} {H : c6}, lookW W D = some H → (D, H) ∈ W
 | [], _, _, h => by simp [lookW] at h
 | (E, G) :: W, D, H, h => by
  simp only [lookW] at h
  split at h
  ·rename_i he
   cases h
   rw [Nat.eq_of_beq_eq_true he]
   exact List.mem_cons_self
  ·exact List.mem_cons_of_mem _ (rR h)
theorem V1 {p : s7} : ∀ (news W W' : List (Nat × c6)), RN p news W = some W' → N9 W → N9 W' ∧ (∃ more, W' = more ++ W ∧ ∀ x ∈ more, x ∈ news ∧ x.1 ∈ p.DI) ∧ (∀ x ∈ news, x ∈ W')
 | [], W, W', h, hf => by
  simp only [RN, Option.some.injEq] at h
  subst h
  exact ⟨hf, ⟨[], rfl, fun x hx => by simp at hx⟩, fun x hx => by simp at hx⟩
 | (D, H) :: news, W, W', h, hf => by
  simp only [RN] at h
  split at h
  ·rename_i W1 h1
   split at h
   ·rename_i hn
    split at h
    ·rename_i hs
     simp only [Option.some.injEq] at h
     subst h
     obtain ⟨f1, ⟨more, e1, m1⟩, n1⟩ := V1 news W W1 h1 hf
     refine ⟨fun E G hm => ?_, ⟨(D, H) :: more, by rw [e1]; rfl, fun x hx => ?_⟩, fun x hx => ?_⟩
     ·simp only [lookW]
      rcases List.mem_cons.1 hm with he | hm
      ·cases he
       simp
      ·split
       ·rename_i he
        have := Nat.eq_of_beq_eq_true he
        subst this
        have := f1 _ _ hm
        rw [hn] at this
        cases this
       ·exact f1 _ _ hm
     ·rcases List.mem_cons.1 hx with rfl | hx
      ·exact ⟨List.mem_cons_self, by simpa using hs⟩
      ·exact ⟨List.mem_cons_of_mem _ (m1 x hx).1, (m1 x hx).2⟩
     ·rcases List.mem_cons.1 hx with rfl | hx
      ·exact List.mem_cons_self
      ·exact List.mem_cons_of_mem _ (n1 x hx)
    ·cases h
   ·cases h
  ·cases h
theorem lO {call : fA} {p : s7} {i : Nat} {pl : Option Nat} {ρ : Operand → AV} {o : Op} : ∀ (W : List (Nat × c6)) (x z : Option AV) (news : List (Nat × c6)), tJ C call p i pl false ρ o W x = some (z, news) → (x = none ∨ x = some (.tup [])) → (z = none ∨ z = some (.tup []))
 | [], x, z, news, h, hx => by
  simp only [tJ, Option.some.injEq, Prod.mk.injEq] at h
  rw [← h.1]
  exact hx
 | (E, G) :: W, x, z, news, h, hx => by
  simp only [tJ, DK] at h
  have hx' : (some (x.getD (.tup [])) : Option AV) = none ∨ some (x.getD (.tup [])) = some (.tup []) := by
   rcases hx with rfl | rfl <;> exact .inr rfl
  split at h
  ·exact lO W x z news h hx
  ·rw [EJ, U7] at h
   split at h
   ·cases h
   ·split at h
    ·split at h
     ·rename_i z' news' h4
      rw [xO] at h
      simp only [Option.some.injEq, Prod.mk.injEq] at h
      obtain ⟨rfl, rfl⟩ := h
      exact lO W _ _ _ h4 hx'
     ·cases h
    ·split at h
     ·exact lO W _ _ _ h hx'
     ·cases h
theorem V2 {o : Op} {ρ ρ' : Operand → AV} (hρ : ∀ x ∈ o.operands, ρ x = ρ' x) : mkA C ρ o = mkA C ρ' o := by
 cases o with
 | box t x => simp only [mkA, hρ x t44]
 | buildSlice t n parts =>
  have : (parts.toList.map fun p => (p.1, ρ p.2)) = parts.toList.map fun p => (p.1, ρ' p.2) := eZ fun p hp => by rw [hρ p.2 t95]
  simp only [mkA, this]
 | makeSlice t x y => simp only [mkA, hρ x t44, hρ y t44]
 | _ => rfl
theorem OpG.congr {pl : Option Nat} {o : Op} {ρ ρ' : Operand → AV} {h : c6} {K : AV → c6 → Prop} (hρ : ∀ x ∈ o.operands, ρ x = ρ' x) (r : OpG P C pl ρ h o K) : OpG P C pl ρ' h o K := by
 unfold OpG at r ⊢
 cases pl with
 | none => exact OpA.congr hρ r
 | some β =>
  obtain ⟨x, h', h1, h2⟩ := r
  refine ⟨x, h', ?_, h2⟩
  unfold atA at h1 ⊢
  rw [← V2 hρ]
  exact h1
theorem V3 {call : fA} (hc : call.ok P C) {ops : Array Oper} {p : s7} {d n b : Nat} {β : Type} {r : β} (hS : p.okS ops.size = true) : ∀ (l : List Oper) (i : Nat) (T : TT) (sl : List AV) (W : List (Nat × c6)) (pd : List Pt) (K : TT → c6 → Option β),
  Sl d n T sl → i + l.length = ops.size → RO C call ops p n b l i T W pd K = some r → N9 W → (∀ D H, (D, H) ∈ W → D ∈ p.DI ∧ D < 2 ^ i) →
  ∃ (rs : List AV) (Wf : List (Nat × c6)) (T' : TT) (Hf : c6), rs.length = l.length ∧ N9 Wf ∧ (∃ more, Wf = more ++ W ∧ ∀ x ∈ more, 2 ^ i ≤ x.1) ∧ (∀ x ∈ Wf, x.1 ∈ p.DI) ∧ (∀ q ∈ pd, LZ C call p n Wf q = true) ∧
   (∀ j o, l[j]? = some o → EI P C ops p b Wf (i + j) o (mC sl l rs j) (rs.getD j .any)) ∧ lookW Wf (p.full ops.size) = some Hf ∧ Sl d n T' (mC sl l rs l.length) ∧ K T' Hf = some r
 | [], i, T, sl, W, pd, K, s, hi, he, hf, hk => by
  simp only [RO] at he
  split at he
  ·rename_i hp
   split at he
   ·rename_i H hl
    exact ⟨[], W, T, H, rfl, hf, ⟨[], rfl, fun x hx => by simp at hx⟩, fun x hx => (hk x.1 x.2 hx).1, fun q hq => List.all_eq_true.1 hp q hq, fun j o hj => by simp at hj, hl, s, he⟩
   ·cases he
  ·cases he
 | o :: rest, i, T, sl, W, pd, K, s, hi, he, hf, hk => by
  simp only [RO] at he
  rw [F1 s, mL s] at he
  split at he
  ·rename_i want hw
   split at he
   ·rename_i x news hev
    split at he
    ·rename_i W' hW
     obtain ⟨T1, s1, he1⟩ := vC s he
     obtain ⟨q1, q2, q3⟩ := qE W none (some x) news hev
     obtain ⟨f1, ⟨more1, e1, m1⟩, n1⟩ := V1 news W W' hW hf
     have hnew : ∀ D' H', (D', H') ∈ news → 2 ^ i ≤ D' ∧ D' < 2 ^ (i + 1) := fun D' H' hm => by
      obtain ⟨D, rfl, H, hD⟩ := q3 D' H' hm
      have h1 := (hk D H hD).2
      refine ⟨?_, Nat.or_lt_two_pow (Nat.lt_trans h1 (Nat.pow_lt_pow_right (by decide) (by omega))) (Nat.pow_lt_pow_right (by decide) (by omega))⟩
      exact Nat.right_le_or
     obtain ⟨rs, Wf, T', Hf, k1, k2, ⟨more2, e2, m2⟩, k4, k5, k6, k7, k8, k9⟩ := V3 hc hS rest (i + 1) T1 _ W' _ K s1 (by rw [← hi]; simp; omega) he1 f1 (fun D H hm => by
      rw [e1] at hm
      rcases List.mem_append.1 hm with hm | hm
      ·exact ⟨(m1 _ hm).2, (hnew D H (m1 _ hm).1).2⟩
      ·exact ⟨(hk D H hm).1, Nat.lt_trans (hk D H hm).2 (Nat.pow_lt_pow_right (by decide) (by omega))⟩)
     have hin : i < ops.size := by rw [← hi]; simp
     have hbig : ∀ y ∈ more2 ++ more1, 2 ^ i ≤ y.1 := fun y hy => by
      rcases List.mem_append.1 hy with hy | hy
      ·exact Nat.le_trans (Nat.pow_le_pow_right (by decide) (by omega)) (m2 y hy)
      ·exact (hnew y.1 y.2 (m1 y hy).1).1
     have eW : Wf = (more2 ++ more1) ++ W := by rw [e2, e1, List.append_assoc]
     have fact : ∀ D H, lookW Wf D = some H → p.fits i D = true → ∃ H', DK C call ((p.place.getD i none).map (b + ·)) want (rho C sl) H o.op = some (x, H') ∧ (p.isE i = true → lookW Wf (D ||| 2 ^ i) = some H') ∧ (p.isE i = false → H' = H) := by
      intro D H hl hfit
      have hm := rR hl
      cases hmu : p.jP.contains i with
      | true =>
       rw [hmu] at k5
       have h1 := k5 _ List.mem_cons_self
       unfold LZ at h1
       have h2 := List.all_eq_true.1 h1 (D, H) hm
       simp only [hfit, mL s] at h2
       split at h2
       ·cases h2
       ·rename_i y H' hr
        simp only [Bool.and_eq_true] at h2
        have hy := rQ 8 _ _ h2.1
        subst hy
        refine ⟨H', hr, fun hE => ?_, fun hE => ?_⟩
        ·have h3 := h2.2
         rw [hE] at h3
         simp only at h3
         split at h3
         ·rename_i H2 hl2
          rw [hl2, nH h3]
         ·cases h3
        ·have h3 := h2.2
         rw [hE] at h3
         exact F3 hr h3
      | false =>
       have hD := k4 (D, H) hm
       unfold s7.okS at hS
       simp only [Bool.and_eq_true] at hS
       have h1 := List.all_eq_true.1 hS.2 i (List.mem_range.2 hin)
       rw [hmu, Bool.false_or] at h1
       have h2 := List.all_eq_true.1 h1 D hD
       rw [hfit, Bool.not_true, Bool.false_or, Nat.blt_eq] at h2
       have hmW : (D, H) ∈ W := by
        rw [eW] at hm
        rcases List.mem_append.1 hm with hm | hm
        ·have := hbig _ hm
         simp only at this
         omega
        ·exact hm
       obtain ⟨y, H', e3, e4, e5, e6⟩ := q2 D H hmW hfit
       cases e3
       refine ⟨H', e4, fun hE => k2 _ _ ?_, e6⟩
       rw [e2]
       exact List.mem_append.2 (.inr (n1 _ (e5 hE)))
     refine ⟨x :: rs, Wf, T', Hf, by simp [k1], k2, ⟨more2 ++ more1, eW, hbig⟩, k4, fun q hq => ?_, fun j oj hj => ?_, k7, k8, k9⟩
     ·cases hmu : p.jP.contains i with
      | true => rw [hmu] at k5; exact k5 q (List.mem_cons_of_mem _ hq)
      | false => rw [hmu] at k5; exact k5 q hq
     ·match j with
      | 0 =>
       simp at hj
       subst hj
       rw [Nat.add_zero]
       cases want with
       | true =>
        refine .inl ⟨hw, fun D H hl hfit => ?_⟩
        obtain ⟨H', e3, e4, e5⟩ := fact D H hl hfit
        exact ⟨H', OpG.congr (rM (ops := ops)) (runO_ok hc e3), e4, e5⟩
       | false =>
        have hx : x = .tup [] := by
         rcases lO W none (some x) news hev (.inl rfl) with h | h
         ·cases h
         ·exact Option.some.inj h
        refine .inr ⟨hw, hx, fun D H hl hfit hE => ?_⟩
        obtain ⟨H', e3, e4, e5⟩ := fact D H hl hfit
        simp only [DK, Option.some.injEq, Prod.mk.injEq] at e3
        rw [e3.2]
        exact e4 hE
      | j + 1 =>
       have := k6 j oj t93
       rw [show i + (j + 1) = i + 1 + j from by omega]
       exact this
    ·cases he
   ·cases he
  ·cases he
abbrev zU := Nat → Option s7
def regE (C : Cfg) (call : fA) (pl : zU) (n : Nat) {β : Type} (id : Nat) (ops : Array Oper) (draw : Bool) (T : TT) (h : c6) (K : TT → c6 → Option β) : Option β :=
 match draw with
 | false => QS C call ops n ops.toList T h K
 | true => match pl id with
  | some p => RO C call ops p n h.length ops.toList 0 T [(0, h ++ kept p.m)] [] K
  | none => none
def O0 (f : TT → c6 → Option (Exit × TT × c6)) : Nat → TT → c6 → Option (Exit × TT × c6)
 | 0, _, _ => none
 | k + 1, T, h => match f T h with
  | some (.normal, T, h) => O0 f k T h
  | r => r
def kL (C : Cfg) (call : fA) (pl : zU) (n : Nat) : Code → TT → c6 → Option (Exit × TT × c6)
 | .skip, T, h => some (.normal, T, h)
 | .region id ops draw, T, h => regE C call pl n id ops draw T h fun T h => some (.normal, T, h)
 | .seq a b, T, h => match kL C call pl n a T h with
  | some (.normal, T, h) => kL C call pl n b T h
  | r => r
 | .cond c x y, T, h => match DJ C n T c with
  | .bool true => kL C call pl n x T h
  | .bool false => kL C call pl n y T h
  | _ => none
 | .block id c, T, h => match kL C call pl n c T h with
  | some (.exit id', T, h) => match Nat.beq id' id with
   | true => some (.normal, T, h)
   | false => some (.exit id', T, h)
  | r => r
 | .loop c, T, h => O0 (kL C call pl n c) 100000 T h
 | .exit id, T, h => some (.exit id, T, h)
 | .ret, T, h => some (.ret, T, h)
 | _, _, _ => none
def dB (pl : zU) (n : Nat) : Code → Bool
 | .region id ops true => match pl id with
  | some p => p.ok ops n && p.okS ops.size
  | none => true
 | .seq a b => dB pl n a && dB pl n b
 | .cond _ x y => dB pl n x && dB pl n y
 | .block _ c => dB pl n c
 | .loop c => dB pl n c
 | _ => true
theorem EO {c : Code} {d n : Nat} {f : TT → c6 → Option (Exit × TT × c6)} (hf : ∀ T sl h e T' h', Sl d n T sl → f T h = some (e, T', h') → c8 P C c ⟨sl, h⟩ fun e' st => e' = e ∧ Sl d n T' st.sl ∧ st.h = h') :
  ∀ (k : Nat) (T : TT) (sl : List AV) (h : c6) (e : Exit) (T' : TT) (h' : c6), Sl d n T sl → O0 f k T h = some (e, T', h') → c8 P C (.loop c) ⟨sl, h⟩ fun e' st => e' = e ∧ Sl d n T' st.sl ∧ st.h = h' := by
 intro k T sl h e T' h' s he
 refine c8.loop (fun m st => ∃ T, Sl d n T st.sl ∧ O0 f m T st.h = some (e, T', h')) k ⟨T, s, he⟩ ?_
 rintro m ⟨sl1, h1⟩ ⟨T1, s1, he1⟩
 cases m with
 | zero => simp [O0] at he1
 | succ m =>
  simp only [O0] at he1
  split at he1
  ·rename_i T2 h2 hf2
   refine (hf T1 sl1 h1 _ T2 h2 s1 hf2).mono ?_
   rintro e' st ⟨rfl, s2, rfl⟩
   exact ⟨m, Nat.lt_succ_self m, T2, s2, he1⟩
  ·rename_i hne
   refine (hf T1 sl1 h1 e T' h' s1 he1).mono ?_
   rintro e' st ⟨rfl, s2, rfl⟩
   cases e' with
   | normal => exact absurd he1 (hne _ _)
   | exit id => exact ⟨rfl, s2, rfl⟩
   | goto l => exact ⟨rfl, s2, rfl⟩
   | ret => exact ⟨rfl, s2, rfl⟩
   | panic ch => exact ⟨rfl, s2, rfl⟩
   | outgrown => exact ⟨rfl, s2, rfl⟩
theorem EP (g : Good P C) {call : fA} (hc : call.ok P C) {pl : zU} {d n : Nat} : ∀ (c : Code), dB pl n c = true → ∀ (T : TT) (sl : List AV) (h : c6) (e : Exit) (T' : TT) (h' : c6), Sl d n T sl → kL C call pl n c T h = some (e, T', h') →
  c8 P C c ⟨sl, h⟩ fun e' st => e' = e ∧ Sl d n T' st.sl ∧ st.h = h' := by
 intro c
 induction c with
 | skip =>
  intro _ T sl h e T' h' s he
  simp only [kL, Option.some.injEq, Prod.mk.injEq] at he
  obtain ⟨rfl, rfl, rfl⟩ := he
  exact c8.skip ⟨rfl, s, rfl⟩
 | region id ops draw =>
  intro hp T sl h e T' h' s he
  simp only [kL, regE] at he
  split at he
  ·refine c8.region g (vD hc ops.toList T sl h _ s he fun T2 sl2 h2 s2 h3 => ?_)
   simp only [Option.some.injEq, Prod.mk.injEq] at h3
   obtain ⟨rfl, rfl, rfl⟩ := h3
   exact ⟨rfl, s2, rfl⟩
  ·split at he
   ·rename_i p hpl
    simp only [dB, hpl, Bool.and_eq_true] at hp
    have hs0 : 0 ∈ p.DI := by
     have := hp.2
     unfold s7.okS at this
     simp only [Bool.and_eq_true] at this
     simpa using this.1
    obtain ⟨rs, Wf, T2, Hf, k1, k2, ⟨more, e2, m2⟩, k4, k5, k6, k7, k8, k9⟩ := V3 hc hp.2 ops.toList 0 T sl [(0, h ++ kept p.m)] [] _ s (by simp) he (fun D H hm => by
     simp only [List.mem_singleton, Prod.mk.injEq] at hm
     obtain ⟨rfl, rfl⟩ := hm
     simp [lookW]) (fun D H hm => by
     simp only [List.mem_singleton, Prod.mk.injEq] at hm
     obtain ⟨rfl, rfl⟩ := hm
     exact ⟨hs0, by decide⟩)
    simp only [Option.some.injEq, Prod.mk.injEq] at k9
    obtain ⟨rfl, rfl, rfl⟩ := k9
    rw [Array.length_toList] at k1 k8
    refine c8.drawG g p p.m (by rw [s.len]; exact hp.1) rs Wf Hf k1 (k2 _ _ (by rw [e2]; simp)) k7 (fun j o ho => ?_) ⟨rfl, k8, rfl⟩
    have := k6 j o (by simpa using ho)
    rwa [Nat.zero_add] at this
   ·cases he
 | seq a b iha ihb =>
  intro hp T sl h e T' h' s he
  simp only [dB, Bool.and_eq_true] at hp
  simp only [kL] at he
  split at he
  ·rename_i T2 h2 h3
   refine c8.seq ((iha hp.1 T sl h _ T2 h2 s h3).mono ?_)
   rintro e' st ⟨rfl, s2, rfl⟩
   exact ihb hp.2 T2 st.sl st.h e T' h' s2 he
  ·rename_i hne
   refine c8.seq ((iha hp.1 T sl h e T' h' s he).mono ?_)
   rintro e' st ⟨rfl, s2, rfl⟩
   cases e' with
   | normal => exact absurd he (hne _ _)
   | exit id => exact ⟨rfl, s2, rfl⟩
   | goto l => exact ⟨rfl, s2, rfl⟩
   | ret => exact ⟨rfl, s2, rfl⟩
   | panic ch => exact ⟨rfl, s2, rfl⟩
   | outgrown => exact ⟨rfl, s2, rfl⟩
 | cond c x y ihx ihy =>
  intro hp T sl h e T' h' s he
  simp only [dB, Bool.and_eq_true] at hp
  simp only [kL] at he
  rw [mL s] at he
  split at he
  ·rename_i hv
   exact c8.pV hv (ihx hp.1 T sl h e T' h' s he)
  ·rename_i hv
   exact c8.N6 hv (ihy hp.2 T sl h e T' h' s he)
  ·cases he
 | block id c ih =>
  intro hp T sl h e T' h' s he
  simp only [dB] at hp
  simp only [kL] at he
  split at he
  ·rename_i id' T2 h2 h3
   refine c8.block ((ih hp T sl h _ T2 h2 s h3).mono ?_)
   rintro e' st ⟨rfl, s2, rfl⟩
   split at he
   ·rename_i hid
    simp only [Option.some.injEq, Prod.mk.injEq] at he
    obtain ⟨rfl, rfl, h4⟩ := he
    simp only [rF]
    rw [if_pos (Nat.eq_of_beq_eq_true hid)]
    first | exact ⟨rfl, s2, h4⟩ | exact ⟨trivial, s2, h4⟩
   ·rename_i hid
    simp only [Option.some.injEq, Prod.mk.injEq] at he
    obtain ⟨rfl, rfl, h4⟩ := he
    simp only [rF]
    rw [if_neg (fun hh => by rw [hh] at hid; simp at hid)]
    first | exact ⟨rfl, s2, h4⟩ | exact ⟨trivial, s2, h4⟩
  ·rename_i hne
   refine c8.block ((ih hp T sl h e T' h' s he).mono ?_)
   rintro e' st ⟨rfl, s2, rfl⟩
   cases e' with
   | exit id' => exact absurd he (hne _ _ _)
   | normal => exact ⟨rfl, s2, rfl⟩
   | goto l => exact ⟨rfl, s2, rfl⟩
   | ret => exact ⟨rfl, s2, rfl⟩
   | panic ch => exact ⟨rfl, s2, rfl⟩
   | outgrown => exact ⟨rfl, s2, rfl⟩
 | loop c ih =>
  intro hp T sl h e T' h' s he
  simp only [dB] at hp
  simp only [kL] at he
  exact EO (fun T sl h e T' h' s he => ih hp T sl h e T' h' s he) _ T sl h e T' h' s he
 | exit id =>
  intro _ T sl h e T' h' s he
  simp only [kL, Option.some.injEq, Prod.mk.injEq] at he
  obtain ⟨rfl, rfl, rfl⟩ := he
  exact c8.exit ⟨rfl, s, rfl⟩
 | ret =>
  intro _ T sl h e T' h' s he
  simp only [kL, Option.some.injEq, Prod.mk.injEq] at he
  obtain ⟨rfl, rfl, rfl⟩ := he
  exact c8.ret ⟨rfl, s, rfl⟩
 | _ => intro _ T sl h e T' h' s he; simp [kL] at he
def oR (n : Nat) : Nat := match Nat.ble n 32 with
 | true => 5
 | false => match Nat.ble n 128 with
  | true => 7
  | false => 10
def fill : List AV → Nat → TT → TT
 | [], _, T => T
 | x :: xs, i, T => fill xs (i + 1) (T.set i x)
def ER {β : Type} : List AV → Nat → TT → (TT → β) → β
 | [], _, T, K => K T
 | x :: xs, i, T, K => T.put i x fun T => ER xs (i + 1) T K
theorem F4 {β : Type} : ∀ (l : List AV) (i : Nat) (T : TT) (K : TT → β), ER l i T K = K (fill l i T)
 | [], _, _, _ => rfl
 | x :: xs, i, T, K => by simp only [ER, fill, TT.put_eq, F4 xs]
theorem V4 {d n : Nat} : ∀ (xs : List AV) (i : Nat) (T : TT) (sl : List AV), Sl d n T sl → i + xs.length ≤ n → (∀ t, i ≤ t → sl.getD t .any = .any) →
  Sl d n (fill xs i T) (sl.take i ++ xs ++ List.replicate (n - i - xs.length) .any)
 | [], i, T, sl, s, hi, ha => by
  refine ⟨by simp at hi ⊢; rw [s.len]; omega, s.fit, s.deep, fun t ht => ?_⟩
  rw [show fill [] i T = T from rfl, ← s.get t ht, List.append_nil]
  have hi' : i ≤ n := by simpa using hi
  by_cases h : t < i
  ·rw [List.getD_eq_getElem?_getD, List.getElem?_append_left (by simp [s.len]; omega), List.getElem?_take, if_pos h, ← List.getD_eq_getElem?_getD]
  ·rw [ha t (by omega), List.getD_eq_getElem?_getD, List.getElem?_append_right t59, List.getElem?_replicate]
   split <;> rfl
 | x :: xs, i, T, sl, s, hi, ha => by
  have hi' : i < n := by simp at hi; omega
  have := V4 xs (i + 1) (T.set i x) (sl.set i x) (s.set i x hi') (by simp at hi; omega) (fun t ht => by
   rw [List.getD_eq_getElem?_getD, List.getElem?_set_ne (by omega), ← List.getD_eq_getElem?_getD]
   exact ha t (by omega))
  have e1 : (sl.set i x).take (i + 1) = sl.take i ++ [x] := by
   rw [List.take_add_one, List.take_set_of_le (Nat.le_refl i)]
   simp [s.len, hi']
  have e2 : n - (i + 1) - xs.length = n - i - (x :: xs).length := by simp; omega
  rw [e1, e2] at this
  show Sl d n (fill xs (i + 1) (T.set i x)) _
  simpa using this
def V5 (n0 : Nat) (x : AV) (h : c6) : Option (AV × c6) :=
 match fO n0 h 6 x with
 | some y => match DZ n0 h with
  | some h2 => fD 40 y fun y => fH h2 fun h2 => some (y, h2)
  | none => fD 40 x fun x => some (x, h)
 | none => fD 40 x fun x => some (x, h)
def MA (C : Cfg) (n : Nat) (T : TT) (h : c6) : ResultVar → Option AV
 | .tmp t => some (DJ C n T (.tmp t))
 | .cell a t => M8 C h t (DJ C n T (.tmp a))
def ES (C : Cfg) (n : Nat) (T : TT) (h : c6) : List ResultVar → Option (List AV)
 | [] => some []
 | r :: rest => match MA C n T h r, ES C n T h rest with
  | some x, some xs => some (x :: xs)
  | _, _ => none
def RP (C : Cfg) (rs : Array ResultVar) (n : Nat) (T : TT) (h : c6) : Option AV :=
 match ES C n T h rs.toList with
 | some [x] => some x
 | some xs => some (.tup xs)
 | none => none
theorem resT_eq {d n : Nat} {T : TT} {sl : List AV} (s : Sl d n T sl) (h : c6) (rs : Array ResultVar) : RP C rs n T h = rB C rs sl h := by
 have key : ∀ l, ES C n T h l = iQ C sl h l := by
  intro l
  induction l with
  | nil => rfl
  | cons r l ih =>
   simp only [ES, iQ, ih]
   have : MA C n T h r = jM C sl h r := by
    cases r <;> simp only [MA, jM, mL s] <;> rfl
   rw [this]
   rfl
 unfold RP rB
 rw [key]
 rfl
abbrev lP := FuncId → zU
def ET (C : Cfg) (ap : lP) (call : fA) : fA := fun f args h => match C.fns f with
 | some fn => match fn.body with
  | some c => match Nat.ble args.length fn.ntmps && Nat.ble fn.ntmps 1024 with
   | true => ER args 0 (TT.full (oR fn.ntmps)) fun T => match kL C call (ap f) fn.ntmps c T h with
    | some (.normal, T, h1) => match RP C fn.results fn.ntmps T h1 with
     | some x => match C.kJ f with
      | true => fD 40 x fun x => fH h1 fun h1 => some (x, h1)
      | false => V5 h.length x h1
     | none => none
    | some (.ret, T, h1) => match RP C fn.results fn.ntmps T h1 with
     | some x => match C.kJ f with
      | true => fD 40 x fun x => fH h1 fun h1 => some (x, h1)
      | false => V5 h.length x h1
     | none => none
    | _ => none
   | false => none
  | none => none
 | none => none
def p8 (C : Cfg) (ap : lP) : Nat → fA
 | 0 => fun _ _ _ => none
 | k + 1 => ET C ap (p8 C ap k)
abbrev R6 := List (FuncId × List AV × c6 × AV × c6)
def V6 : R6 → FuncId → List AV → c6 → Option (AV × c6)
 | [], _, _, _ => none
 | (g, as1, l, x, l') :: rest, f, args, h => match Nat.beq g f && (xQ.eqL (xQ 40) as1 args && aD l h) with
  | true => some (x, l')
  | false => V6 rest f args h
def xR (tab : R6) (call : fA) : fA := fun f args h => match V6 tab f args h with
 | some r => some r
 | none => call f args h
theorem EU {f : FuncId} {args : List AV} {h : c6} {x : AV} {h1 : c6} {y : AV} {h2 : c6} (r : CallA P C f args h fun a b => a = x ∧ b = h1) (he : V5 h.length x h1 = some (y, h2)) : CallA P C f args h fun a b => a = y ∧ b = h2 := by
 unfold V5 at he
 simp only [U4, LV] at he
 split at he
 ·rename_i z hz
  split at he
  ·rename_i k hk
   simp only [Option.some.injEq, Prod.mk.injEq] at he
   obtain ⟨rfl, rfl⟩ := he
   exact r.frz fun a b ⟨e1, e2⟩ => by subst e1 e2; exact ⟨_, _, hz, hk, rfl, rfl⟩
  ·simp only [Option.some.injEq, Prod.mk.injEq] at he
   obtain ⟨rfl, rfl⟩ := he
   exact r
 ·simp only [Option.some.injEq, Prod.mk.injEq] at he
  obtain ⟨rfl, rfl⟩ := he
  exact r
def vE (C : Cfg) (ap : lP) : Prop := ∀ f fn c, C.fns f = some fn → fn.body = some c → dB (ap f) fn.ntmps c = true
theorem mM (g : Good P C) {ap : lP} (hp : vE C ap) {call : fA} (ih : call.ok P C) : (ET C ap call).ok P C := by
 intro f args h x h' he
 simp only [ET] at he
 split at he
 ·rename_i fn hf
  split at he
  ·rename_i c hb
   split at he
   ·rename_i hn
    simp only [Bool.and_eq_true, Nat.ble_eq] at hn
    rw [F4] at he
    have hd : fn.ntmps ≤ 2 ^ oR fn.ntmps := by
     unfold oR
     split
     ·rename_i h1; rw [Nat.ble_eq] at h1; omega
     ·split
      ·rename_i h1; rw [Nat.ble_eq] at h1; omega
      ·omega
    have s0 : Sl (oR fn.ntmps) fn.ntmps (TT.full (oR fn.ntmps)) (List.replicate fn.ntmps .any) := by
     refine ⟨by simp, hd, TT.rO _, fun t ht => ?_⟩
     rw [TT.F0, List.getD_eq_getElem?_getD, List.getElem?_replicate]
     split <;> rfl
    have s1 := V4 args 0 _ _ s0 (by omega) (fun t _ => by
     rw [List.getD_eq_getElem?_getD, List.getElem?_replicate]
     split <;> rfl)
    rw [List.take_zero, List.nil_append, Nat.sub_zero] at s1
    have fin : ∀ (e : Exit) (T : TT) (h1 : c6), (e = .normal ∨ e = .ret) → kL C call (ap f) fn.ntmps c (fill args 0 (TT.full (oR fn.ntmps))) h = some (e, T, h1) →
      (match RP C fn.results fn.ntmps T h1 with
       | some x => match C.kJ f with
        | true => fD 40 x fun x => fH h1 fun h1 => some (x, h1)
        | false => V5 h.length x h1
       | none => none) = some (x, h') → CallA P C f args h fun y k => y = x ∧ k = h' := by
     intro e T h1 hen hc hr
     split at hr
     ·rename_i z hz
      have r := EP g ih c (hp f fn c hf hb) _ _ h e T h1 s1 hc
      have key : CallA P C f args h fun a b => a = z ∧ b = h1 := by
       refine CallA.kJ g hf hb (r.mono ?_)
       rintro e' st ⟨rfl, s2, rfl⟩
       rw [resT_eq s2] at hz
       rcases hen with rfl | rfl
       ·exact ⟨z, hz, rfl, rfl⟩
       ·exact ⟨z, hz, rfl, rfl⟩
      split at hr
      ·rw [U4, LV] at hr
       cases hr
       exact key
      ·exact EU key hr
     ·cases hr
    split at he
    ·rename_i T h1 hc
     exact fin .normal T h1 (.inl rfl) hc he
    ·rename_i T h1 hc
     exact fin .ret T h1 (.inr rfl) hc he
    ·cases he
   ·cases he
  ·cases he
 ·cases he
theorem vF (g : Good P C) {ap : lP} (hp : vE C ap) : ∀ k, (p8 C ap k).ok P C
 | 0 => fun f args h x h' he => by simp [p8] at he
 | k + 1 => mM g hp (vF g hp k)
def kY (P : Program) (C : Cfg) (tab : R6) : Prop := ∀ f args h x h', (f, args, h, x, h') ∈ tab → CallA P C f args h fun y k => y = x ∧ k = h'
theorem EV : kY P C [] := fun f args h x h' hm => by simp at hm
theorem kZ {tab : R6} {f : FuncId} {args : List AV} {h : c6} {x : AV} {h' : c6} {call : fA} (hc : call.ok P C) (he : call f args h = some (x, h')) (hm : kY P C tab) : kY P C ((f, args, h, x, h') :: tab) := by
 intro f2 a2 h2 x2 k2 hmem
 rcases List.mem_cons.1 hmem with h | h
 ·cases h
  exact hc _ _ _ _ _ he
 ·exact hm _ _ _ _ _ h
theorem lQ {tab : R6} {call : fA} (hm : kY P C tab) (hc : call.ok P C) : (xR tab call).ok P C := by
 have key : ∀ (t : R6), kY P C t → ∀ f args h r, V6 t f args h = some r → CallA P C f args h fun y k => y = r.1 ∧ k = r.2 := by
  intro t
  induction t with
  | nil => intro _ f args h r hr; simp [V6] at hr
  | cons e t ih =>
   obtain ⟨g, as1, l, x, l'⟩ := e
   intro ht f args h r hr
   simp only [V6] at hr
   split at hr
   ·rename_i hb
    simp only [Bool.and_eq_true] at hb
    have h1 := Nat.eq_of_beq_eq_true hb.1
    have h2 := rP (rQ 40) _ _ hb.2.1
    have h3 := nH hb.2.2
    subst h1 h2 h3
    cases hr
    exact ht _ _ _ _ _ List.mem_cons_self
   ·exact ih (fun f args h x h' hm => ht f args h x h' (List.mem_cons_of_mem _ hm)) f args h r hr
 intro f args h x h' he
 unfold xR at he
 split at he
 ·rename_i r hr
  cases he
  exact key tab hm f args h _ hr
 ·exact hc f args h x h' he
def AV.scalar : AV → Bool
 | .bool _ | .int _ _ | .str _ => true
 | _ => false
theorem CallA.frame0 {f : FuncId} {x : AV} (hx : x.scalar = true) (r : CallA P C f [] [] fun y h' => y = x ∧ h' = []) (h : c6) : CallA P C f [] h fun y h' => y = x ∧ h' = h := by
 intro B φ w cargs i hs hr
 have hst : ∀ k, k < w.heap.size → M9 [] φ w k := fun k hk => ⟨hk, fun β b hb => by simp at hb⟩
 have i0 : Pic C.eD w.heap.size [] φ w := ⟨fun β b hb => by simp at hb, fun β β' b b' hb => by simp at hb, fun β b hb => by simp at hb, fun β b hb => by simp at hb, Nat.le_refl _, fun g => (i.eD g).mono fun k j hk => ⟨rfl, (hst k hk.1).S1 j⟩⟩
 refine (r w.heap.size φ w cargs i0 hs (fun j v x h1 h2 => by simp at h2)).mono fun e w' hp => ?_
 obtain ⟨v, y, h', φ', rfl, h1, h2, h3, rfl, rfl⟩ := hp
 have hk : ∀ k, k < w.heap.size → w'.heap[k]? = w.heap[k]? := fun k hk => (h2.kJ k (hst k hk)).1
 have ev : Ev h φ w h φ w' := ⟨h2.os, h2.tape, h2.output, h2.size, fun k hs => ⟨hk k hs.1, Nat.lt_of_lt_of_le hs.1 h2.size, hs.2⟩, fun k j hs => ⟨World.cell?_of_block (hk k hs.1), Nat.lt_of_lt_of_le hs.1 h2.size, hs.2⟩, Nat.le_refl _, fun β b b' e1 e2 => by rw [e1] at e2; cases e2; exact ⟨Nat.le_refl _, fun _ => ⟨rfl, rfl, rfl⟩⟩⟩
 refine ⟨v, y, h, φ, rfl, ⟨fun β b hb hv => ?_, i.inj, i.base, i.cJ, Nat.le_trans i.room h2.size, fun g => ev.zL (i.eD g)⟩, ev, ?_, rfl, rfl⟩
 ·obtain ⟨cur, q1, q2, q3, q4⟩ := i.blk β b hb hv
  exact ⟨cur, (hk _ (Array.getElem?_eq_some_iff.1 q1).1).trans q1, q2, q3, fun j v x a d => ⟨(q4 j v x a d).1, ev.rel (q4 j v x a d).2⟩⟩
 ·cases y with
  | bool b => cases h3.aU; exact .bD _
  | int k n => cases h3.u4; exact .bU _ _
  | str s => cases h3.dT; exact .mY _
  | _ => cases hx
def zV : List (Nat × s7) → zU
 | [], _ => none
 | (i, p) :: rest, id => match Nat.beq i id with
  | true => some p
  | false => zV rest id
def qF : List (Nat × List (Nat × s7)) → FuncId → zU
 | [], _ => fun _ => none
 | (g, l) :: rest, f => match Nat.beq g f with
  | true => zV l
  | false => qF rest f
def vG (C : Cfg) (tab : List (Nat × List (Nat × s7))) : Bool :=
 tab.all fun x => match C.fns x.1 with
  | some fn => match fn.body with
   | some c => dB (zV x.2) fn.ntmps c
   | none => true
  | none => true
theorem xS (n : Nat) : ∀ c, dB (fun _ => none) n c = true := by
 intro c
 induction c with
 | region id ops draw => cases draw <;> rfl
 | seq a b iha ihb => simp only [dB, iha, ihb, Bool.and_self]
 | cond c x y ihx ihy => simp only [dB, ihx, ihy, Bool.and_self]
 | block id c ih => exact ih
 | loop c ih => exact ih
 | _ => rfl
theorem O1 {C : Cfg} {tab : List (Nat × List (Nat × s7))} (h : vG C tab = true) : vE C (fun f => qF tab f) := by
 intro f fn c hf hb
 induction tab with
 | nil => exact xS _ _
 | cons x rest ih =>
  obtain ⟨g, l⟩ := x
  simp only [vG, List.all_cons, Bool.and_eq_true] at h
  simp only [qF]
  split
  ·rename_i hg
   have hg' := Nat.eq_of_beq_eq_true hg
   subst hg'
   have := h.1
   rw [hf] at this
   simp only [hb] at this
   exact this
  ·exact ih h.2
end
end Go.Ab
end
section
namespace Go.Ab
section
variable {P : Program} {C : Cfg} {G : Nat → AV} {B : Nat} {h : c6} {φ : Map} {w : World}
def bX (n : Nat) (h : c6) : c6 := h.take n ++ (h.drop n).map oK
theorem xT (n : Nat) (h : c6) : (bX n h).length = h.length := by
 simp [bX]
 omega
theorem dC {n β : Nat} {c : Blk} (hc : (bX n h)[β]? = some c) : (β < n ∧ h[β]? = some c) ∨ (n ≤ β ∧ ∃ b, h[β]? = some b ∧ c = oK b) := by
 unfold bX at hc
 by_cases hb : β < n
 ·left
  refine ⟨hb, ?_⟩
  by_cases hl : β < h.length
  ·rw [List.getElem?_append_left t59, List.getElem?_take, if_pos hb] at hc
   exact hc
  ·rw [List.getElem?_eq_none t59] at hc
   cases hc
 ·right
  refine ⟨by omega, ?_⟩
  by_cases hl : n ≤ h.length
  ·rw [List.getElem?_append_right t59] at hc
   simp only [List.length_take, Nat.min_eq_left hl, List.getElem?_map, List.getElem?_drop] at hc
   rw [show n + (β - n) = β from by omega] at hc
   cases hx : h[β]? with
   | none => rw [hx] at hc; cases hc
   | some b => rw [hx] at hc; exact ⟨b, rfl, (Option.some.inj hc).symm⟩
  ·rw [List.getElem?_eq_none t59] at hc
   cases hc
theorem V7 {n β : Nat} {b : Blk} (hb : h[β]? = some b) : (bX n h)[β]? = some (if β < n then b else oK b) := by
 have hl := (List.getElem?_eq_some_iff.1 hb).1
 unfold bX
 by_cases hn : β < n
 ·rw [if_pos hn, List.getElem?_append_left t59, List.getElem?_take, if_pos hn]
  exact hb
 ·rw [if_neg hn, List.getElem?_append_right t59]
  have hl2 : n ≤ h.length := by omega
  simp only [List.length_take, Nat.min_eq_left hl2, List.getElem?_map, List.getElem?_drop]
  rw [show n + (β - n) = β from by omega, hb]
  rfl
theorem F5 (n : Nat) (i : Pic G B h φ w) : Pic G B (bX n h) φ w ∧ Ev h φ w (bX n h) φ w := by
 have ev : Ev h φ w (bX n h) φ w := by
  refine ⟨rfl, rfl, rfl, Nat.le_refl _, fun k hk => ⟨rfl, hk.1, fun β b hb hv => ?_⟩, fun k j hk => ⟨rfl, hk.1, fun β b hb hv => ?_⟩, by rw [xT]; exact Nat.le_refl _, fun β b b' h1 h2 => ?_⟩
  ·rcases dC hb with ⟨_, h'⟩ | ⟨_, b', _, rfl⟩
   ·exact hk.2 β b h' hv
   ·cases hv
  ·rcases dC hb with ⟨_, h'⟩ | ⟨_, b', _, rfl⟩
   ·exact hk.2 β b h' hv
   ·cases hv
  ·rw [V7 h1] at h2
   split at h2
   ·cases h2
    exact ⟨Nat.le_refl _, fun _ => ⟨rfl, rfl, rfl⟩⟩
   ·cases h2
    exact ⟨by simp [oK], fun e => by simp [oK] at e⟩
 refine ⟨⟨fun β b hb hv => ?_, fun β β' b b' hb hb' hv hv' he => ?_, fun β b hb hv => ?_, fun β b hb hv => ?_, i.room, fun g => ev.zL (i.eD g)⟩, ev⟩
 ·rcases dC hb with ⟨_, h'⟩ | ⟨_, b', _, rfl⟩
  ·obtain ⟨cur, h1, h2, h3, h4⟩ := i.blk β b h' hv
   exact ⟨cur, h1, h2, h3, fun j v x a d => ⟨(h4 j v x a d).1, ev.rel (h4 j v x a d).2⟩⟩
  ·cases hv
 ·rcases dC hb with ⟨_, h1⟩ | ⟨_, c, _, rfl⟩
  ·rcases dC hb' with ⟨_, h2⟩ | ⟨_, c, _, rfl⟩
   ·exact i.inj β β' b b' h1 h2 hv hv' he
   ·cases hv'
  ·cases hv
 ·rcases dC hb with ⟨_, h'⟩ | ⟨_, b', _, rfl⟩
  ·exact i.base β b h' hv
  ·cases hv
 ·rcases dC hb with ⟨_, h'⟩ | ⟨_, b', _, rfl⟩
  ·exact i.cJ β b h' hv
  ·rfl
theorem zW {n k j : Nat} (hk : dO (h.take n) φ w k j) : dO (bX n h) φ w k j := by
 refine ⟨hk.1, fun β b hb hv => ?_⟩
 rcases dC hb with ⟨hn, h'⟩ | ⟨_, b', _, rfl⟩
 ·exact hk.2 β b (nF h' hn) hv
 ·cases hv
def DL (n : Nat) (h : c6) (x : AV) : Option AV :=
 match x with
 | .agg xs => (l9 (gG n h 6) xs).map .agg
 | .tup xs => (l9 (gG n h 6) xs).map .tup
 | .ptr β g off => match h[β]? with
  | some b => if b.gen = g ∧ b.cJ = false ∧ n ≤ β then (l9 (gG n h 6) b.cells).map (fun cs => .jK cs off) else none
  | none => none
 | x => gG n h 6 x
theorem F6 (i : Pic G B h φ w) (n : Nat) {v : Value} {x y : AV} (hx : DL n h x = some y) (r : Rel h φ w v x) : Rel (bX n h) φ w v y := by
 have low : ∀ {v : Value} {x y : AV}, gG n h 6 x = some y → Rel h φ w v x → kE w (dO (bX n h) φ w) v y := fun h1 h2 => (uY i n 6 _ _ _ h1 h2).mono fun k j hk => ⟨rfl, zW hk⟩
 unfold DL at hx
 split at hx
 ·rename_i xs
  obtain ⟨ys, hys, rfl⟩ := Option.map_eq_some_iff.1 hx
  obtain ⟨a, rfl, ha, h1, hr⟩ := r.iR
  obtain ⟨hlen, hget⟩ := eG hys
  refine .agg a ys (by rw [ha, hlen]) h1 fun j u z hu hz => ?_
  obtain ⟨x, hx1, hx2⟩ := hget j z hz
  exact .pure (low hx2 (hr j u x hu hx1))
 ·rename_i xs
  obtain ⟨ys, hys, rfl⟩ := Option.map_eq_some_iff.1 hx
  obtain ⟨a, rfl, ha, hr⟩ := r.kQ
  obtain ⟨hlen, hget⟩ := eG hys
  refine .tup a ys (by rw [ha, hlen]) fun j u z hu hz => ?_
  obtain ⟨x, hx1, hx2⟩ := hget j z hz
  exact .pure (low hx2 (hr j u x hu hx1))
 ·rename_i β g off
  split at hx
  ·rename_i b hb
   split at hx
   ·rename_i hc
    obtain ⟨hg, hv, hn⟩ := hc
    obtain ⟨cs, hcs, rfl⟩ := Option.map_eq_some_iff.1 hx
    obtain ⟨bl, b', rfl, hb', hg2, hbl⟩ := r.oM
    rw [hb] at hb'
    cases hb'
    have := hbl hg.symm hv
    subst this
    obtain ⟨cur, hw, hsz, hl, hr⟩ := i.blk β b hb hv
    obtain ⟨hlen, hget⟩ := eG hcs
    refine .pure ?_
    have e : ({ block := (φ β).1, off := off, spot := none } : Addr) = ⟨(φ β).1, 0 + off, none⟩ := by rw [Nat.zero_add]
    rw [e]
    refine .jK (φ β).1 0 off cs (cur.toList.take b.cells.length) (fun m hm => ⟨i.lt hb hv, fun γ c hγ hcv he => ?_⟩) t59 (fun j u hu => ?_) (fun j u z hu hz => ?_)
    ·rcases dC hγ with ⟨hγn, hγ'⟩ | ⟨_, b', _, rfl⟩
     ·have := i.inj γ β c b hγ' hb hcv hv he
      omega
     ·cases hcv
    ·rw [List.getElem?_take] at hu
     split at hu
     ·rename_i hj
      have hu' : cur[j]? = some u := by simpa using hu
      refine ⟨by rw [Nat.zero_add, cell_of_row w _ _ cur _ _ hw]; exact hu', ?_⟩
      exact (hr j u b.cells[j] hu' (List.getElem?_eq_getElem hj)).1
     ·cases hu
    ·obtain ⟨x, hx1, hx2⟩ := hget j z hz
     rw [List.getElem?_take] at hu
     split at hu
     ·exact low hx2 (hr j u x t92 hx1).2
     ·cases hu
   ·cases hx
  ·cases hx
 ·exact .pure (low hx r)
def EW (n : Nat) (h : c6) : List AV → List AV → Prop
 | [], [] => True
 | y :: ys, x :: xs => (y = .any ∨ DL n h x = some y) ∧ EW n h ys xs
 | _, _ => False
theorem EW.get {n : Nat} {h : c6} : ∀ {ys xs : List AV}, EW n h ys xs → ys.length = xs.length ∧ ∀ t, ys.getD t .any = .any ∨ DL n h (xs.getD t .any) = some (ys.getD t .any)
 | [], [], _ => ⟨rfl, fun t => .inl rfl⟩
 | y :: ys, x :: xs, hf => by
  obtain ⟨h1, h2⟩ := hf
  obtain ⟨k1, k2⟩ := EW.get h2
  refine ⟨by simp [k1], fun t => ?_⟩
  match t with
  | 0 => simpa using h1
  | t + 1 => simpa using k2 t
 | [], _ :: _, hf => hf.elim
 | _ :: _, [], hf => hf.elim
theorem rel_nil {v : Value} {x : AV} (r : Rel h φ w v x) : Refs 0 x → Rel [] φ w v x := by
 have hst : ∀ k j, dO h φ w k j → dO [] φ w k j := fun k j hk => ⟨hk.1, fun β b hb => by simp at hb⟩
 induction r with
 | pure hp => exact fun _ => .pure (hp.mono fun k j hk => ⟨rfl, hst k j hk⟩)
 | ptr β g off bl b hb hg hv => intro hx; cases hx with | ptr _ _ _ hl => omega
 | own β g off len cap ad b hb hg hlc hcm had hn hv => intro hx; cases hx with | own _ _ _ _ hl => omega
 | fn f a c xs ys ha hc _ _ iha ihc =>
  intro hx
  cases hx with
  | fn _ _ _ h1 h2 => exact .fn f a c xs ys ha hc (fun j v x k1 k2 => iha j v x k1 k2 (h1 x (List.mem_of_getElem? k2))) (fun j v x k1 k2 => ihc j v x k1 k2 (h2 x (List.mem_of_getElem? k2)))
 | iface t v x _ ih =>
  intro hx
  cases hx with
  | iface _ _ h1 => exact .iface t v x (ih h1)
 | agg a xs ha h1 _ ih =>
  intro hx
  cases hx with
  | agg _ h2 => exact .agg a xs ha h1 fun j v x k1 k2 => ih j v x k1 k2 (h2 x (List.mem_of_getElem? k2))
 | tup a xs ha _ ih =>
  intro hx
  cases hx with
  | tup _ h2 => exact .tup a xs ha fun j v x k1 k2 => ih j v x k1 k2 (h2 x (List.mem_of_getElem? k2))
def RR : AV → AV
 | .bool b => .bool b
 | .int k n => .int k n
 | .str s => .str s
 | .tup xs => .tup (xs.map fun x => match x with
  | .bool b => .bool b
  | .int k n => .int k n
  | .str s => .str s
  | _ => .any)
 | _ => .any
theorem F7 {h1 h2 : c6} {φ1 φ2 : Map} {w : World} {v : Value} {x : AV} (r : Rel h1 φ1 w v x) : Rel h2 φ2 w v (RR x) := by
 unfold RR
 split
 ·cases r.aU; exact .bD _
 ·cases r.u4; exact .bU _ _
 ·cases r.dT; exact .mY _
 ·rename_i xs
  obtain ⟨a, rfl, ha, hr⟩ := r.kQ
  refine .tup a _ (by simp [ha]) fun j u z hu hz => ?_
  rw [List.getElem?_map] at hz
  cases hx : xs[j]? with
  | none => rw [hx] at hz; cases hz
  | some x =>
   rw [hx] at hz
   simp only [Option.map_some, Option.some.injEq] at hz
   subst hz
   have := hr j u x hu hx
   split
   ·cases this.aU; exact .bD _
   ·cases this.u4; exact .bU _ _
   ·cases this.dT; exact .mY _
   ·exact .iG _
 ·exact .iG _
end
end Go.Ab
end
section
namespace Go.Ab
section
variable {P : Program} {C : Cfg} {G : Nat → AV} {B : Nat} {h : c6} {φ : Map} {w : World}
def eT (b : Blk) (k : Nat) : Blk := { b with frz := max b.frz k }
theorem gK {β γ k : Nat} {b c : Blk} (hb : h[β]? = some b) (hc : (h.set β (eT b k))[γ]? = some c) : (γ = β ∧ c = eT b k) ∨ (γ ≠ β ∧ h[γ]? = some c) := by
 have hl := (List.getElem?_eq_some_iff.1 hb).1
 by_cases e : γ = β
 ·subst e
  rw [List.getElem?_set_self hl] at hc
  exact .inl ⟨rfl, by simpa using hc.symm⟩
 ·rw [List.getElem?_set_ne (Ne.symm e)] at hc
  exact .inr ⟨e, hc⟩
theorem nI {β : Nat} {b : Blk} (k : Nat) (i : Pic G B h φ w) (hb : h[β]? = some b) : Pic G B (h.set β (eT b k)) φ w ∧ Ev h φ w (h.set β (eT b k)) φ w := by
 have ev : Ev h φ w (h.set β (eT b k)) φ w := by
  refine ⟨rfl, rfl, rfl, Nat.le_refl _, fun j hj => ⟨rfl, hj.1, fun γ c hc hv => ?_⟩, fun j m hj => ⟨rfl, hj.1, fun γ c hc hv he => ?_⟩, by simp, fun γ c c' h1 h2 => ?_⟩
  ·rcases gK hb hc with ⟨rfl, rfl⟩ | ⟨_, hc'⟩
   ·exact hj.2 _ b hb hv
   ·exact hj.2 γ c hc' hv
  ·rcases gK hb hc with ⟨rfl, rfl⟩ | ⟨_, hc'⟩
   ·exact Nat.lt_of_lt_of_le (hj.2 _ b hb hv he) (Nat.le_max_left _ _)
   ·exact hj.2 γ c hc' hv he
  ·rcases gK hb h2 with ⟨rfl, rfl⟩ | ⟨_, h2'⟩
   ·rw [hb] at h1
    cases h1
    exact ⟨Nat.le_refl _, fun _ => ⟨rfl, rfl, rfl⟩⟩
   ·rw [h1] at h2'
    cases h2'
    exact ⟨Nat.le_refl _, fun _ => ⟨rfl, rfl, rfl⟩⟩
 refine ⟨⟨fun γ c hc hv => ?_, fun γ γ' c c' hc hc' hv hv' he => ?_, fun γ c hc hv => ?_, fun γ c hc hv => ?_, i.room, fun g => ev.zL (i.eD g)⟩, ev⟩
 ·rcases gK hb hc with ⟨rfl, rfl⟩ | ⟨_, hc'⟩
  ·obtain ⟨cur, h1, h2, h3, h4⟩ := i.blk _ b hb hv
   exact ⟨cur, h1, h2, h3, fun j v x a d => ⟨(h4 j v x a d).1, ev.rel (h4 j v x a d).2⟩⟩
  ·obtain ⟨cur, h1, h2, h3, h4⟩ := i.blk γ c hc' hv
   exact ⟨cur, h1, h2, h3, fun j v x a d => ⟨(h4 j v x a d).1, ev.rel (h4 j v x a d).2⟩⟩
 ·rcases gK hb hc with ⟨rfl, rfl⟩ | ⟨n1, k1⟩ <;> rcases gK hb hc' with ⟨rfl, rfl⟩ | ⟨n2, k2⟩
  ·rfl
  ·exact i.inj _ _ b c' hb k2 hv hv' he
  ·exact i.inj _ _ c b k1 hb hv hv' he
  ·exact i.inj _ _ c c' k1 k2 hv hv' he
 ·rcases gK hb hc with ⟨rfl, rfl⟩ | ⟨_, hc'⟩
  ·exact i.base _ b hb hv
  ·exact i.base γ c hc' hv
 ·rcases gK hb hc with ⟨rfl, rfl⟩ | ⟨_, hc'⟩
  ·exact i.cJ _ b hb hv
  ·exact i.cJ γ c hc' hv
theorem vH {β g off len : Nat} {b : Blk} {cs : List AV} {v : Value} (i : Pic G B h φ w) (hb : h[β]? = some b) (hg : b.gen = g) (hv : b.cJ = false) (hle : off + len * b.esz ≤ b.cells.length)
  (hc : l9 iS ((b.cells.drop off).take (len * b.esz)) = some cs) (r : Rel h φ w v (.own β g off len)) : Rel (h.set β (eT b (off + len * b.esz))) φ w v (.vec len cs) := by
 obtain ⟨hlen, hget⟩ := eG hc
 obtain ⟨ad, cap, b', rfl, hb', hg2, hlc, hcm, had, hn, hvv⟩ := r.jN
 rw [hb] at hb'
 cases hb'
 obtain ⟨rfl, _⟩ := hvv hg.symm hv
 obtain ⟨cur, hw, hs, hl, hr⟩ := i.blk β b hb hv
 obtain ⟨i', ev⟩ := nI (off + len * b.esz) i hb
 have hlen' : cs.length = len * b.esz := by rw [hlen]; simp; omega
 have hvl : ((cur.toList.drop off).take (len * b.esz)).length = len * b.esz := by simp; omega
 refine .pure (.vec (φ β).1 off len cap cs ((cur.toList.drop off).take (len * b.esz)) (fun m hm => ⟨i.lt hb hv, fun γ c hγ hcv he => ?_⟩) hlc (by rw [hlen']; simp; omega) (fun j u hu => ?_) (fun j u z hu hz => ?_))
 ·rcases gK hb hγ with ⟨rfl, rfl⟩ | ⟨hne, h1⟩
  ·rw [hvl] at hm
   exact Nat.lt_of_lt_of_le (by omega) (Nat.le_max_right _ _)
  ·exact absurd (i.inj γ β c b h1 hb hcv hv he) hne
 ·rw [List.getElem?_take, List.getElem?_drop] at hu
  split at hu
  ·rename_i hj
   have hu' : cur[off + j]? = some u := by simpa using hu
   refine ⟨by rw [cell_of_row w _ _ cur _ _ hw]; exact hu', ?_⟩
   have hjc : off + j < b.cells.length := by omega
   exact (hr (off + j) u b.cells[off + j] hu' (List.getElem?_eq_getElem hjc)).1
  ·cases hu
 ·obtain ⟨x, hx1, hx2⟩ := hget j z hz
  rw [List.getElem?_take, List.getElem?_drop] at hu hx1
  split at hu
  ·rename_i hj
   rw [if_pos hj] at hx1
   exact ev.zL (T9 hx2 (hr (off + j) u x t92 hx1).2)
  ·cases hu
theorem CallA.V8 {f : FuncId} {args args' : List AV} {Q : AV → c6 → Prop} {β off len : Nat} {b : Blk} {cs : List AV} (hb : h[β]? = some b) (hv : b.cJ = false) (hle : off + len * b.esz ≤ b.cells.length)
  (hc : l9 iS ((b.cells.drop off).take (len * b.esz)) = some cs) (ha : oQ β b.gen off len cs args' args) (r : CallA P C f args' (h.set β (eT b (off + len * b.esz))) Q) : CallA P C f args h Q := by
 intro B φ w cargs i hs hr
 obtain ⟨i', ev⟩ := nI (off + len * b.esz) i hb
 obtain ⟨k1, k2⟩ := ha.get
 refine (r B φ w cargs i' (by rw [k1]; exact hs) fun j v y h1 h2 => ?_).mono fun e w' ⟨v, x, h', φ', q1, q2, q3, q4, q5⟩ => ⟨v, x, h', φ', q1, q2, ev.trans q3, q4, q5⟩
 have hj : j < args.length := by rw [← k1]; exact (List.getElem?_eq_some_iff.1 h2).1
 have hx : args[j]? = some args[j] := List.getElem?_eq_getElem hj
 rcases k2 j y _ h2 hx with rfl | ⟨e1, rfl⟩
 ·exact ev.rel (hr j v _ h1 hx)
 ·exact vH i hb rfl hv hle hc (e1 ▸ hr j v _ h1 hx)
theorem CallA.borrow {f : FuncId} {args args' : List AV} {x : AV} (ha : EW 0 h args' args) (r : CallA P C f args' (bX 0 h) fun y _ => y = x) : CallA P C f args h fun y k => y = RR x ∧ k = h := by
 intro B φ w cargs i hs hr
 obtain ⟨i', _⟩ := F5 0 i
 obtain ⟨k1, k2⟩ := ha.get
 refine (r B φ w cargs i' (by rw [k1]; exact hs) fun j v y h1 h2 => ?_).mono fun e w' hp => ?_
 ·have hj : j < args.length := by rw [← k1]; exact (List.getElem?_eq_some_iff.1 h2).1
  have e1 : args'.getD j .any = y := by simp [List.getD, h2]
  have e2 : args.getD j .any = args[j] := by simp [List.getD, hj]
  rcases k2 j with h | h
  ·rw [e1] at h
   rw [h]; exact .iG _
  ·rw [e1, e2] at h
   exact F6 i 0 h (hr j v _ h1 (List.getElem?_eq_getElem hj))
 ·obtain ⟨v, y, h', φ', rfl, h1, h2, h3, rfl⟩ := hp
  have hfree : ∀ k, k < w.heap.size → M9 (bX 0 h) φ w k := fun k hk => ⟨hk, fun β b hb hv => by
   rcases dC hb with ⟨hn, _⟩ | ⟨_, b', _, rfl⟩
   ·omega
   ·cases hv⟩
  have hk : ∀ k, k < w.heap.size → w'.heap[k]? = w.heap[k]? := fun k hk => (h2.kJ k (hfree k hk)).1
  have ev : Ev h φ w h φ w' := ⟨h2.os, h2.tape, h2.output, h2.size, fun k hs => ⟨hk k hs.1, Nat.lt_of_lt_of_le hs.1 h2.size, hs.2⟩, fun k j hs => ⟨World.cell?_of_block (hk k hs.1), Nat.lt_of_lt_of_le hs.1 h2.size, hs.2⟩, Nat.le_refl _, fun β b b' e1 e2 => by rw [e1] at e2; cases e2; exact ⟨Nat.le_refl _, fun _ => ⟨rfl, rfl, rfl⟩⟩⟩
  refine ⟨v, _, h, φ, rfl, ⟨fun β b hb hv => ?_, i.inj, i.base, i.cJ, Nat.le_trans i.room h2.size, fun g => ev.zL (i.eD g)⟩, ev, F7 h3, rfl, rfl⟩
  obtain ⟨cur, q1, q2, q3, q4⟩ := i.blk β b hb hv
  exact ⟨cur, (hk _ (Array.getElem?_eq_some_iff.1 q1).1).trans q1, q2, q3, fun j v x a d => ⟨(q4 j v x a d).1, ev.rel (q4 j v x a d).2⟩⟩
end
end Go.Ab
end
section
namespace Go.Ab
section
variable {P : Program} {C : Cfg}
def pK : List Bool → List Nat → List c6 → (Nat → c6 → Prop) → Prop
 | true :: bs, D :: Ks, H :: Hs, f => f D H ∧ pK bs Ks Hs f
 | false :: bs, _ :: Ks, _ :: Hs, f => pK bs Ks Hs f
 | _, _, _, _ => True
def jL : List Bool → List c6 → (c6 → c6 → Prop) → List c6 → Prop
 | true :: bs, H :: Hs, f, N :: Ns => f H N ∧ jL bs Hs f Ns
 | true :: _, _ :: _, _, [] => False
 | false :: bs, _ :: Hs, f, Ns => jL bs Hs f Ns
 | [], [], _, [] => True
 | _, _, _, _ => False
def pL (i : Nat) : List Bool → List Nat → List Nat
 | true :: bs, D :: Ks => (D ||| 2 ^ i) :: pL i bs Ks
 | false :: bs, _ :: Ks => pL i bs Ks
 | _, _ => []
abbrev Pg := Nat × ((Nat → Option c6) → Nat → c6 → Prop)
def cY (P : Program) (C : Cfg) (p : s7) (b i : Nat) (o : Oper) (sl : List AV) (want : Bool) (x : AV) (look : Nat → Option c6) (D : Nat) (H : c6) : Prop :=
 ∃ H', (match want with
  | true => OpG P C ((p.place.getD i none).map (b + ·)) (rho C sl) H o.op fun y h => y = x ∧ h = H'
  | false => x = .tup [] ∧ H' = H) ∧ (p.isE i = true → look (D ||| 2 ^ i) = some H') ∧ (p.isE i = false → H' = H)
def u9 (P : Program) (C : Cfg) (ops : Array Oper) (p : s7) (b : Nat) : List Oper → Nat → List AV → List Nat → List c6 → List Pg → (St → Prop) → Prop
 | [], _, sl, Ks, Hs, pd, Q => (∀ q ∈ pd, ∀ D H, (D, H) ∈ Ks.zip Hs → p.fits q.1 D = true → q.2 (lookW (Ks.zip Hs)) D H) ∧ ∃ H, lookW (Ks.zip Hs) (p.full ops.size) = some H ∧ Q ⟨sl, H⟩
 | o :: rest, i, sl, Ks, Hs, pd, Q => ∃ want x Ns, s6 ops sl o = some want ∧
   (p.isE i = false → Ns = []) ∧ (p.isE i = true → jL (Ks.map (p.fits i)) Hs (fun H N => match want with
    | true => OpG P C ((p.place.getD i none).map (b + ·)) (rho C sl) H o.op fun y h => y = x ∧ h = N
    | false => x = .tup [] ∧ N = H) Ns) ∧
   (p.isE i = false → (∀ H, match want with
    | true => OpG P C ((p.place.getD i none).map (b + ·)) (rho C sl) H o.op fun y h => y = x ∧ h = H
    | false => x = .tup []) ∨ pK (Ks.map (p.fits i)) Ks Hs fun _ H => match want with
    | true => OpG P C ((p.place.getD i none).map (b + ·)) (rho C sl) H o.op fun y h => y = x ∧ h = H
    | false => x = .tup []) ∧
   (want = false → x = .tup []) ∧
   ∃ pd', (pd' = (i, cY P C p b i o sl want x) :: pd ∨ (pd' = pd ∧ (p.jP.contains i = false ∨ p.isE i = false ∧ ∀ H, match want with
    | true => OpG P C ((p.place.getD i none).map (b + ·)) (rho C sl) H o.op fun y h => y = x ∧ h = H
    | false => x = .tup []))) ∧
   u9 P C ops p b rest (i + 1) (cZ sl o.dst x) ((match p.isE i with | true => pL i (Ks.map (p.fits i)) Ks | false => []) ++ Ks) (Ns ++ Hs) pd' Q
theorem vI {f : Nat → c6 → Prop} : ∀ {bs : List Bool} {Ks : List Nat} {Hs : List c6}, bs.length = Ks.length → pK bs Ks Hs f → ∀ (D : Nat) (H : c6) (j : Nat), Ks[j]? = some D → Hs[j]? = some H → bs[j]? = some true → f D H
 | [], Ks, Hs, hl, _, D, H, j, h1, _, h3 => by simp at h3
 | b :: bs, [], Hs, hl, _, D, H, j, h1, _, _ => by simp at h1
 | b :: bs, K :: Ks, [], hl, _, D, H, j, _, h2, _ => by simp at h2
 | b :: bs, K :: Ks, G :: Hs, hl, h, D, H, j, h1, h2, h3 => by
  match j with
  | 0 =>
   simp at h1 h2 h3
   subst h1 h2 h3
   exact h.1
  | j + 1 =>
   have h' : pK bs Ks Hs f := by
    cases b with
    | true => exact h.2
    | false => exact h
   exact vI (by simpa using hl) h' D H j t97 t85 (by simpa using h3)
theorem nJ {f : c6 → c6 → Prop} {i : Nat} : ∀ {bs : List Bool} {Ks : List Nat} {Hs Ns : List c6}, bs.length = Ks.length → Ks.length = Hs.length → jL bs Hs f Ns →
  (pL i bs Ks).length = Ns.length ∧ (∀ D H, (D, H) ∈ Ks.zip Hs → (∃ j : Nat, Ks[j]? = some D ∧ Hs[j]? = some H ∧ bs[j]? = some true) → ∃ N, f H N ∧ (D ||| 2 ^ i, N) ∈ (pL i bs Ks).zip Ns) ∧ (∀ K ∈ pL i bs Ks, ∃ D ∈ Ks, K = D ||| 2 ^ i)
 | [], [], [], [], _, _, _ => ⟨rfl, fun D H h => by simp at h, fun K hK => by simp [pL] at hK⟩
 | [], [], [], N :: Ns, _, _, h => by simp [jL] at h
 | true :: bs, K :: Ks, G :: Hs, N :: Ns, h1, h2, h => by
  obtain ⟨k1, k2, k3⟩ := nJ (i := i) t97 t85 h.2
  refine ⟨by simp [pL, k1], fun D H hm ⟨j, j1, j2, j3⟩ => ?_, fun E hE => ?_⟩
  ·match j with
   | 0 =>
    simp at j1 j2
    subst j1 j2
    exact ⟨N, h.1, by simp [pL]⟩
   | j + 1 =>
    simp only [List.getElem?_cons_succ] at j1 j2 j3
    obtain ⟨M, m1, m2⟩ := k2 D H (List.mem_of_getElem? (i := j) (by simp [List.getElem?_zip_eq_some, j1, j2])) ⟨j, j1, j2, j3⟩
    exact ⟨M, m1, by simp only [pL, List.zip_cons_cons]; exact List.mem_cons_of_mem _ m2⟩
  ·simp only [pL] at hE
   rcases List.mem_cons.1 hE with rfl | hE
   ·exact ⟨K, List.mem_cons_self, rfl⟩
   ·obtain ⟨D, d1, d2⟩ := k3 E hE
    exact ⟨D, List.mem_cons_of_mem _ d1, d2⟩
 | true :: bs, K :: Ks, G :: Hs, [], h1, h2, h => by simp [jL] at h
 | false :: bs, K :: Ks, G :: Hs, Ns, h1, h2, h => by
  have h' : jL bs Hs f Ns := by simpa only [jL] using h
  obtain ⟨k1, k2, k3⟩ := nJ (i := i) (bs := bs) (Ks := Ks) t97 t85 h'
  refine ⟨by simpa [pL] using k1, fun D H hm ⟨j, j1, j2, j3⟩ => ?_, fun E hE => ?_⟩
  ·match j with
   | 0 => simp at j3
   | j + 1 =>
    simp only [List.getElem?_cons_succ] at j1 j2 j3
    obtain ⟨M, m1, m2⟩ := k2 D H (List.mem_of_getElem? (i := j) (by simp [List.getElem?_zip_eq_some, j1, j2])) ⟨j, j1, j2, j3⟩
    exact ⟨M, m1, by simpa only [pL] using m2⟩
  ·simp only [pL] at hE
   obtain ⟨D, d1, d2⟩ := k3 E hE
   exact ⟨D, List.mem_cons_of_mem _ d1, d2⟩
 | [], K :: Ks, _, _, h1, _, _ => by simp at h1
 | b :: bs, [], _, _, h1, _, _ => by simp at h1
 | [], [], H :: Hs, _, _, h2, _ => by simp at h2
 | b :: bs, K :: Ks, [], _, _, h2, _ => by simp at h2
theorem V9 {Ks : List Nat} {Hs : List c6} {D : Nat} {H : c6} (h : (D, H) ∈ Ks.zip Hs) : ∃ j : Nat, Ks[j]? = some D ∧ Hs[j]? = some H := by
 obtain ⟨j, hj⟩ := List.mem_iff_getElem?.1 h
 exact ⟨j, (List.getElem?_zip_eq_some.1 hj).1, (List.getElem?_zip_eq_some.1 hj).2⟩
def zX (p : s7) : Nat → Nat → List Nat → List Nat
 | 0, _, Ks => Ks
 | n + 1, i, Ks => zX p n (i + 1) ((match p.isE i with | true => pL i (Ks.map (p.fits i)) Ks | false => []) ++ Ks)
def s7.okK (p : s7) (n : Nat) : Bool := (zX p n 0 [0]).all (p.DI.contains ·) && xU (zX p n 0 [0])
where
 xU : List Nat → Bool
 | [] => true
 | x :: xs => !xs.contains x && xU xs
theorem rS : ∀ {Ks : List Nat} {Hs : List c6}, s7.okK.xU Ks = true → N9 (Ks.zip Hs)
 | [], Hs, _ => fun D H h => by simp at h
 | K :: Ks, [], _ => fun D H h => by simp at h
 | K :: Ks, G :: Hs, h => by
  simp only [s7.okK.xU, Bool.and_eq_true, Bool.not_eq_true'] at h
  intro D H hm
  rw [List.zip_cons_cons] at hm ⊢
  simp only [lookW]
  rcases List.mem_cons.1 hm with he | hm
  ·cases he
   simp
  ·split
   ·rename_i he
    have := Nat.eq_of_beq_eq_true he
    subst this
    have h2 := (List.of_mem_zip hm).1
    rw [← List.contains_iff_mem, h.1] at h2
    cases h2
   ·exact rS h.2 D H hm
theorem tS {ops : Array Oper} {p : s7} {b : Nat} {Q : St → Prop} (hS : p.okS ops.size = true) : ∀ (l : List Oper) (i : Nat) (sl : List AV) (Ks : List Nat) (Hs : List c6) (pd : List Pg),
  i + l.length = ops.size → Ks.length = Hs.length → (∀ D ∈ Ks, D < 2 ^ i) → (∀ D ∈ zX p l.length i Ks, D ∈ p.DI) → s7.okK.xU (zX p l.length i Ks) = true → u9 P C ops p b l i sl Ks Hs pd Q →
  ∃ (rs : List AV) (Kf : List Nat) (Hl : List c6) (Hf : c6), rs.length = l.length ∧ Kf.length = Hl.length ∧ Kf = zX p l.length i Ks ∧ (∃ more, Kf.zip Hl = more ++ Ks.zip Hs ∧ ∀ x ∈ more, 2 ^ i ≤ x.1) ∧
   (∀ q ∈ pd, ∀ D H, (D, H) ∈ Kf.zip Hl → p.fits q.1 D = true → q.2 (lookW (Kf.zip Hl)) D H) ∧
   (∀ j o, l[j]? = some o → EI P C ops p b (Kf.zip Hl) (i + j) o (mC sl l rs j) (rs.getD j .any)) ∧ lookW (Kf.zip Hl) (p.full ops.size) = some Hf ∧ Q ⟨mC sl l rs l.length, Hf⟩
 | [], i, sl, Ks, Hs, pd, hi, hl, hk, hs, hn, he => by
  obtain ⟨h1, H, h2, h3⟩ := he
  exact ⟨[], Ks, Hs, H, rfl, hl, rfl, ⟨[], rfl, fun x hx => by simp at hx⟩, h1, fun j o hj => by simp at hj, h2, h3⟩
 | o :: rest, i, sl, Ks, Hs, pd, hi, hl, hk, hs, hn, he => by
  obtain ⟨want, x, Ns, hw, hNs, hE, hA, hx, pd', hpd, hr⟩ := he
  have hin : i < ops.size := by rw [← hi]; simp
  have hlen2 : ((match p.isE i with | true => pL i (Ks.map (p.fits i)) Ks | false => []) ++ Ks).length = (Ns ++ Hs).length := by
   cases hEi : p.isE i with
   | true => simp [(nJ (i := i) (by simp) hl (hE hEi)).1, hl]
   | false => simp [hNs hEi, hl]
  have hkeys : ∀ D ∈ (match p.isE i with | true => pL i (Ks.map (p.fits i)) Ks | false => []), 2 ^ i ≤ D ∧ D < 2 ^ (i + 1) := by
   intro D hD
   cases hEi : p.isE i with
   | true =>
    rw [hEi] at hD
    obtain ⟨E, e1, rfl⟩ := (nJ (i := i) (by simp) hl (hE hEi)).2.2 D hD
    exact ⟨Nat.right_le_or, Nat.or_lt_two_pow (Nat.lt_trans (hk E e1) (Nat.pow_lt_pow_right (by decide) (by omega))) (Nat.pow_lt_pow_right (by decide) (by omega))⟩
   | false =>
    rw [hEi] at hD
    simp at hD
  obtain ⟨rs, Kf, Hl, Hf, k1, k2, k3, ⟨more2, e2, m2⟩, k5, k6, k7, k8⟩ := tS hS rest (i + 1) (cZ sl o.dst x) _ (Ns ++ Hs) pd' (by rw [← hi]; simp; omega) hlen2 (fun D hD => by
   rcases List.mem_append.1 hD with hD | hD
   ·exact (hkeys D hD).2
   ·exact Nat.lt_trans (hk D hD) (Nat.pow_lt_pow_right (by decide) (by omega))) hs hn hr
  have hlenK : (match p.isE i with | true => pL i (Ks.map (p.fits i)) Ks | false => []).length = Ns.length := by
   have := hlen2
   simp only [List.length_append] at this
   omega
  have eW : Kf.zip Hl = (more2 ++ (match p.isE i with | true => pL i (Ks.map (p.fits i)) Ks | false => []).zip Ns) ++ Ks.zip Hs := by
   rw [e2, List.zip_append hlenK, List.append_assoc]
  have hbig : ∀ y ∈ more2 ++ (match p.isE i with | true => pL i (Ks.map (p.fits i)) Ks | false => []).zip Ns, 2 ^ i ≤ y.1 := by
   intro y hy
   rcases List.mem_append.1 hy with hy | hy
   ·exact Nat.le_trans (Nat.pow_le_pow_right (by decide) (by omega)) (m2 y hy)
   ·exact (hkeys y.1 (List.of_mem_zip (show (y.1, y.2) ∈ _ from hy)).1).1
  have hKf : Kf = zX p (o :: rest).length i Ks := k3
  have hfun : N9 (Kf.zip Hl) := rS (by rw [hKf]; exact hn)
  have fact : ∀ D H, lookW (Kf.zip Hl) D = some H → p.fits i D = true → cY P C p b i o sl want x (lookW (Kf.zip Hl)) D H := by
   intro D H hlk hfit
   have hm := rR hlk
   rcases hpd with rfl | ⟨rfl, hmu | ⟨hEi, hall⟩⟩
   ·exact k5 _ List.mem_cons_self D H hm hfit
   ·have hD : D ∈ p.DI := hs D (by rw [← hKf]; exact (List.of_mem_zip hm).1)
    unfold s7.okS at hS
    simp only [Bool.and_eq_true] at hS
    have h1 := List.all_eq_true.1 hS.2 i (List.mem_range.2 hin)
    rw [hmu, Bool.false_or] at h1
    have h2 := List.all_eq_true.1 h1 D hD
    rw [hfit, Bool.not_true, Bool.false_or, Nat.blt_eq] at h2
    have hmW : (D, H) ∈ Ks.zip Hs := by
     rw [eW] at hm
     rcases List.mem_append.1 hm with hm | hm
     ·have := hbig _ hm
      simp only at this
      omega
     ·exact hm
    obtain ⟨j, j1, j2⟩ := V9 hmW
    have j3 : (Ks.map (p.fits i))[j]? = some true := by rw [List.getElem?_map, j1]; simp [hfit]
    cases hEi : p.isE i with
    | true =>
     obtain ⟨N, n1, n2⟩ := (nJ (i := i) (by simp) hl (hE hEi)).2.1 D H hmW ⟨j, j1, j2, j3⟩
     refine ⟨N, ?_, fun _ => hfun _ _ ?_, fun h => (by rw [hEi] at h; cases h)⟩
     ·cases want <;> exact n1
     ·rw [eW, hEi]
      exact List.mem_append.2 (.inl (List.mem_append.2 (.inr n2)))
    | false =>
     refine ⟨H, ?_, fun h => (by rw [hEi] at h; cases h), fun _ => rfl⟩
     rcases hA hEi with ha | ha
     ·have := ha H
      cases want with
      | true => exact this
      | false => exact ⟨this, rfl⟩
     ·have := vI (by simp) ha D H j j1 j2 j3
      cases want with
      | true => exact this
      | false => exact ⟨this, rfl⟩
   ·refine ⟨H, ?_, fun h => (by rw [hEi] at h; cases h), fun _ => rfl⟩
    have := hall H
    cases want with
    | true => exact this
    | false => exact ⟨this, rfl⟩
  refine ⟨x :: rs, Kf, Hl, Hf, by simp [k1], k2, hKf, ⟨_, eW, hbig⟩, fun q hq => ?_, fun j oj hj => ?_, k7, k8⟩
  ·rcases hpd with rfl | ⟨rfl, _⟩
   ·exact k5 q (List.mem_cons_of_mem _ hq)
   ·exact k5 q hq
  ·match j with
   | 0 =>
    simp at hj
    subst hj
    rw [Nat.add_zero]
    cases want with
    | true =>
     refine .inl ⟨hw, fun D H hlk hfit => ?_⟩
     obtain ⟨H', g1, g2, g3⟩ := fact D H hlk hfit
     exact ⟨H', OpG.congr (rM (ops := ops)) g1, g2, g3⟩
    | false =>
     refine .inr ⟨hw, hx rfl, fun D H hlk hfit hEi => ?_⟩
     obtain ⟨H', g1, g2, g3⟩ := fact D H hlk hfit
     rw [g2 hEi, g1.2]
   | j + 1 =>
    have := k6 j oj t93
    rw [show i + (j + 1) = i + 1 + j from by omega]
    exact this
theorem c8.opsG (g : Good P C) {id : Nat} {ops : Array Oper} {st : St} {Q : Exit → St → Prop} (p : s7) (m : Nat) (hp : p.ok ops st.sl.length = true) (hS : p.okS ops.size = true) (hK : p.okK ops.size = true)
  (r : u9 P C ops p st.h.length ops.toList 0 st.sl [0] [st.h ++ kept m] [] fun st' => Q .normal st') : c8 P C (.region id ops true) st Q := by
 unfold s7.okK at hK
 simp only [Bool.and_eq_true] at hK
 obtain ⟨rs, Kf, Hl, Hf, k1, k2, k3, ⟨more, e2, m2⟩, k5, k6, k7, k8⟩ := tS hS ops.toList 0 st.sl [0] [st.h ++ kept m] [] (by simp) rfl (fun D hD => by simp at hD; subst hD; decide)
  (fun D hD => by have := List.all_eq_true.1 hK.1 D (by simpa using hD); simpa using this) (by simpa using hK.2) r
 rw [Array.length_toList] at k1 k8
 refine c8.drawG g p m hp rs (Kf.zip Hl) Hf k1 ?_ k7 (fun j o ho => ?_) k8
 ·refine rS (by rw [k3]; simpa using hK.2) _ _ ?_
  rw [e2]
  simp
 ·have := k6 j o (by simpa using ho)
  rwa [Nat.zero_add] at this
variable {ops : Array Oper} {p : s7} {b : Nat} {o : Oper} {rest : List Oper} {i : Nat} {sl : List AV} {Ks : List Nat} {Hs : List c6} {pd : List Pg} {Q : St → Prop} {x : AV}
theorem u9.any (hw : s6 ops sl o = some true) (hE : p.isE i = false) (ha : ∀ H, OpG P C ((p.place.getD i none).map (b + ·)) (rho C sl) H o.op fun y h => y = x ∧ h = H)
  (r : u9 P C ops p b rest (i + 1) (cZ sl o.dst x) Ks Hs pd Q) : u9 P C ops p b (o :: rest) i sl Ks Hs pd Q :=
 ⟨true, x, [], hw, fun _ => rfl, fun h => t69, fun _ => .inl ha, fun h => (by cases h), pd, .inr ⟨rfl, .inr ⟨hE, ha⟩⟩, by rw [hE]; exact r⟩
theorem u9.skip (hw : s6 ops sl o = some false) (hE : p.isE i = false) (r : u9 P C ops p b rest (i + 1) (cZ sl o.dst (.tup [])) Ks Hs pd Q) : u9 P C ops p b (o :: rest) i sl Ks Hs pd Q :=
 ⟨false, .tup [], [], hw, fun _ => rfl, fun h => t69, fun _ => .inl fun _ => rfl, fun _ => rfl, pd, .inr ⟨rfl, .inr ⟨hE, fun _ => rfl⟩⟩, by rw [hE]; exact r⟩
def nK (C : Cfg) (ops : Array Oper) (p : s7) : List Oper → Nat → List AV → Option (List AV)
 | [], _, sl => some sl
 | o :: rest, i, sl => match p.isE i with
  | true => none
  | false => match p.place.getD i none with
   | some _ => none
   | none => match s6 ops sl o with
    | some true => match dY C (rho C sl) o.op with
     | some x => nK C ops p rest (i + 1) (cZ sl o.dst x)
     | none => none
    | some false => nK C ops p rest (i + 1) (cZ sl o.dst (.tup []))
    | none => none
theorem u9.pre {l : List Oper} {sl' : List AV} (k : Nat) (h : nK C ops p (l.take k) i sl = some sl') (hk : u9 P C ops p b (l.drop k) (i + (l.take k).length) sl' Ks Hs pd Q) : u9 P C ops p b l i sl Ks Hs pd Q := by
 have key : ∀ (l1 : List Oper) (i : Nat) (s : List AV), nK C ops p l1 i s = some sl' → u9 P C ops p b (l.drop k) (i + l1.length) sl' Ks Hs pd Q → u9 P C ops p b (l1 ++ l.drop k) i s Ks Hs pd Q := by
  intro l1
  induction l1 with
  | nil =>
   intro i s hs hk
   simp only [nK, Option.some.injEq] at hs
   subst hs
   exact hk
  | cons o l1 ih =>
   intro i s hs hk
   have hk' : u9 P C ops p b (l.drop k) (i + 1 + l1.length) sl' Ks Hs pd Q := by
    rw [show i + 1 + l1.length = i + (o :: l1).length from by simp; omega]; exact hk
   simp only [nK] at hs
   split at hs
   ·cases hs
   ·rename_i hE
    split at hs
    ·cases hs
    ·rename_i hpl
     split at hs
     ·rename_i hw
      split at hs
      ·rename_i x hx
       refine u9.any (x := x) hw hE (fun H => ?_) (ih _ _ hs hk')
       rw [hpl]
       exact .plain (by unfold p7; rw [hx]) ⟨rfl, rfl⟩
      ·cases hs
     ·rename_i hw
      exact u9.skip hw hE (ih _ _ hs hk')
     ·cases hs
 rw [← List.take_append_drop k l]
 exact key _ _ _ h hk
theorem u9.call {c : Call} {f : FuncId} {args : List AV} (hw : s6 ops sl o = some true) (hE : p.isE i = false) (hpl : p.place.getD i none = none) (ho : o.op = .call c) (ht : u3 C (rho C sl) c = some (f, args)) (hb : n7 C f = true)
  (hc : ∀ H, CallA P C f args H fun y h' => y = x ∧ h' = H) (r : u9 P C ops p b rest (i + 1) (cZ sl o.dst x) Ks Hs pd Q) : u9 P C ops p b (o :: rest) i sl Ks Hs pd Q :=
 .any hw hE (fun H => by rw [hpl, ho]; exact .inr ⟨c, f, args, rfl, ht, hb, hc H⟩) r
theorem pK.imp {f g : Nat → c6 → Prop} (hfg : ∀ D H, f D H → g D H) : ∀ {bs : List Bool} {Ks : List Nat} {Hs : List c6}, pK bs Ks Hs f → pK bs Ks Hs g
 | [], _, _, _ => by simp [pK]
 | _ :: _, [], _, _ => by simp [pK]
 | _ :: _, _ :: _, [], _ => by simp [pK]
 | true :: bs, D :: Ks, H :: Hs, h => ⟨hfg D H h.1, pK.imp hfg h.2⟩
 | false :: bs, D :: Ks, H :: Hs, h => pK.imp (bs := bs) hfg h
theorem jL.imp {f g : c6 → c6 → Prop} (hfg : ∀ H N, f H N → g H N) : ∀ {bs : List Bool} {Hs Ns : List c6}, jL bs Hs f Ns → jL bs Hs g Ns
 | [], [], [], _ => trivial
 | [], [], _ :: _, h => by simp [jL] at h
 | [], _ :: _, _, h => by simp [jL] at h
 | b :: _, [], _, h => by cases b <;> simp [jL] at h
 | true :: bs, H :: Hs, [], h => by simp [jL] at h
 | true :: bs, H :: Hs, N :: Ns, h => ⟨hfg H N h.1, jL.imp hfg h.2⟩
 | false :: bs, H :: Hs, Ns, h => by
  simp only [jL] at h ⊢
  exact jL.imp hfg h
theorem u9.read (fl : List Bool) (hw : s6 ops sl o = some true) (hE : p.isE i = false) (hpl : p.place.getD i none = none) (hf : Ks.map (p.fits i) = fl) (ha : pK fl Ks Hs fun _ H => mD C (rho C sl) H o.op = some x)
  (pd' : List Pg) (hpd : pd' = (i, cY P C p b i o sl true x) :: pd ∨ (pd' = pd ∧ p.jP.contains i = false))
  (r : u9 P C ops p b rest (i + 1) (cZ sl o.dst x) Ks Hs pd' Q) : u9 P C ops p b (o :: rest) i sl Ks Hs pd Q := by
 refine ⟨true, x, [], hw, fun _ => rfl, fun h => t69, fun _ => .inr ?_, fun h => (by cases h), pd', ?_, by rw [hE]; exact r⟩
 ·rw [hf]
  refine ha.imp fun D H h => ?_
  rw [hpl]
  exact .plain (dA h) ⟨rfl, rfl⟩
 ·rcases hpd with h | ⟨h1, h2⟩
  ·exact .inl h
  ·exact .inr ⟨h1, .inl h2⟩
def F8 (C : Cfg) (pl : Option Nat) (ρ : Operand → AV) (H : c6) (o : Op) : Option (AV × c6) := match pl with
 | some β => atA C ρ H β o
 | none => p7 C ρ H o
theorem W0 {pl : Option Nat} {ρ : Operand → AV} {H N : c6} {o : Op} (h : F8 C pl ρ H o = some (x, N)) : OpG P C pl ρ H o fun y h => y = x ∧ h = N := by
 unfold F8 at h
 unfold OpG
 cases pl with
 | some β => exact ⟨x, N, h, rfl, rfl⟩
 | none => exact .plain h ⟨rfl, rfl⟩
theorem u9.eff (fl : List Bool) (Ks' : List Nat) (pl : Option Nat) (hw : s6 ops sl o = some true) (hE : p.isE i = true) (hpl : (p.place.getD i none).map (b + ·) = pl) (hf : Ks.map (p.fits i) = fl) (hK : pL i fl Ks ++ Ks = Ks') (Ns : List c6) (ha : jL fl Hs (fun H N => F8 C pl (rho C sl) H o.op = some (x, N)) Ns)
  (pd' : List Pg) (hpd : pd' = (i, cY P C p b i o sl true x) :: pd ∨ (pd' = pd ∧ p.jP.contains i = false))
  (r : u9 P C ops p b rest (i + 1) (cZ sl o.dst x) Ks' (Ns ++ Hs) pd' Q) : u9 P C ops p b (o :: rest) i sl Ks Hs pd Q := by
 refine ⟨true, x, Ns, hw, fun h => t69, fun _ => ?_, fun h => t69, fun h => (by cases h), pd', ?_, by rw [hE, hf, hK]; exact r⟩
 ·rw [hf, hpl]
  exact ha.imp fun H N h => W0 h
 ·rcases hpd with h | ⟨h1, h2⟩
  ·exact .inl h
  ·exact .inr ⟨h1, .inl h2⟩
theorem u9.nil {H : c6} (hl : lookW (Ks.zip Hs) (p.full ops.size) = some H) (hq : Q ⟨sl, H⟩) : u9 P C ops p b [] i sl Ks Hs [] Q :=
 ⟨fun q hq => by simp at hq, H, hl, hq⟩
theorem u9.pop {q : Pg} (fl : List Bool) (hf : Ks.map (p.fits q.1) = fl) (ha : pK fl Ks Hs (q.2 (lookW (Ks.zip Hs)))) (r : u9 P C ops p b [] i sl Ks Hs pd Q) : u9 P C ops p b [] i sl Ks Hs (q :: pd) Q := by
 obtain ⟨h1, h2⟩ := r
 refine ⟨fun q' hq' D H hm hfit => ?_, h2⟩
 rcases List.mem_cons.1 hq' with rfl | hq'
 ·obtain ⟨j, j1, j2⟩ := V9 hm
  subst hf
  exact vI (by simp) ha D H j j1 j2 (by rw [List.getElem?_map, j1]; simp [hfit])
 ·exact h1 q' hq' D H hm hfit
theorem cY.read {look : Nat → Option c6} {D : Nat} {H : c6} (hE : p.isE i = false) (hpl : p.place.getD i none = none) (h : mD C (rho C sl) H o.op = some x) : cY P C p b i o sl true x look D H :=
 ⟨H, by rw [hpl]; exact .plain (dA h) ⟨rfl, rfl⟩, fun h => t69, fun _ => rfl⟩
theorem cY.eff {look : Nat → Option c6} {D : Nat} {H N : c6} (pl : Option Nat) (hE : p.isE i = true) (hpl : (p.place.getD i none).map (b + ·) = pl) (h : F8 C pl (rho C sl) H o.op = some (x, N)) (hl : look (D ||| 2 ^ i) = some N) : cY P C p b i o sl true x look D H :=
 ⟨N, by rw [hpl]; exact W0 h, fun _ => hl, fun h => t69⟩
theorem u9.split {l : List Oper} {t : Bool} (d : Nat) (hv : sl.getD d .any = .bool t) (ht : t = true → u9 P C ops p b l i sl Ks Hs pd Q) (hf : t = false → u9 P C ops p b l i sl Ks Hs pd Q) : u9 P C ops p b l i sl Ks Hs pd Q := by
 cases t with
 | true => exact ht rfl
 | false => exact hf rfl
end
end Go.Ab
end
section
namespace Go.Ab
section
variable {P : Program} {C : Cfg} {G : Nat → AV} {B : Nat} {h : c6} {φ : Map} {w : World}
def cI (h0 h2 : c6) : Prop := ∀ (β : Nat) (b : Blk), h2[β]? = some b → h0[β]? = some b ∨ ∀ x ∈ b.cells, Refs h2.length x
theorem nL (h2 l : c6) : (h2 ++ l).take h2.length = h2 := List.take_left
theorem xV {h0 h2 l : c6} {φ0 : Map} {w0 : World} (i0 : Pic G B h0 φ0 w0) (i : Pic G B (h2 ++ l) φ w) (hl : h0.length ≤ h2.length) (hk : cI h0 h2) : Pic G B h2 φ w := by
 have hsub : ∀ {β : Nat} {b : Blk}, h2[β]? = some b → (h2 ++ l)[β]? = some b := fun {β b} h => by
  rw [List.getElem?_append_left (List.getElem?_eq_some_iff.1 h).1]; exact h
 refine ⟨fun β b h1 h2' => ?_, fun β β' b b' h1 h2' => i.inj β β' b b' (hsub h1) (hsub h2'), fun β b h1 => i.base β b (hsub h1), fun β b h1 => i.cJ β b (hsub h1), i.room, fun g => ?_⟩
 ·obtain ⟨cur, k1, k2, k3, k4⟩ := i.blk β b (hsub h1) h2'
  refine ⟨cur, k1, k2, k3, fun j v x e1 e2 => ⟨(k4 j v x e1 e2).1, ?_⟩⟩
  have hr : Refs h2.length x := by
   rcases hk β b h1 with hb | hb
   ·obtain ⟨cur0, _, _, q3, q4⟩ := i0.blk β b hb h2'
    have hj : j < cur0.size := Nat.lt_of_lt_of_le (List.getElem?_eq_some_iff.1 e2).1 q3
    exact (Refs.T6 (q4 j cur0[j] x (Array.getElem?_eq_getElem hj) e2).2).mono hl
   ·exact hb x (List.mem_of_getElem? e2)
  have := rK hr (k4 j v x e1 e2).2
  rw [nL] at this
  exact this
 ·have := (i.eD g).take h2.length
  rw [nL] at this
  exact this
def pW (h0 : c6) (I : Nat → St → Prop) (m : Nat) (st : St) : Prop :=
 ∃ sl h2 l2, st.h = h2 ++ l2 ∧ h0.length ≤ h2.length ∧ cI h0 h2 ∧ E4 sl st.sl ∧ (∀ x ∈ sl, Refs h2.length x) ∧ I m ⟨sl, h2⟩
theorem c8.loopW {c : Code} {st : St} {Q : Exit → St → Prop} (I : Nat → St → Prop) (n : Nat) (h0 : pW st.h I n st)
  (round : ∀ m sl h, I m ⟨sl, h⟩ → c8 P C c ⟨sl, h⟩ (Round (pW st.h I) m Q)) : c8 P C (.loop c) st Q := by
 intro B φ w a i s
 have key : ∀ (m : Nat) (st2 : St) (φ2 : Map) (w2 : World) (a2 : Act), Pic C.eD B st2.h φ2 w2 → Ev st.h φ w st2.h φ2 w2 → iA st2.h φ2 w2 a2 st2.sl → pW st.h I m st2 →
   ∃ st' φ', Pic C.eD B st'.h φ' w2 ∧ Ev st.h φ w st'.h φ' w2 ∧ iA st'.h φ' w2 a2 st'.sl ∧ I m st' := by
  rintro m st2 φ2 w2 a2 i2 e2 s2 ⟨sl, h2, l2, f1, f2, f5, f3, f4, f6⟩
  rw [f1] at i2 e2 s2
  have i3 := xV i i2 f2 f5
  have e3 := uX (n := h2.length) e2 f2
  rw [nL] at e3
  refine ⟨⟨sl, h2⟩, φ2, i3, e3, ⟨by rw [(E4.get f3).1]; exact s2.size, fun t => ?_, s2.kS⟩, f6⟩
  show Rel h2 φ2 w2 _ (sl.getD t .any)
  have hr : Refs h2.length (sl.getD t .any) := by
   rw [List.getD_eq_getElem?_getD]
   cases ht : sl[t]? with
   | none => exact .any
   | some x => exact f4 x (List.mem_of_getElem? ht)
  rcases (E4.get f3).2 t with e | e
  ·have := rK hr (by rw [e]; exact s2.rel t)
   rw [nL] at this
   exact this
  ·rw [e]; exact .iG _
 obtain ⟨st0, φ0, g1, g2, g3, g4⟩ := key n st φ w a i (.refl _ _ _) s h0
 refine wp_loop_ghost (fun m a' w' => ∃ st' φ', Pic C.eD B st'.h φ' w' ∧ Ev st.h φ w st'.h φ' w' ∧ iA st'.h φ' w' a' st'.sl ∧ I m st') n ⟨st0, φ0, g1, g2, g3, g4⟩ ?_
 rintro m a' w' ⟨st1, φ1, i1, e1, s1, hI⟩
 refine wp_mono (round m st1.sl st1.h hI B φ1 w' a' i1 s1) fun e a2 w2 hp => ?_
 obtain ⟨st2, φ2, k1, k2, k3, k4⟩ := hp
 cases e with
 | normal =>
  obtain ⟨m', hlt, hI'⟩ := k4
  exact ⟨m', hlt, key m' st2 φ2 w2 a2 k1 (e1.trans k2) k3 hI'⟩
 | exit id => exact ⟨st2, φ2, k1, e1.trans k2, k3, k4⟩
 | goto l => exact ⟨st2, φ2, k1, e1.trans k2, k3, k4⟩
 | ret => exact ⟨st2, φ2, k1, e1.trans k2, k3, k4⟩
 | panic ch => exact ⟨st2, φ2, k1, e1.trans k2, k3, k4⟩
 | outgrown => exact ⟨st2, φ2, k1, e1.trans k2, k3, k4⟩
def FinW (h : c6) (Q : AV → c6 → Prop) (x : AV) (h1 : c6) : Prop := ∃ h2 l y, h1 = h2 ++ l ∧ h.length ≤ h2.length ∧ cI h h2 ∧ fO h2.length h1 6 x = some y ∧ Q y h2
theorem CallA.shutW {f : FuncId} {args : List AV} {R Q : AV → c6 → Prop} (r : CallA P C f args h R) (hq : ∀ x h1, R x h1 → FinW h Q x h1) : CallA P C f args h Q := by
 intro B φ w cargs i hs hr
 refine (r B φ w cargs i hs hr).mono fun e w' hp => ?_
 obtain ⟨v, x, h1, φ', rfl, k1, k2, k3, k4⟩ := hp
 obtain ⟨h2, l, y, rfl, q0, q1, q2, q3⟩ := hq x h1 k4
 have hr' := lN k1 h2.length 6 v x y q2 k3
 have he := uX (n := h2.length) k2 q0
 rw [nL] at hr' he
 exact ⟨v, y, h2, φ', rfl, xV i k1 q0 q1, he, hr', q3⟩
theorem CallA.W2 (g : Good P C) {f : FuncId} {fn : Func} {c : Code} {args : List AV} {h : c6} {Q : AV → c6 → Prop} (hf : C.fns f = some fn) (hb : fn.body = some c)
  (r : c8 P C c ⟨args ++ List.replicate (fn.ntmps - args.length) .any, h⟩ (Ends C fn (FinW h Q))) : CallA P C f args h Q :=
 CallA.shutW (CallA.kJ g hf hb r) fun _ _ h => h
def lY (N : Nat) : c6 → c6 → Prop
 | _, [] => True
 | [], b :: l => (∀ x ∈ b.cells, Refs N x) ∧ lY N [] l
 | a :: k, b :: l => (a = b ∨ ∀ x ∈ b.cells, Refs N x) ∧ lY N k l
theorem lY.refl (N : Nat) : ∀ l : c6, lY N l l
 | [] => trivial
 | b :: l => ⟨.inl rfl, lY.refl N l⟩
theorem lY.get {N : Nat} : ∀ {k l : c6}, lY N k l → ∀ (β : Nat) (b : Blk), l[β]? = some b → k[β]? = some b ∨ ∀ x ∈ b.cells, Refs N x
 | _, [], _, β, b, hb => by simp at hb
 | [], c :: l, h, 0, b, hb => by simp at hb; subst hb; exact .inr h.1
 | [], c :: l, h, β + 1, b, hb => by
  have := lY.get h.2 β b (by simpa using hb)
  rcases this with h | h
  ·simp at h
  ·exact .inr h
 | a :: k, c :: l, h, 0, b, hb => by
  simp at hb
  subst hb
  rcases h.1 with rfl | h
  ·exact .inl rfl
  ·exact .inr h
 | a :: k, c :: l, h, β + 1, b, hb => by
  have := lY.get h.2 β b (by simpa using hb)
  simpa using this
theorem cI.of {h0 h2 : c6} (k : lY h2.length h0 h2) : cI h0 h2 := lY.get k
theorem cI.app {A B' l l' : c6} (h : cI A B') (hl : A.length = B'.length) (hk : lY (B'.length + l'.length) l l') : cI (A ++ l) (B' ++ l') := by
 intro β b hb
 by_cases hβ : β < B'.length
 ·rw [List.getElem?_append_left hβ] at hb
  rcases h β b hb with h1 | h1
  ·exact .inl (by rw [List.getElem?_append_left (by omega)]; exact h1)
  ·exact .inr fun x hx => (h1 x hx).mono (by simp)
 ·rw [List.getElem?_append_right (by omega)] at hb
  rcases hk.get _ b hb with h1 | h1
  ·exact .inl (by rw [List.getElem?_append_right (by omega), hl]; exact h1)
  ·exact .inr fun x hx => by rw [List.length_append]; exact h1 x hx
theorem cI.refl (h0 : c6) : cI h0 h0 := fun _ _ hb => .inl hb
def FrzK (n : Nat) (h : c6) : List AV → List AV → Prop
 | [], [] => True
 | y :: ys, x :: xs => (y = .any ∨ DL n h x = some y ∨ (y = x ∧ Refs n x)) ∧ FrzK n h ys xs
 | _, _ => False
theorem FrzK.get {n : Nat} {h : c6} : ∀ {ys xs : List AV}, FrzK n h ys xs → ys.length = xs.length ∧ ∀ t, ys.getD t .any = .any ∨ DL n h (xs.getD t .any) = some (ys.getD t .any) ∨ (ys.getD t .any = xs.getD t .any ∧ Refs n (xs.getD t .any))
 | [], [], _ => ⟨rfl, fun t => .inl rfl⟩
 | y :: ys, x :: xs, hf => by
  obtain ⟨h1, h2⟩ := hf
  obtain ⟨k1, k2⟩ := FrzK.get h2
  refine ⟨by simp [k1], fun t => ?_⟩
  match t with
  | 0 => simpa using h1
  | t + 1 => simpa using k2 t
 | [], _ :: _, hf => hf.elim
 | _ :: _, [], hf => hf.elim
def mV : List AV → List AV → Prop
 | [], [] => True
 | x :: xs, y :: ys => (x = y ∨ (y = .g6 ∧ x = .vec 0 [])) ∧ mV xs ys
 | _, _ => False
theorem mV.get : ∀ {xs ys : List AV}, mV xs ys → xs.length = ys.length ∧ ∀ (t : Nat) (x y : AV), xs[t]? = some x → ys[t]? = some y → x = y ∨ (y = .g6 ∧ x = .vec 0 [])
 | [], [], _ => ⟨rfl, fun t x y h => by simp at h⟩
 | x :: xs, y :: ys, h => by
  obtain ⟨h1, h2⟩ := h
  obtain ⟨k1, k2⟩ := mV.get h2
  refine ⟨by simp [k1], fun t u v hu hv => ?_⟩
  match t with
  | 0 => simp at hu hv; subst hu; subst hv; exact h1
  | t + 1 => exact k2 t u v t92 t96
 | [], _ :: _, h => h.elim
 | _ :: _, [], h => h.elim
theorem zY {v : Value} (r : Rel h φ w v .g6) : Rel h φ w v (.vec 0 []) := by
 rw [r.dI]
 exact .pure (.uN _ _)
theorem bY {β γ : Nat} {b c : Blk} {cs : List AV} (hb : h[β]? = some b) (hc : (h.set β { b with cells := cs })[γ]? = some c) : (γ = β ∧ c = { b with cells := cs }) ∨ (γ ≠ β ∧ h[γ]? = some c) := by
 have hl := (List.getElem?_eq_some_iff.1 hb).1
 by_cases e : γ = β
 ·subst e
  rw [List.getElem?_set_self hl] at hc
  exact .inl ⟨rfl, by simpa using hc.symm⟩
 ·rw [List.getElem?_set_ne (Ne.symm e)] at hc
  exact .inr ⟨e, hc⟩
theorem qG {β : Nat} {b : Blk} {k : Nat} {x y : AV} (i : Pic G B h φ w) (hb : h[β]? = some b) (hx : b.cells[k]? = some x) (hxy : ∀ v, Rel h φ w v x → Rel h φ w v y) :
  Pic G B (h.set β { b with cells := b.cells.set k y }) φ w ∧ Ev h φ w (h.set β { b with cells := b.cells.set k y }) φ w := by
 have ev : Ev h φ w (h.set β { b with cells := b.cells.set k y }) φ w := by
  refine ⟨rfl, rfl, rfl, Nat.le_refl _, fun j hj => ⟨rfl, hj.1, fun γ c hc hv => ?_⟩, fun j m hj => ⟨rfl, hj.1, fun γ c hc hv he => ?_⟩, by simp, fun γ c c' h1 h2 => ?_⟩
  ·rcases bY hb hc with ⟨rfl, rfl⟩ | ⟨_, hc'⟩
   ·exact hj.2 _ b hb hv
   ·exact hj.2 γ c hc' hv
  ·rcases bY hb hc with ⟨rfl, rfl⟩ | ⟨_, hc'⟩
   ·exact hj.2 _ b hb hv he
   ·exact hj.2 γ c hc' hv he
  ·rcases bY hb h2 with ⟨rfl, rfl⟩ | ⟨_, h2'⟩
   ·rw [hb] at h1
    cases h1
    exact ⟨Nat.le_refl _, fun _ => ⟨rfl, rfl, rfl⟩⟩
   ·rw [h1] at h2'
    cases h2'
    exact ⟨Nat.le_refl _, fun _ => ⟨rfl, rfl, rfl⟩⟩
 have hk := (List.getElem?_eq_some_iff.1 hx).1
 refine ⟨⟨fun γ c hc hv => ?_, fun γ γ' c c' hc hc' hv hv' he => ?_, fun γ c hc hv => ?_, fun γ c hc hv => ?_, i.room, fun g => ev.zL (i.eD g)⟩, ev⟩
 ·rcases bY hb hc with ⟨rfl, rfl⟩ | ⟨_, hc'⟩
  ·obtain ⟨cur, h1, h2, h3, h4⟩ := i.blk _ b hb hv
   refine ⟨cur, h1, h2, by simpa using h3, fun j v z a d => ?_⟩
   by_cases e : k = j
   ·subst e
    simp only [List.getElem?_set_self hk, Option.some.injEq] at d
    subst d
    exact ⟨(h4 k v x a hx).1, ev.rel (hxy v (h4 k v x a hx).2)⟩
   ·simp only [List.getElem?_set_ne e] at d
    exact ⟨(h4 j v z a d).1, ev.rel (h4 j v z a d).2⟩
  ·obtain ⟨cur, h1, h2, h3, h4⟩ := i.blk γ c hc' hv
   exact ⟨cur, h1, h2, h3, fun j v x a d => ⟨(h4 j v x a d).1, ev.rel (h4 j v x a d).2⟩⟩
 ·rcases bY hb hc with ⟨rfl, rfl⟩ | ⟨n1, k1⟩ <;> rcases bY hb hc' with ⟨rfl, rfl⟩ | ⟨n2, k2⟩
  ·rfl
  ·exact i.inj _ _ b c' hb k2 hv hv' he
  ·exact i.inj _ _ c b k1 hb hv hv' he
  ·exact i.inj _ _ c c' k1 k2 hv hv' he
 ·rcases bY hb hc with ⟨rfl, rfl⟩ | ⟨_, hc'⟩
  ·exact i.base _ b hb hv
  ·exact i.base γ c hc' hv
 ·rcases bY hb hc with ⟨rfl, rfl⟩ | ⟨_, hc'⟩
  ·have := i.cJ _ b hb hv
   simp only at this ⊢
   rw [this] at hk
   simp at hk
  ·exact i.cJ γ c hc' hv
theorem c8.aD {c : Code} {sl : List AV} {Q : Exit → St → Prop} (h' : c6) (hh : h = h') (r : c8 P C c ⟨sl, h'⟩ Q) : c8 P C c ⟨sl, h⟩ Q := by
 subst hh
 exact r
theorem c8.step {c : Code} {sl : List AV} {Q : Exit → St → Prop} (h' : c6) (hp : ∀ (B : Nat) (φ : Map) (w : World), Pic C.eD B h φ w → Pic C.eD B h' φ w ∧ Ev h φ w h' φ w) (r : c8 P C c ⟨sl, h'⟩ Q) : c8 P C c ⟨sl, h⟩ Q := by
 intro B φ w a i s
 obtain ⟨i', ev⟩ := hp B φ w i
 exact wp_mono (r B φ w a i' ⟨s.size, fun t => ev.rel (s.rel t), s.kS⟩) fun e a' w' ⟨st', φ', h1, h2, h3, h4⟩ => ⟨st', φ', h1, ev.trans h2, h3, h4⟩
theorem c8.O2 {c : Code} {sl : List AV} {Q : Exit → St → Prop} {γ off len β k : Nat} {b b' : Blk} {cs : List AV} (hg : h[γ]? = some b) (hv : b.cJ = false) (hle : off + len * b.esz ≤ b.cells.length)
  (hc : l9 iS ((b.cells.drop off).take (len * b.esz)) = some cs) (hb : h[β]? = some b') (hne : β ≠ γ) (hk : b'.cells[k]? = some (.own γ b.gen off len))
  (r : c8 P C c ⟨sl, (h.set γ (eT b (off + len * b.esz))).set β { b' with cells := b'.cells.set k (.vec len cs) }⟩ Q) : c8 P C c ⟨sl, h⟩ Q := by
 refine c8.step _ (fun B φ w i => ?_) r
 obtain ⟨i1, e1⟩ := nI (off + len * b.esz) i hg
 have hb1 : (h.set γ (eT b (off + len * b.esz)))[β]? = some b' := by rw [List.getElem?_set_ne (Ne.symm hne)]; exact hb
 have hl := (List.getElem?_eq_some_iff.1 hg).1
 have key := qG (k := k) (x := .own γ b.gen off len) (y := .vec len cs) i1 hb1 hk fun v hr => by
  have hg2 : (h.set γ (eT b (off + len * b.esz)))[γ]? = some (eT b (off + len * b.esz)) := List.getElem?_set_self hl
  have := vH (cs := cs) i1 hg2 rfl hv hle hc (show Rel _ φ w v (.own γ (eT b (off + len * b.esz)).gen off len) from hr)
  have e : (h.set γ (eT b (off + len * b.esz))).set γ (eT (eT b (off + len * b.esz)) (off + len * (eT b (off + len * b.esz)).esz)) = h.set γ (eT b (off + len * b.esz)) := by
   rw [List.set_set]
   congr 1
   simp only [eT, Nat.max_assoc, Nat.max_self]
  rw [e] at this
  exact this
 exact ⟨key.1, e1.trans key.2⟩
theorem c8.zZ {c : Code} {sl : List AV} {Q : Exit → St → Prop} {γ β k : Nat} {b b' : Blk} (hg : h[γ]? = some b) (hv : b.cJ = true) (hb : h[β]? = some b') (hk : b'.cells[k]? = some (.own γ b.gen 0 0))
  (r : c8 P C c ⟨sl, h.set β { b' with cells := b'.cells.set k (.vec 0 []) }⟩ Q) : c8 P C c ⟨sl, h⟩ Q := by
 refine c8.step _ (fun B φ w i => ?_) r
 refine qG i hb hk fun v hr => ?_
 cases hr with
 | pure hp => cases hp
 | own _ _ _ _ cap ad b2 hb2 hg2 hlc hcm had hn hvv =>
  exact .pure (.uN _ _)
theorem c8.EX {c : Code} {sl : List AV} {Q : Exit → St → Prop} {β k : Nat} {b' : Blk} (hb : h[β]? = some b') (hk : b'.cells[k]? = some .g6)
  (r : c8 P C c ⟨sl, h.set β { b' with cells := b'.cells.set k (.vec 0 []) }⟩ Q) : c8 P C c ⟨sl, h⟩ Q :=
 c8.step _ (fun B φ w i => qG i hb hk fun v hr => zY hr) r
theorem c8.lZ {c : Code} {sl : List AV} {Q : Exit → St → Prop} {β k : Nat} {b' : Blk} (hb : h[β]? = some b') (hk : b'.cells[k]? = some .g6)
  (r : c8 P C c ⟨sl, (h ++ [(⟨0, true, 0, 0, [], 0⟩ : Blk)]).set β { b' with cells := b'.cells.set k (.own h.length 0 0 0) }⟩ Q) : c8 P C c ⟨sl, h⟩ Q := by
 refine c8.step _ (fun B φ w i => ?_) r
 obtain ⟨i1, e1⟩ := mX i
 have hb1 : (h ++ [(⟨0, true, 0, 0, [], 0⟩ : Blk)])[β]? = some b' := by
  rw [List.getElem?_append_left (List.getElem?_eq_some_iff.1 hb).1]; exact hb
 have key := qG (k := k) (x := .g6) (y := .own h.length 0 0 0) i1 hb1 hk fun v hr => by
  rw [hr.dI]
  exact .own h.length 0 0 0 0 none ⟨0, true, 0, 0, [], 0⟩ (by simp) (Nat.le_refl _) (Nat.le_refl _) (Nat.zero_le _) (fun h => by omega) (fun _ _ => ⟨rfl, rfl⟩) (fun _ h => by cases h)
 exact ⟨key.1, e1.trans key.2⟩
theorem bV.p8 {ops : Array Oper} {p : cK} {o : Oper} {rest : List Oper} {i : Nat} {st : St} {Q : St → Prop} {c : Call} {f : FuncId} {args : List AV} {x : AV} {H : c6} (hE : p.isE i = true) (hw : s6 ops st.sl o = some true) (ho : o.op = .call c) (ht : u3 C (rho C st.sl) c = some (f, args)) (hb : n7 C f = true)
  (hc : CallA P C f args st.h fun y h' => y = x ∧ h' = H) (hk : bV P C ops p rest (i + 1) ⟨cZ st.sl o.dst x, H⟩ Q) : bV P C ops p (o :: rest) i st Q :=
 .inl ⟨hw, x, H, by rw [ho]; exact .call ht hb hc, fun h => t69, hk⟩
theorem cO.p8 {ops : Array Oper} {p : cK} {M : List Nat} {o : Oper} {rest : List Oper} {i : Nat} {st : St} {hs : List c6} {pm : List (Nat × (c6 → Prop))} {Q : St → Prop} {c : Call} {f : FuncId} {args : List AV} {x : AV} {H : c6} (hm : M.contains i = false) (hE : p.isE i = true) (hw : s6 ops st.sl o = some true) (ho : o.op = .call c)
  (ht : u3 C (rho C st.sl) c = some (f, args)) (hb : n7 C f = true) (hc : CallA P C f args st.h fun y h' => y = x ∧ h' = H) (hk : cO P C ops p M rest (i + 1) ⟨cZ st.sl o.dst x, H⟩ (H :: hs) pm Q) : cO P C ops p M (o :: rest) i st hs pm Q :=
 .inl ⟨hw, x, H, by rw [ho]; exact .call ht hb hc, fun h => t69, by rw [hm, hE]; exact hk⟩
section
variable {ops : Array Oper} {p : s7} {b i : Nat} {o : Oper} {rest : List Oper} {sl : List AV} {Ks : List Nat} {Hs : List c6} {pd : List Pg} {Q : St → Prop} {x : AV}
theorem u9.aD {l : List Oper} {Hs' : List c6} (hh : Hs = Hs') (r : u9 P C ops p b l i sl Ks Hs' pd Q) : u9 P C ops p b l i sl Ks Hs pd Q := by
 subst hh
 exact r
theorem u9.p8 (fl : List Bool) (Ks' : List Nat) {c : Call} {f : FuncId} {args : List AV} (hw : s6 ops sl o = some true) (hE : p.isE i = true) (hpl : p.place.getD i none = none) (ho : o.op = .call c) (ht : u3 C (rho C sl) c = some (f, args)) (hb : n7 C f = true)
  (hf : Ks.map (p.fits i) = fl) (hK : pL i fl Ks ++ Ks = Ks') (Ns : List c6) (ha : jL fl Hs (fun H N => CallA P C f args H fun y h => y = x ∧ h = N) Ns) (pd' : List Pg) (hpd : pd' = (i, cY P C p b i o sl true x) :: pd ∨ (pd' = pd ∧ p.jP.contains i = false))
  (r : u9 P C ops p b rest (i + 1) (cZ sl o.dst x) Ks' (Ns ++ Hs) pd' Q) : u9 P C ops p b (o :: rest) i sl Ks Hs pd Q := by
 refine ⟨true, x, Ns, hw, fun h => t69, fun _ => ?_, fun h => t69, fun h => (by cases h), pd', ?_, by rw [hE, hf, hK]; exact r⟩
 ·rw [hf, hpl, ho]
  exact ha.imp fun H N h => .inr ⟨c, f, args, rfl, ht, hb, h⟩
 ·rcases hpd with h | ⟨h1, h2⟩
  ·exact .inl h
  ·exact .inr ⟨h1, .inl h2⟩
theorem cY.p8 {c : Call} {f : FuncId} {args : List AV} {look : Nat → Option c6} {D : Nat} {H N : c6} (hE : p.isE i = true) (hpl : p.place.getD i none = none) (ho : o.op = .call c) (ht : u3 C (rho C sl) c = some (f, args)) (hb : n7 C f = true) (hc : CallA P C f args H fun y h => y = x ∧ h = N)
  (hl : look (D ||| 2 ^ i) = some N) : cY P C p b i o sl true x look D H :=
 ⟨N, by rw [hpl, ho]; exact .inr ⟨c, f, args, rfl, ht, hb, hc⟩, fun _ => hl, fun h => t69⟩
end
def MD (P : Program) (C : Cfg) (c : Code) (Q : Exit → St → Prop) : Nat → St → Prop
 | 0, _ => False
 | n + 1, st => c8 P C c st fun e st' => match e with
  | .normal => MD P C c Q n st'
  | e => Q e st'
theorem c8.rounds {c : Code} {st : St} {Q : Exit → St → Prop} (n : Nat) (h : MD P C c Q n st) : c8 P C (.loop c) st Q := by
 refine c8.loop (fun m s => MD P C c Q m s) n h fun m s hs => ?_
 cases m with
 | zero => exact hs.elim
 | succ m =>
  refine c8.mono hs fun e s' hq => ?_
  cases e with
  | normal => exact ⟨m, Nat.lt_succ_self m, hq⟩
  | exit id => exact hq
  | goto l => exact hq
  | ret => exact hq
  | panic ch => exact hq
  | outgrown => exact hq
section
variable {n d : Nat} {H : c6}
theorem aL {xs : List AV} : fO n H (d + 1) (.agg xs) = (l9 (fO n H d) xs).map .agg := rfl
theorem aE {xs : List AV} : fO n H (d + 1) (.tup xs) = (l9 (fO n H d) xs).map .tup := rfl
theorem s4 {β g off len : Nat} : fO n H (d + 1) (.own β g off len) = if β < n then some (.own β g off len) else gG n H d (.own β g off len) := rfl
theorem w7 : fO n H (d + 1) .g6 = some (.vec 0 []) := rfl
theorem aV : fO n H (d + 1) .any = some .any := rfl
theorem w8 {b : Bool} : fO n H (d + 1) (.bool b) = some (.bool b) := rfl
theorem aF {k : IntKind} {i : Int} : fO n H (d + 1) (.int k i) = some (.int k i) := rfl
theorem aW {s : ByteArray} : fO n H (d + 1) (.str s) = some (.str s) := rfl
theorem aM {m : Nat} {cs : List AV} : fO n H (d + 1) (.vec m cs) = some (.vec m cs) := rfl
theorem v5 {β g off len : Nat} : gG n H (d + 1) (.own β g off len) = match H[β]? with
   | some b => if b.gen = g ∧ n ≤ β then (if b.cJ then (if len = 0 then some (.vec 0 []) else none)
    else if off + len * b.esz ≤ b.cells.length then (match l9 (gG n H d) ((b.cells.drop off).take (len * b.esz)) with
     | some cs => some (.vec len cs)
     | none => none) else none) else none
   | none => none := rfl
theorem w9 : gG n H (d + 1) .g6 = some (.vec 0 []) := rfl
theorem aX : gG n H (d + 1) .any = some .any := rfl
theorem v7 {b : Bool} : gG n H (d + 1) (.bool b) = some (.bool b) := rfl
theorem aN {k : IntKind} {i : Int} : gG n H (d + 1) (.int k i) = some (.int k i) := rfl
theorem aG {s : ByteArray} : gG n H (d + 1) (.str s) = some (.str s) := rfl
theorem aA {m : Nat} {cs : List AV} : gG n H (d + 1) (.vec m cs) = some (.vec m cs) := rfl
theorem r6 {a b : Nat} : ¬ a + b < a := by omega
end
theorem mV.refl : ∀ l : List AV, mV l l
 | [] => trivial
 | _ :: l => ⟨.inl rfl, mV.refl l⟩
theorem mV.app : ∀ {a b c d : List AV}, mV a b → mV c d → mV (a ++ c) (b ++ d)
 | [], [], _, _, _, h => h
 | _ :: _, _ :: _, _, _, h, h' => ⟨h.1, mV.app h.2 h'⟩
 | [], _ :: _, _, _, h, _ => h.elim
 | _ :: _, [], _, _, h, _ => h.elim
theorem EY {β : Nat} {b : Blk} {cs : List AV} (i : Pic G B h φ w) (hb : h[β]? = some b) (hn : mV cs b.cells) :
  Pic G B (h.set β { b with cells := cs }) φ w ∧ Ev h φ w (h.set β { b with cells := cs }) φ w := by
 have ev : Ev h φ w (h.set β { b with cells := cs }) φ w := by
  refine ⟨rfl, rfl, rfl, Nat.le_refl _, fun j hj => ⟨rfl, hj.1, fun γ c hc hv => ?_⟩, fun j m hj => ⟨rfl, hj.1, fun γ c hc hv he => ?_⟩, by simp, fun γ c c' h1 h2 => ?_⟩
  ·rcases bY hb hc with ⟨rfl, rfl⟩ | ⟨_, hc'⟩
   ·exact hj.2 _ b hb hv
   ·exact hj.2 γ c hc' hv
  ·rcases bY hb hc with ⟨rfl, rfl⟩ | ⟨_, hc'⟩
   ·exact hj.2 _ b hb hv he
   ·exact hj.2 γ c hc' hv he
  ·rcases bY hb h2 with ⟨rfl, rfl⟩ | ⟨_, h2'⟩
   ·rw [hb] at h1
    cases h1
    exact ⟨Nat.le_refl _, fun _ => ⟨rfl, rfl, rfl⟩⟩
   ·rw [h1] at h2'
    cases h2'
    exact ⟨Nat.le_refl _, fun _ => ⟨rfl, rfl, rfl⟩⟩
 obtain ⟨nl, ng⟩ := hn.get
 refine ⟨⟨fun γ c hc hv => ?_, fun γ γ' c c' hc hc' hv hv' he => ?_, fun γ c hc hv => ?_, fun γ c hc hv => ?_, i.room, fun g => ev.zL (i.eD g)⟩, ev⟩
 ·rcases bY hb hc with ⟨rfl, rfl⟩ | ⟨_, hc'⟩
  ·obtain ⟨cur, h1, h2, h3, h4⟩ := i.blk _ b hb hv
   refine ⟨cur, h1, h2, by simp only [nl]; exact h3, fun j v z a d => ?_⟩
   have hj : j < b.cells.length := by rw [← nl]; exact (List.getElem?_eq_some_iff.1 d).1
   have hx : b.cells[j]? = some b.cells[j] := List.getElem?_eq_getElem hj
   have hr := h4 j v _ a hx
   rcases ng j z _ d hx with rfl | ⟨e1, rfl⟩
   ·exact ⟨hr.1, ev.rel hr.2⟩
   ·exact ⟨hr.1, ev.rel (zY (e1 ▸ hr.2))⟩
  ·obtain ⟨cur, h1, h2, h3, h4⟩ := i.blk γ c hc' hv
   exact ⟨cur, h1, h2, h3, fun j v x a d => ⟨(h4 j v x a d).1, ev.rel (h4 j v x a d).2⟩⟩
 ·rcases bY hb hc with ⟨rfl, rfl⟩ | ⟨n1, k1⟩ <;> rcases bY hb hc' with ⟨rfl, rfl⟩ | ⟨n2, k2⟩
  ·rfl
  ·exact i.inj _ _ b c' hb k2 hv hv' he
  ·exact i.inj _ _ c b k1 hb hv hv' he
  ·exact i.inj _ _ c c' k1 k2 hv hv' he
 ·rcases bY hb hc with ⟨rfl, rfl⟩ | ⟨_, hc'⟩
  ·exact i.base _ b hb hv
  ·exact i.base γ c hc' hv
 ·rcases bY hb hc with ⟨rfl, rfl⟩ | ⟨_, hc'⟩
  ·have := i.cJ _ b hb hv
   simp only at this ⊢
   rw [this] at nl
   exact List.length_eq_zero_iff.1 nl
  ·exact i.cJ γ c hc' hv
theorem c8.jC {c : Code} {sl : List AV} {Q : Exit → St → Prop} {β : Nat} {b : Blk} (cs : List AV) (hb : h[β]? = some b) (hn : mV cs b.cells)
  (r : c8 P C c ⟨sl, h.set β { b with cells := cs }⟩ Q) : c8 P C c ⟨sl, h⟩ Q :=
 c8.step _ (fun B φ w i => EY i hb hn) r
def p9 (e : TypeId) (K g : Nat) (zs : List AV) : Blk := match zs with
 | [] => ⟨g, true, 0, 0, [], 0⟩
 | z :: zs => ⟨g, false, e, K, z :: zs, 0⟩
theorem fC {e : TypeId} {K g : Nat} {zs : List AV} (h : zs ≠ []) : p9 e K g zs = ⟨g, false, e, K, zs, 0⟩ := by
 cases zs with
 | nil => exact absurd rfl h
 | cons => rfl
theorem F9 {e : TypeId} {K g : Nat} {zs : List AV} : (p9 e K g zs).gen = g := by cases zs <;> rfl
theorem o9 {e : TypeId} {K g : Nat} {zs : List AV} : (p9 e K g zs).cells = zs := by cases zs <;> rfl
theorem aR {H : c6} {e : TypeId} {β K g n m : Nat} {zs new : List AV} {src : AV} (hb : H[β]? = some (p9 e K g zs)) (hK : C.sz e = K) (hK0 : 0 < K) (hz : zs.length = n * K) (hn : new.length = m * K) (hm : 0 < m) (hs : rd H K src = some new) (hl : lenOf src = some m)
  (hB : (C.ti e).bytes ≤ 1000) (hc : n + m ≤ 1000000) : j7 C e H (.own β g 0 n) src = some (.own β (g + 1) 0 (n + m), H.set β (p9 e K (g + 1) (zs ++ new))) := by
 have hbound : (n + m) * (C.ti e).bytes ≤ 140737488355328 := by
  have := Nat.mul_le_mul hc hB
  omega
 have hmax : n + m ≤ maxLen := by
  have : (1000000 : Nat) ≤ maxLen := by decide
  omega
 have hne : zs ++ new ≠ [] := by
  intro h
  have := congrArg List.length h
  simp only [List.length_append, List.length_nil, hn] at this
  have h1 : 1 * 1 ≤ m * K := Nat.mul_le_mul hm hK0
  omega
 unfold j7
 rw [hK, hs, hl]
 simp only [hn, hK0, and_self, if_true, hb, F9, true_and]
 rw [if_pos ⟨hmax, hbound⟩, if_neg (by omega)]
 cases zs with
 | nil =>
  have h0 : n = 0 := by
   simp only [List.length_nil] at hz
   rcases Nat.mul_eq_zero.1 hz.symm with h | h
   ·exact h
   ·omega
  subst h0
  rw [fC hne]
  simp only [p9, if_true, List.nil_append, Nat.zero_add]
 | cons z zs =>
  rw [fC (by simp)]
  simp only [Bool.false_eq_true, if_false, and_self, true_and, hz, Nat.le_refl, Nat.zero_le, if_true]
  rw [if_neg (by rw [Nat.add_mul]; have h1 : 1 * 1 ≤ m * K := Nat.mul_le_mul hm hK0; omega), List.take_of_length_le (by omega), fC hne]
theorem gV {n d : Nat} {H : c6} {e : TypeId} {β K g len : Nat} {zs zs' : List AV} (hb : H[β]? = some (p9 e K g zs)) (hn : n ≤ β) (hz : zs.length = len * K) (hK : 0 < K) (ho : l9 (gG n H d) zs = some zs') : gG n H (d + 1) (.own β g 0 len) = some (.vec len zs') := by
 rw [v5, hb]
 cases zs with
 | nil =>
  have h0 : len = 0 := by
   simp only [List.length_nil] at hz
   rcases Nat.mul_eq_zero.1 hz.symm with h | h
   ·exact h
   ·omega
  subst h0
  simp only [l9, Option.some.injEq] at ho
  subst ho
  simp [p9, hn]
 | cons z zs =>
  have h1 : len * K ≤ (z :: zs).length := by omega
  have h2 : List.take (len * K) (z :: zs) = z :: zs := List.take_of_length_le (by omega)
  rw [fC (by simp)]
  simp only [hn, and_self, if_true, Bool.false_eq_true, if_false, Nat.zero_add, h1, List.drop_zero, h2, ho]
theorem c8.nilsO {c : Code} {sl : List AV} {Q : Exit → St → Prop} {e : TypeId} {β K g : Nat} {zs : List AV} (zs' : List AV) (hb : h[β]? = some (p9 e K g zs)) (hn : mV zs' zs) (r : c8 P C c ⟨sl, h.set β (p9 e K g zs')⟩ Q) : c8 P C c ⟨sl, h⟩ Q := by
 refine c8.jC zs' hb (by rw [o9]; exact hn) ?_
 cases zs with
 | nil =>
  cases zs' with
  | nil => exact r
  | cons => exact hn.elim
 | cons z zs =>
  cases zs' with
  | nil => exact hn.elim
  | cons z' zs' => exact r
end
end Go.Ab
end
section
namespace Go.Ab
section
variable {P : Program} {C : Cfg} {G : Nat → AV} {B : Nat} {h : c6} {φ : Map} {w : World}
structure Pln (x : AV) : Prop where
 sl : iS x = some x
 rf : ∀ n, Refs n x
 fz : ∀ n H d, gG n H (d + 1) x = some x
theorem Pln.str {s : ByteArray} : Pln (.str s) := ⟨rfl, fun _ => .str _, fun _ _ _ => rfl⟩
theorem Pln.int {k : IntKind} {i : Int} : Pln (.int k i) := ⟨rfl, fun _ => .int _ _, fun _ _ _ => rfl⟩
theorem Pln.bool {b : Bool} : Pln (.bool b) := ⟨rfl, fun _ => .bool _, fun _ _ _ => rfl⟩
theorem Pln.vec {m : Nat} {cs : List AV} : Pln (.vec m cs) := ⟨rfl, fun _ => .vec _ _, fun _ _ _ => rfl⟩
theorem mN {α : Type} {f : α → Option α} : ∀ {l : List α}, (∀ x ∈ l, f x = some x) → l9 f l = some l
 | [], _ => rfl
 | x :: l, h => by
  simp only [l9, h x (by simp), mN (l := l) fun y hy => h y (by simp [hy])]
def bE (l : List AV) : Prop := ∀ x ∈ l, Pln x
theorem bE.nil : bE [] := fun x h => by simp at h
theorem bE.cons {x : AV} {l : List AV} (h : Pln x) (h' : bE l) : bE (x :: l) := fun y hy => by
 rcases List.mem_cons.1 hy with rfl | hy
 ·exact h
 ·exact h' y hy
theorem bE.flat {α : Type} {f : α → List AV} {l : List α} (h : ∀ a, bE (f a)) : bE (l.flatMap f) := fun x hx => by
 obtain ⟨a, _, ha⟩ := List.mem_flatMap.1 hx
 exact h a x ha
theorem bE.map {α : Type} {f : α → AV} {l : List α} (h : ∀ a, Pln (f a)) : bE (l.map f) := fun x hx => by
 obtain ⟨a, _, rfl⟩ := List.mem_map.1 hx
 exact h a
theorem bE.QT {l : List AV} (h : bE l) : l9 iS l = some l := mN fun x hx => (h x hx).sl
theorem bE.frz {l : List AV} (h : bE l) (n : Nat) (H : c6) (d : Nat) : l9 (gG n H (d + 1)) l = some l := mN fun x hx => (h x hx).fz n H d
theorem bE.refs {l : List AV} (h : bE l) (n : Nat) : ∀ x ∈ l, Refs n x := fun x hx => (h x hx).rf n
def iC (e : TypeId) (K g : Nat) (zs : List AV) (k : Nat) : Blk := match zs with
 | [] => ⟨g, true, 0, 0, [], 0⟩
 | z :: zs => ⟨g, false, e, K, z :: zs, k⟩
theorem G0 {H : c6} {β : Nat} {b : Blk} (h : H[β]? = some b) : H.set β b = H := by
 obtain ⟨h1, h2⟩ := List.getElem?_eq_some_iff.1 h
 rw [← h2]
 exact List.set_getElem_self h1
theorem c8.lA {c : Code} {sl : List AV} {Q : Exit → St → Prop} {γ β k K g len : Nat} {e : TypeId} {zs : List AV} {b' : Blk} (hg : h[γ]? = some (p9 e K g zs)) (hz : zs.length = len * K) (hK : 0 < K) (hs : bE zs) (hb : h[β]? = some b') (hne : β ≠ γ) (hk : b'.cells[k]? = some (.own γ g 0 len))
  (r : c8 P C c ⟨sl, (h.set γ (iC e K g zs (len * K))).set β { b' with cells := b'.cells.set k (.vec len zs) }⟩ Q) : c8 P C c ⟨sl, h⟩ Q := by
 cases zs with
 | nil =>
  have h0 : len = 0 := by
   simp only [List.length_nil] at hz
   rcases Nat.mul_eq_zero.1 hz.symm with h | h
   ·exact h
   ·omega
  subst h0
  refine c8.zZ (γ := γ) hg rfl hb hk ?_
  have e1 : h.set γ (iC e K g [] (0 * K)) = h := G0 hg
  rw [e1] at r
  exact r
 | cons z zs =>
  have e1 : ((p9 e K g (z :: zs)).cells.drop 0).take (len * K) = z :: zs := by
   rw [List.drop_zero]
   exact List.take_of_length_le (by rw [← hz]; exact Nat.le_refl _)
  refine c8.O2 (γ := γ) (off := 0) (len := len) (cs := z :: zs) hg rfl ?_ ?_ hb hne hk ?_
  ·show 0 + len * K ≤ (z :: zs).length
   omega
  ·show l9 iS (((p9 e K g (z :: zs)).cells.drop 0).take (len * K)) = _
   rw [e1]
   exact hs.QT
  ·have e2 : eT (p9 e K g (z :: zs)) (0 + len * (p9 e K g (z :: zs)).esz) = iC e K g (z :: zs) (len * K) := by
    show (⟨g, false, e, K, z :: zs, max 0 (0 + len * K)⟩ : Blk) = ⟨g, false, e, K, z :: zs, len * K⟩
    rw [Nat.zero_add, Nat.zero_max]
   rw [e2]
   exact r
theorem c8.slot {c : Code} {sl : List AV} {Q : Exit → St → Prop} {t : Nat} {x y : AV} (h' : c6) (hp : ∀ (B : Nat) (φ : Map) (w : World), Pic C.eD B h φ w → Pic C.eD B h' φ w ∧ Ev h φ w h' φ w) (hx : sl[t]? = some x) (hxy : ∀ (B : Nat) (φ : Map) (w : World) (v : Value), Pic C.eD B h φ w → Rel h φ w v x → Rel h' φ w v y)
  (r : c8 P C c ⟨sl.set t y, h'⟩ Q) : c8 P C c ⟨sl, h⟩ Q := by
 intro B φ w a i s
 obtain ⟨i', ev⟩ := hp B φ w i
 refine wp_mono (r B φ w a i' ⟨by rw [List.length_set]; exact s.size, fun u => ?_, s.kS⟩) fun e a' w' ⟨st', φ', h1, h2, h3, h4⟩ => ⟨st', φ', h1, ev.trans h2, h3, h4⟩
 show Rel h' φ w _ ((sl.set t y).getD u .any)
 have hr := s.rel u
 simp only at hr
 have hl := (List.getElem?_eq_some_iff.1 hx).1
 by_cases e : t = u
 ·subst e
  have e1 : (sl.set t y).getD t .any = y := by simp [List.getD, hl]
  have e2 : sl.getD t .any = x := by simp [List.getD, hx]
  rw [e1]
  rw [e2] at hr
  exact hxy B φ w _ i hr
 ·have e1 : (sl.set t y).getD u .any = sl.getD u .any := by simp [List.getD, List.getElem?_set_ne e]
  rw [e1]
  exact ev.rel hr
theorem c8.W3 {c : Code} {sl : List AV} {Q : Exit → St → Prop} {γ t K g len : Nat} {e : TypeId} {zs : List AV} (hg : h[γ]? = some (p9 e K g zs)) (hz : zs.length = len * K) (hK : 0 < K) (hs : bE zs) (hx : sl[t]? = some (.own γ g 0 len))
  (r : c8 P C c ⟨sl.set t (.vec len zs), h.set γ (iC e K g zs (len * K))⟩ Q) : c8 P C c ⟨sl, h⟩ Q := by
 cases zs with
 | nil =>
  have h0 : len = 0 := by
   simp only [List.length_nil] at hz
   rcases Nat.mul_eq_zero.1 hz.symm with h | h
   ·exact h
   ·omega
  subst h0
  have e1 : h.set γ (iC e K g [] (0 * K)) = h := G0 hg
  rw [e1] at r
  refine c8.slot h (fun B φ w i => ⟨i, .refl _ _ _⟩) hx (fun B φ w v i hr => ?_) r
  cases hr with
  | pure hp => cases hp
  | own _ _ _ _ cap ad b2 hb2 hg2 hlc hcm had hn hvv => exact .pure (.uN _ _)
 | cons z zs =>
  have e1 : ((p9 e K g (z :: zs)).cells.drop 0).take (len * K) = z :: zs := by
   rw [List.drop_zero]
   exact List.take_of_length_le (by rw [← hz]; exact Nat.le_refl _)
  have e2 : eT (p9 e K g (z :: zs)) (0 + len * (p9 e K g (z :: zs)).esz) = iC e K g (z :: zs) (len * K) := by
   show (⟨g, false, e, K, z :: zs, max 0 (0 + len * K)⟩ : Blk) = ⟨g, false, e, K, z :: zs, len * K⟩
   rw [Nat.zero_add, Nat.zero_max]
  refine c8.slot _ (fun B φ w i => by rw [← e2]; exact nI _ i hg) hx (fun B φ w v i hr => ?_) r
  have := vH (off := 0) (len := len) (cs := z :: zs) i hg rfl rfl (by show 0 + len * K ≤ (z :: zs).length; omega) (by show l9 iS (((p9 e K g (z :: zs)).cells.drop 0).take (len * K)) = _; rw [e1]; exact hs.QT) hr
  rw [e2] at this
  exact this
end
end Go.Ab
end
section
namespace Go.Ab
section
variable {P : Program} {C : Cfg}
def wS (P : Program) (C : Cfg) (ops : Array Oper) (l : List Oper) (st : St) (Q : St → Prop) : Prop :=
 ∀ (B : Nat) (h0 : c6) (φ0 : Map) (w0 : World) (φ : Map) (w : World) (a : Act), Pic C.eD B st.h φ w → Ev h0 φ0 w0 st.h φ w → iA st.h φ w a st.sl →
  wpList P ops (Post C B h0 φ0 w0 fun e st' => e = .normal ∧ Q st') l a w
theorem wS.of (g : Good P C) {ops : Array Oper} {l : List Oper} {st : St} {Q : St → Prop} (r : l5 P C ops l st Q) : wS P C ops l st Q :=
 fun _ _ _ _ φ w a i e s => l5.sound g l st φ w a i e s r
theorem wS.step (g : Good P C) {ops : Array Oper} {o : Oper} {l : List Oper} {st : St} {Q : St → Prop} (h1 : s6 ops st.sl o = some true) (h2 : OpA P C (rho C st.sl) st.h o.op fun x h' => wS P C ops l ⟨cZ st.sl o.dst x, h'⟩ Q) : wS P C ops (o :: l) st Q := by
 intro B h0 φ0 w0 φ w a i e s
 unfold wpList
 rw [qC s h1]
 refine .inl (Oper.wp_mono (fun a' w' hp => ?_) (OpA.sound g i (s.eval i rfl) h2))
 obtain ⟨v, x, h', φ', rfl, i', e', r', k⟩ := hp
 exact k B h0 φ0 w0 φ' w' _ i' (e.trans e') ((s.ev e').put o.dst r')
theorem wS.skip {ops : Array Oper} {o : Oper} {l : List Oper} {st : St} {Q : St → Prop} (h1 : s6 ops st.sl o = some false) (h2 : wS P C ops l ⟨cZ st.sl o.dst (.tup []), st.h⟩ Q) : wS P C ops (o :: l) st Q := by
 intro B h0 φ0 w0 φ w a i e s
 unfold wpList
 rw [qC s h1]
 exact h2 B h0 φ0 w0 φ w _ i e (s.put o.dst nC)
theorem wS.pre (g : Good P C) {ops : Array Oper} {l : List Oper} {st st' : St} {Q : St → Prop} (k : Nat) (h : zN C ops (l.take k) st = some st') (hk : wS P C ops (l.drop k) st' Q) : wS P C ops l st Q := by
 have key : ∀ (l1 : List Oper) (s : St), zN C ops l1 s = some st' → wS P C ops (l1 ++ l.drop k) s Q := by
  intro l1
  induction l1 with
  | nil =>
   intro s hs
   simp only [zN, Option.some.injEq] at hs
   subst hs
   exact hk
  | cons o l1 ih =>
   intro s hs
   simp only [zN] at hs
   split at hs
   ·rename_i hw
    split at hs
    ·rename_i x h' hp
     exact .step g hw (.plain hp (ih _ hs))
    ·cases hs
   ·rename_i hw
    exact .skip hw (ih _ hs)
   ·cases hs
 rw [← List.take_append_drop k l]
 exact key _ _ h
theorem wS.nil {ops : Array Oper} {st : St} {Q : St → Prop} (h : Q st) : wS P C ops [] st Q :=
 fun _ _ _ _ φ _ _ i e s => ⟨st, φ, i, e, s, rfl, h⟩
variable {h : c6}
theorem oQ.refl {β g off len : Nat} {cs : List AV} : ∀ (l : List AV), oQ β g off len cs l l
 | [] => trivial
 | _ :: l => ⟨.inl rfl, oQ.refl l⟩
theorem oQ.set {β g off len : Nat} {cs : List AV} : ∀ (l : List AV) (t : Nat), l[t]? = some (.own β g off len) → oQ β g off len cs (l.set t (.vec len cs)) l
 | _ :: l, 0, e => by
  simp at e
  subst e
  exact ⟨.inr ⟨rfl, rfl⟩, oQ.refl l⟩
 | x :: l, t + 1, e => ⟨.inl rfl, oQ.set l t (by simpa using e)⟩
 | [], t, e => by simp at e
end
end Go.Ab
end
section
namespace Go.Ab
section
variable {P : Program} {C : Cfg} {ops : Array Oper} {l : List Oper} {st st' : St} {Q : St → Prop}
theorem l5.p (k : Nat) (hk : l5 P C ops (l.drop k) st' Q) (h : zN C ops (l.take k) st = some st' := by simp (maxSteps := 2000000) (disch := omega) only [go_sem, simprocAttr, if_pos, if_neg]; rfl) : l5 P C ops l st Q := l5.pre k h hk
theorem bV.p {p : cK} {i : Nat} (k : Nat) (hk : bV P C ops p (l.drop k) (i + (l.take k).length) st' Q) (h : tI C ops p (l.take k) i st = some st' := by simp (maxSteps := 2000000) (disch := omega) only [go_sem, simprocAttr, if_pos, if_neg]; rfl) : bV P C ops p l i st Q := bV.pre k h hk
theorem wS.p (g : Good P C) (k : Nat) (hk : wS P C ops (l.drop k) st' Q) (h : zN C ops (l.take k) st = some st' := by simp (maxSteps := 2000000) (disch := omega) only [go_sem, simprocAttr, if_pos, if_neg]; rfl) : wS P C ops l st Q := wS.pre g k h hk
theorem cO.p {p : cK} {M : List Nat} {i : Nat} {hs hs' : List c6} {pd pd' : List Pd} (k : Nat) (hk : cO P C ops p M (l.drop k) (i + (l.take k).length) st' hs' (pd'.map (kG P C)) Q)
  (h : xN C ops p M (l.take k) i st hs pd = some (st', hs', pd') := by simp (maxSteps := 2000000) (disch := omega) only [go_sem, simprocAttr, if_pos, if_neg]; rfl) : cO P C ops p M l i st hs (pd.map (kG P C)) Q := cO.pre k h hk
end
section
variable {P : Program} {C : Cfg} {pl : s7} {b : Nat} {ops : Array Oper} {i : Nat} {sl : List AV} {Ks : List Nat} {Hs : List c6} {pd : List Pg} {Q : St → Prop} {o : Oper} {rest : List Oper} {x : AV}
theorem u9.p {l : List Oper} {sl' : List AV} (k : Nat) (hk : u9 P C ops pl b (l.drop k) (i + (l.take k).length) sl' Ks Hs pd Q)
  (h : nK C ops pl (l.take k) i sl = some sl' := by simp (maxSteps := 2000000) (disch := omega) only [go_sem, simprocAttr, if_pos, if_neg, Nat.add_assoc, List.replicate, nK, F8, atA, mkA, laid, kept, z6, List.all_cons, List.all_nil, Bool.and_self, Bool.and_true, Option.map_some, Option.map_none]; rfl) : u9 P C ops pl b l i sl Ks Hs pd Q := u9.pre k h hk
end
section
variable {P : Program} {C : Cfg} {R : AV → c6 → Prop} {st : St} {x : AV} {fn : Func}
theorem Ends.m (hr : R x st.h) (hx : rB C fn.results st.sl st.h = some x := by simp only [go_sem, rB, iQ, jM]; first | rfl | (simp (maxSteps := 2000000) (disch := omega) only [go_sem, simprocAttr, if_pos, if_neg]; rfl)) : Ends C fn R .ret st := ⟨x, hx, hr⟩
theorem Ends.n (hr : R x st.h) (hx : rB C fn.results st.sl st.h = some x := by simp only [go_sem, rB, iQ, jM]; first | rfl | (simp (maxSteps := 2000000) (disch := omega) only [go_sem, simprocAttr, if_pos, if_neg]; rfl)) : Ends C fn R .normal st := ⟨x, hx, hr⟩
theorem fact {p q : Prop} (h : p) (e : p = q := by first | (simp only [decide_eq_true_eq, decide_eq_false_iff_not, Bool.not_eq_true', Bool.not_eq_false', Bool.not_eq_eq_eq_not, Bool.not_true, Bool.not_false, Int.not_le, Int.not_lt, beq_iff_eq, bne_iff_ne, ge_iff_le, gt_iff_lt, beq_eq_false_iff_ne, ne_eq, bne_eq_false_iff_eq]; rfl) | rfl) : q := e ▸ h
theorem pW.k {h0 : c6} {I : Nat → St → Prop} {m : Nat} {s : St} (sl : List AV) (h2 l2 : c6) (he : s.h = h2 ++ l2) (hl : h0.length ≤ h2.length) (hk : cI h0 h2) (hI : I m ⟨sl, h2⟩)
  (hs : E4 sl s.sl := by simp only [List.replicate, List.cons_append, List.nil_append]; repeat' (first | exact trivial | exact .inr rfl | exact .inl rfl | (refine .inl ?_; congr 1; omega) | refine ⟨?_, ?_⟩))
  (hr : fR h2.length sl := by simp only [List.replicate, List.cons_append, List.nil_append]; repeat' (first | exact trivial | exact .any | exact .int _ _ | exact .bool _ | exact .str _ | exact .vec _ _ | exact .g6 | refine ⟨?_, ?_⟩ | (refine .own _ _ _ _ ?_; simp; done) | (refine .ptr _ _ _ ?_; simp; done) | (refine .own _ _ _ _ ?_; simp; omega) | (refine .ptr _ _ _ ?_; simp; omega))) : pW h0 I m s :=
 ⟨sl, h2, l2, he, hl, hk, hs, hr.get, hI⟩
theorem Fits.k {I : Nat → St → Prop} {m : Nat} {s : St} (sl : List AV) (hI : I m ⟨sl, s.h⟩)
  (hs : E4 sl s.sl := by simp only [List.replicate, List.cons_append, List.nil_append]; repeat' (first | exact trivial | exact .inr rfl | exact .inl rfl | (refine .inl ?_; congr 1; omega) | refine ⟨?_, ?_⟩)) : Fits I m s := ⟨sl, hs, hI⟩
end
end Go.Ab
end
section
namespace Go.Ab
def look : List (Nat × AV) → Nat → AV
 | [], _ => .any
 | (j, x) :: r, i => if i = j then x else look r i
def tC (l : List (Nat × AV)) : Nat → Nat → List AV
 | 0, _ => []
 | n + 1, i => look l i :: tC l n (i + 1)
def O3 (l : List (Nat × AV)) : List Nat → List (Nat × AV)
 | [] => []
 | k :: ks => (k, look l k) :: O3 l ks
def mkS (n : Nat) (l : List (Nat × AV)) : List AV := tC l n 0
def DM : Nat → List AV → List (Nat × AV)
 | _, [] => []
 | i, x :: r => (i, x) :: DM (i + 1) r
theorem G1 (l : List (Nat × AV)) : ∀ n i, (tC l n i).length = n
 | 0, _ => rfl
 | n + 1, i => by simp [tC, G1 l n (i + 1)]
theorem G2 (l : List (Nat × AV)) : ∀ n i t, (tC l n i).getD t .any = if t < n then look l (i + t) else .any
 | 0, i, t => by simp [tC]
 | n + 1, i, 0 => by simp [tC]
 | n + 1, i, t + 1 => by
  have := G2 l n (i + 1) t
  simp only [tC, List.getD_cons_succ, this, Nat.add_lt_add_iff_right, show i + 1 + t = i + (t + 1) from by omega]
theorem G3 {n : Nat} {l : List (Nat × AV)} : (mkS n l).length = n := G1 l n 0
theorem pM {n t : Nat} {l : List (Nat × AV)} : (mkS n l).getD t .any = if t < n then look l t else .any := by
 unfold mkS
 rw [G2, Nat.zero_add]
theorem G4 (l : List (Nat × AV)) (x : AV) : ∀ n i d, (tC l n i).set d x = tC ((i + d, x) :: l) n i
 | 0, i, d => by simp [tC]
 | n + 1, i, 0 => by
  simp only [tC, List.set_cons_zero, Nat.add_zero, look, if_true]
  congr 1
  have key : ∀ n j, i < j → tC l n j = tC ((i, x) :: l) n j := by
   intro n
   induction n with
   | zero => intros; rfl
   | succ n ih =>
    intro j hj
    simp only [tC, look, if_neg (show ¬ j = i by omega)]
    rw [ih (j + 1) (by omega)]
  exact key n (i + 1) (by omega)
 | n + 1, i, d + 1 => by
  have := G4 l x n (i + 1) d
  simp only [tC, List.set_cons_succ, this, look, if_neg (show ¬ i = i + (d + 1) by omega), show i + 1 + d = i + (d + 1) from by omega]
theorem bA {n d : Nat} {l : List (Nat × AV)} {x : AV} : (mkS n l).set d x = mkS n ((d, x) :: l) := by
 unfold mkS
 rw [G4, Nat.zero_add]
theorem EZ {i : Nat} : look [] i = .any := rfl
theorem W4 {i j : Nat} {x : AV} {r : List (Nat × AV)} : look ((j, x) :: r) i = if i = j then x else look r i := rfl
theorem G5 : ∀ (xs : List AV) (i t : Nat), look (DM i xs) t = if i ≤ t then xs.getD (t - i) .any else .any
 | [], i, t => by simp [DM, look]
 | x :: r, i, t => by
  simp only [DM, look, G5 r (i + 1) t]
  by_cases h : t = i
  ·subst h; simp
  ·rw [if_neg h]
   by_cases h2 : i ≤ t
   ·rw [if_pos h2, if_pos (by omega), show t - i = (t - (i + 1)) + 1 from by omega, List.getD_cons_succ]
   ·rw [if_neg h2, if_neg (by omega)]
theorem rho_t {C : Cfg} {sl : List AV} {t : Tmp} : rho C sl (.tmp t) = sl.getD t .any := rfl
theorem rho_c {C : Cfg} {sl : List AV} {v : Value} : rho C sl (.const v) = LL v := rfl
theorem rho_g {C : Cfg} {sl : List AV} {g : Nat} : rho C sl (.global g) = C.eD g := rfl
theorem rho_f {C : Cfg} {sl : List AV} {f : FuncId} : rho C sl (.func f) = .fn (.func f) [] [] := rfl
section
variable {P : Program} {C : Cfg} {h : c6}
theorem FA {m t : Nat} : (List.replicate m AV.any).getD t .any = .any := by
 simp only [List.getD, List.getElem?_replicate]
 split <;> rfl
theorem c8.toS {c : Code} {args : List AV} {m : Nat} {Q : Exit → St → Prop} (n : Nat) (hn : args.length + m = n) (r : c8 P C c ⟨mkS n (DM 0 args), h⟩ Q) : c8 P C c ⟨args ++ List.replicate m .any, h⟩ Q := by
 refine c8.less (by rw [G3]; simp; omega) (fun t => .inl ?_) r
 rw [pM, G5]
 by_cases ht : t < args.length
 ·rw [if_pos (by omega), if_pos (Nat.zero_le _), Nat.sub_zero]
  simp [List.getD, List.getElem?_append_left ht]
 ·have e : (args ++ List.replicate m AV.any).getD t .any = .any := by
   have := FA (m := m) (t := t - args.length)
   simp only [List.getD, List.getElem?_append_right (by omega : args.length ≤ t)] at this ⊢
   exact this
  rw [e]
  split
  ·rw [if_pos (Nat.zero_le _), Nat.sub_zero]
   simp [List.getD, List.getElem?_eq_none (by omega : args.length ≤ t)]
  ·rfl
theorem CallA.bodyS (g : Good P C) {f : FuncId} {fn : Func} {c : Code} {args : List AV} {Q : AV → Prop} (n : Nat) (hf : C.fns f = some fn) (hb : fn.body = some c) (hn : fn.ntmps = n) (hl : args.length + (n - args.length) = n)
  (r : c8 P C c ⟨mkS n (DM 0 args), h⟩ (Ends C fn (Fin h Q))) : CallA P C f args h (fun x h' => Q x ∧ h' = h) :=
 CallA.body g hf hb (by rw [hn]; exact c8.toS n hl r)
theorem CallA.bodyWS (g : Good P C) {f : FuncId} {fn : Func} {c : Code} {args : List AV} {Q : AV → c6 → Prop} (n : Nat) (hf : C.fns f = some fn) (hb : fn.body = some c) (hn : fn.ntmps = n) (hl : args.length + (n - args.length) = n)
  (r : c8 P C c ⟨mkS n (DM 0 args), h⟩ (Ends C fn (FinW h Q))) : CallA P C f args h Q :=
 CallA.W2 g hf hb (by rw [hn]; exact c8.toS n hl r)
theorem xW {l : List (Nat × AV)} (t : Nat) : ∀ ks : List Nat, look (O3 l ks) t = look l t ∨ look (O3 l ks) t = .any
 | [] => .inr rfl
 | k :: ks => by
  simp only [O3, look]
  split
  ·rename_i e; rw [e]; exact .inl rfl
  ·exact xW t ks
theorem c8.c7 {c : Code} {n : Nat} {l : List (Nat × AV)} {Q : Exit → St → Prop} (ks : List Nat) (r : c8 P C c ⟨mkS n (O3 l ks), h⟩ Q) : c8 P C c ⟨mkS n l, h⟩ Q := by
 refine c8.less (by rw [G3, G3]) (fun t => ?_) r
 rw [pM, pM]
 by_cases ht : t < n
 ·rw [if_pos ht, if_pos ht]; exact xW t ks
 ·rw [if_neg ht, if_neg ht]; exact .inl rfl
def W5 (l : List (Nat × AV)) : List (Nat × AV) → Prop
 | [] => True
 | (k, x) :: r => x = look l k ∧ W5 l r
def W6 (N : Nat) : List (Nat × AV) → Prop
 | [] => True
 | (_, x) :: r => Refs N x ∧ W6 N r
theorem W5.get {l : List (Nat × AV)} : ∀ {l' : List (Nat × AV)}, W5 l l' → ∀ t, look l' t = look l t ∨ look l' t = .any
 | [], _, t => .inr rfl
 | (k, x) :: r, ⟨h1, h2⟩, t => by
  simp only [look]
  split
  ·rename_i e; rw [e, h1]; exact .inl rfl
  ·exact h2.get t
theorem W6.get {N : Nat} : ∀ {l : List (Nat × AV)}, W6 N l → ∀ t, Refs N (look l t)
 | [], _, t => .any
 | (k, x) :: r, ⟨h1, h2⟩, t => by
  simp only [look]
  split
  ·exact h1
  ·exact h2.get t
theorem nM {l l' : List (Nat × AV)} (h : ∀ t, look l' t = look l t ∨ look l' t = .any) : ∀ n i, E4 (tC l' n i) (tC l n i)
 | 0, _ => trivial
 | n + 1, i => ⟨h i, nM h n (i + 1)⟩
theorem xX {N : Nat} {l : List (Nat × AV)} (h : ∀ t, Refs N (look l t)) : ∀ n i, ∀ x ∈ tC l n i, Refs N x
 | 0, _, x, hx => by simp [tC] at hx
 | n + 1, i, x, hx => by
  rcases List.mem_cons.1 hx with rfl | hx
  ·exact h i
  ·exact xX h n (i + 1) x hx
theorem pW.s {h0 H : c6} {I : Nat → St → Prop} {m n : Nat} {l : List (Nat × AV)} (l' : List (Nat × AV)) (h2 l2 : c6) (he : H = h2 ++ l2) (hl : h0.length ≤ h2.length) (hk : cI h0 h2) (hI : I m ⟨mkS n l', h2⟩)
  (hs : W5 l l' := by repeat' (first | refine ⟨?_, ?_⟩ | exact trivial | rfl | (refine congrArg (AV.int _) ?_; omega)))
  (hr : W6 h2.length l' := by repeat' (first | refine ⟨?_, ?_⟩ | exact trivial | exact .any | exact .int _ _ | exact .bool _ | exact .str _ | exact .vec _ _ | exact .g6 | (refine .own _ _ _ _ ?_; simp; done) | (refine .ptr _ _ _ ?_; simp; done) | (refine .own _ _ _ _ ?_; simp; omega) | (refine .ptr _ _ _ ?_; simp; omega))) : pW h0 I m ⟨mkS n l, H⟩ :=
 ⟨mkS n l', h2, l2, he, hl, hk, nM hs.get n 0, xX hr.get n 0, hI⟩
theorem Fits.s {H : c6} {I : Nat → St → Prop} {m n : Nat} {l : List (Nat × AV)} (l' : List (Nat × AV)) (hI : I m ⟨mkS n l', H⟩)
  (hs : W5 l l' := by repeat' (first | refine ⟨?_, ?_⟩ | exact trivial | rfl | (refine congrArg (AV.int _) ?_; omega))) : Fits I m ⟨mkS n l, H⟩ :=
 ⟨mkS n l', nM hs.get n 0, hI⟩
theorem c8.fitS {c : Code} {n : Nat} {l : List (Nat × AV)} {Q : Exit → St → Prop} (l' : List (Nat × AV)) (r : c8 P C c ⟨mkS n l', h⟩ Q) (hs : W5 l l' := by repeat' (first | refine ⟨?_, ?_⟩ | exact trivial | rfl | (refine congrArg (AV.int _) ?_; omega))) : c8 P C c ⟨mkS n l, h⟩ Q :=
 c8.fit _ (nM hs.get n 0) r
theorem xY {l : List (Nat × AV)} {k N : Nat} (hk : look l k = .g6) : ∀ n i, N7 N (tC ((k, .own N 0 0 0) :: l) n i) (tC l n i)
 | 0, _ => trivial
 | n + 1, i => by
  refine ⟨?_, xY hk n (i + 1)⟩
  simp only [look]
  split
  ·rename_i e; rw [e]; exact .inr ⟨hk, rfl⟩
  ·exact .inl rfl
theorem c8.O4 {c : Code} {n : Nat} {l : List (Nat × AV)} {Q : Exit → St → Prop} (k : Nat) (hk : look l k = .g6) (r : c8 P C c ⟨mkS n ((k, .own h.length 0 0 0) :: l), h ++ [⟨0, true, 0, 0, [], 0⟩]⟩ Q) : c8 P C c ⟨mkS n l, h⟩ Q :=
 c8.virtual _ (xY hk n 0) r
theorem A0 {n t : Nat} {l : List (Nat × AV)} {x : AV} (ht : t < n) (hx : look l t = x) : (mkS n l)[t]? = some x := by
 have h1 : t < (mkS n l).length := by rw [G3]; exact ht
 have h2 := pM (n := n) (t := t) (l := l)
 rw [if_pos ht, hx] at h2
 simp only [List.getD, List.getElem?_eq_getElem h1, Option.getD_some] at h2
 rw [List.getElem?_eq_getElem h1, h2]
def O5 (C : Cfg) (n : Nat) (l : List (Nat × AV)) : Operand → AV
 | .tmp t => if t < n then look l t else .any
 | .const v => LL v
 | .global g => C.eD g
 | .func f => .fn (.func f) [] []
theorem oS {n : Nat} {l : List (Nat × AV)} : O5 C n l = rho C (mkS n l) := by
 funext x
 cases x <;> simp only [O5, rho, pM]
theorem W7 {n d : Nat} {l : List (Nat × AV)} {x : AV} (hn : Nat.blt d n = true) (hx : look l d = x) : (mkS n l).getD d .any = x := by
 rw [pM, if_pos (by simpa [Nat.blt_eq] using hn), hx]
theorem c8.spl {c : Code} {n : Nat} {l : List (Nat × AV)} {Q : Exit → St → Prop} {b : Bool} (d : Nat) (hn : Nat.blt d n = true) (hv : look l d = .bool b) (ht : b = true → c8 P C c ⟨mkS n l, h⟩ Q) (hf : b = false → c8 P C c ⟨mkS n l, h⟩ Q) : c8 P C c ⟨mkS n l, h⟩ Q :=
 c8.split d (W7 hn hv) ht hf
theorem l5.spl {ops : Array Oper} {rest : List Oper} {n : Nat} {l : List (Nat × AV)} {Q : St → Prop} {b : Bool} (d : Nat) (hn : Nat.blt d n = true) (hv : look l d = .bool b) (ht : b = true → l5 P C ops rest ⟨mkS n l, h⟩ Q) (hf : b = false → l5 P C ops rest ⟨mkS n l, h⟩ Q) : l5 P C ops rest ⟨mkS n l, h⟩ Q :=
 l5.split d (W7 hn hv) ht hf
theorem bV.spl {ops : Array Oper} {p : cK} {i : Nat} {rest : List Oper} {n : Nat} {l : List (Nat × AV)} {Q : St → Prop} {b : Bool} (d : Nat) (hn : Nat.blt d n = true) (hv : look l d = .bool b) (ht : b = true → bV P C ops p rest i ⟨mkS n l, h⟩ Q) (hf : b = false → bV P C ops p rest i ⟨mkS n l, h⟩ Q) : bV P C ops p rest i ⟨mkS n l, h⟩ Q :=
 bV.split d (W7 hn hv) ht hf
theorem c8.cT {c : Operand} {x y : Code} {n : Nat} {l : List (Nat × AV)} {Q : Exit → St → Prop} (hc : O5 C n l c = .bool true) (r : c8 P C x ⟨mkS n l, h⟩ Q) : c8 P C (.cond c x y) ⟨mkS n l, h⟩ Q := c8.pV (by rw [← oS]; exact hc) r
theorem c8.cF {c : Operand} {x y : Code} {n : Nat} {l : List (Nat × AV)} {Q : Exit → St → Prop} (hc : O5 C n l c = .bool false) (r : c8 P C y ⟨mkS n l, h⟩ Q) : c8 P C (.cond c x y) ⟨mkS n l, h⟩ Q := c8.N6 (by rw [← oS]; exact hc) r
def vJ (ops : Array Oper) (n : Nat) (l : List (Nat × AV)) (o : Oper) : Option Bool :=
 match o.guard with
 | none => some true
 | some (j, want) => match (ops[j]?).bind (·.dst) with
  | some d => match (if d < n then look l d else .any) with
   | .bool b => some (b == want)
   | .tup [] => some false
   | _ => none
  | none => none
theorem qH {ops : Array Oper} {n : Nat} {l : List (Nat × AV)} {o : Oper} : vJ ops n l o = s6 ops (mkS n l) o := by
 unfold vJ s6
 simp only [pM]
 rfl
theorem l5.q {ops : Array Oper} {o : Oper} {rest : List Oper} {Q : St → Prop} {n d : Nat} {l : List (Nat × AV)} {x : AV} {h' : c6} (hk : l5 P C ops rest ⟨mkS n ((d, x) :: l), h'⟩ Q) (hw : s6 ops (mkS n l) o = some true := by rfl) (hd : o.dst = some d := by rfl)
  (hp : p7 C (rho C (mkS n l)) h o.op = some (x, h') := by simp (maxSteps := 2000000) (disch := omega) only [go_sem, simprocAttr, if_pos, if_neg]; rfl) : l5 P C ops (o :: rest) ⟨mkS n l, h⟩ Q :=
 .plain hw hp (by rw [hd]; show l5 P C ops rest ⟨(mkS n l).set d x, h'⟩ Q; rw [bA]; exact hk)
theorem l5.q0 {ops : Array Oper} {o : Oper} {rest : List Oper} {Q : St → Prop} {n : Nat} {l : List (Nat × AV)} {x : AV} {h' : c6} (hk : l5 P C ops rest ⟨mkS n l, h'⟩ Q) (hw : s6 ops (mkS n l) o = some true := by rfl) (hd : o.dst = none := by rfl)
  (hp : p7 C (rho C (mkS n l)) h o.op = some (x, h') := by simp (maxSteps := 2000000) (disch := omega) only [go_sem, simprocAttr, if_pos, if_neg]; rfl) : l5 P C ops (o :: rest) ⟨mkS n l, h⟩ Q :=
 .plain hw hp (by rw [hd]; exact hk)
theorem l5.sk {ops : Array Oper} {o : Oper} {rest : List Oper} {Q : St → Prop} {n d : Nat} {l : List (Nat × AV)} (hk : l5 P C ops rest ⟨mkS n ((d, .tup []) :: l), h⟩ Q) (hw : s6 ops (mkS n l) o = some false := by rfl) (hd : o.dst = some d := by rfl) : l5 P C ops (o :: rest) ⟨mkS n l, h⟩ Q :=
 .skip hw (by rw [hd]; show l5 P C ops rest ⟨(mkS n l).set d _, h⟩ Q; rw [bA]; exact hk)
theorem l5.cq {ops : Array Oper} {o : Oper} {rest : List Oper} {Q : St → Prop} {n d : Nat} {l : List (Nat × AV)} {x : AV} {c : Call} {f : FuncId} {args : List AV} (ho : o.op = .call c) (ht : u3 C (O5 C n l) c = some (f, args)) (hb : n7 C f = true)
  (hc : CallA P C f args h fun y h' => y = x ∧ h' = h) (hk : l5 P C ops rest ⟨mkS n ((d, x) :: l), h⟩ Q) (hw : vJ ops n l o = some true := by rfl) (hd : o.dst = some d := by rfl) : l5 P C ops (o :: rest) ⟨mkS n l, h⟩ Q :=
 l5.LQ (qH ▸ hw) ho (oS ▸ ht) hb hc (by rw [hd]; show l5 P C ops rest ⟨(mkS n l).set d x, h⟩ Q; rw [bA]; exact hk)
theorem l5.ce {ops : Array Oper} {o : Oper} {rest : List Oper} {Q : St → Prop} {n d : Nat} {l : List (Nat × AV)} {x : AV} {H : c6} {c : Call} {f : FuncId} {args : List AV} (ho : o.op = .call c) (ht : u3 C (O5 C n l) c = some (f, args)) (hb : n7 C f = true)
  (hc : CallA P C f args h fun y h' => y = x ∧ h' = H) (hk : l5 P C ops rest ⟨mkS n ((d, x) :: l), H⟩ Q) (hw : vJ ops n l o = some true := by rfl) (hd : o.dst = some d := by rfl) : l5 P C ops (o :: rest) ⟨mkS n l, h⟩ Q :=
 l5.p8 (qH ▸ hw) ho (oS ▸ ht) hb hc (by rw [hd]; show l5 P C ops rest ⟨(mkS n l).set d x, H⟩ Q; rw [bA]; exact hk)
theorem bV.q {ops : Array Oper} {p : cK} {i : Nat} {o : Oper} {rest : List Oper} {Q : St → Prop} {n d : Nat} {l : List (Nat × AV)} {x : AV} {h' : c6} (hk : bV P C ops p rest (i + 1) ⟨mkS n ((d, x) :: l), h'⟩ Q) (hw : s6 ops (mkS n l) o = some true := by rfl) (hd : o.dst = some d := by rfl)
  (hp : tH C (p.isE i) (rho C (mkS n l)) h o.op = some (x, h') := by simp (maxSteps := 2000000) (disch := omega) only [go_sem, simprocAttr, if_pos, if_neg]; rfl) : bV P C ops p (o :: rest) i ⟨mkS n l, h⟩ Q := by
 cases hE : p.isE i with
 | true =>
  rw [hE] at hp
  exact .inl ⟨hw, x, h', .plain hp ⟨rfl, rfl⟩, fun h => by simp [hE] at h, by rw [hd]; show bV P C ops p rest (i + 1) ⟨(mkS n l).set d x, h'⟩ Q; rw [bA]; exact hk⟩
 | false =>
  rw [hE] at hp
  simp only [tH, Option.map_eq_some_iff, Prod.mk.injEq] at hp
  obtain ⟨y, hy, rfl, rfl⟩ := hp
  exact .inl ⟨hw, y, h, .plain (dA hy) ⟨rfl, rfl⟩, fun _ => rfl, by rw [hd]; show bV P C ops p rest (i + 1) ⟨(mkS n l).set d y, h⟩ Q; rw [bA]; exact hk⟩
theorem bV.q0 {ops : Array Oper} {p : cK} {i : Nat} {o : Oper} {rest : List Oper} {Q : St → Prop} {n : Nat} {l : List (Nat × AV)} {x : AV} {h' : c6} (hk : bV P C ops p rest (i + 1) ⟨mkS n l, h'⟩ Q) (hw : s6 ops (mkS n l) o = some true := by rfl) (hd : o.dst = none := by rfl)
  (hp : tH C (p.isE i) (rho C (mkS n l)) h o.op = some (x, h') := by simp (maxSteps := 2000000) (disch := omega) only [go_sem, simprocAttr, if_pos, if_neg]; rfl) : bV P C ops p (o :: rest) i ⟨mkS n l, h⟩ Q := by
 cases hE : p.isE i with
 | true =>
  rw [hE] at hp
  exact .inl ⟨hw, x, h', .plain hp ⟨rfl, rfl⟩, fun h => by simp [hE] at h, by rw [hd]; exact hk⟩
 | false =>
  rw [hE] at hp
  simp only [tH, Option.map_eq_some_iff, Prod.mk.injEq] at hp
  obtain ⟨y, hy, rfl, rfl⟩ := hp
  exact .inl ⟨hw, y, h, .plain (dA hy) ⟨rfl, rfl⟩, fun _ => rfl, by rw [hd]; exact hk⟩
theorem bV.sk {ops : Array Oper} {p : cK} {i : Nat} {o : Oper} {rest : List Oper} {Q : St → Prop} {n d : Nat} {l : List (Nat × AV)} (hk : bV P C ops p rest (i + 1) ⟨mkS n ((d, .tup []) :: l), h⟩ Q) (hw : s6 ops (mkS n l) o = some false := by rfl) (hE : p.isE i = false := by rfl) (hd : o.dst = some d := by rfl) : bV P C ops p (o :: rest) i ⟨mkS n l, h⟩ Q :=
 .inr ⟨hw, hE, by rw [hd]; show bV P C ops p rest (i + 1) ⟨(mkS n l).set d _, h⟩ Q; rw [bA]; exact hk⟩
theorem bV.cq {ops : Array Oper} {p : cK} {i : Nat} {o : Oper} {rest : List Oper} {Q : St → Prop} {n d : Nat} {l : List (Nat × AV)} {x : AV} {c : Call} {f : FuncId} {args : List AV} (ho : o.op = .call c) (ht : u3 C (O5 C n l) c = some (f, args)) (hb : n7 C f = true)
  (hc : CallA P C f args h fun y h' => y = x ∧ h' = h) (hk : bV P C ops p rest (i + 1) ⟨mkS n ((d, x) :: l), h⟩ Q) (hw : vJ ops n l o = some true := by rfl) (hd : o.dst = some d := by rfl) : bV P C ops p (o :: rest) i ⟨mkS n l, h⟩ Q :=
 bV.call (qH ▸ hw) ho (oS ▸ ht) hb hc (by rw [hd]; show bV P C ops p rest (i + 1) ⟨(mkS n l).set d x, h⟩ Q; rw [bA]; exact hk)
def O6 : List (Nat × Tmp) → Nat → Option Tmp
 | [], _ => none
 | (j, d) :: r, i => if i = j then some d else O6 r i
def W8 (js : List (Nat × Tmp)) (sl : List AV) (o : Oper) : Option Bool :=
 match o.guard with
 | none => some true
 | some (j, want) => match O6 js j with
  | some d => match sl.getD d .any with
   | .bool b => some (b == want)
   | .tup [] => some false
   | _ => none
  | none => none
def tT (ops : Array Oper) (js : List (Nat × Tmp)) : Bool := js.all fun x => match (ops[x.1]?).bind (·.dst) with
 | some d => d == x.2
 | none => false
def opsV (C : Cfg) (js : List (Nat × Tmp)) : List Oper → St → Option St
 | [], st => some st
 | o :: rest, st => match W8 js st.sl o with
  | some true => match p7 C (rho C st.sl) st.h o.op with
   | some (x, h') => opsV C js rest ⟨cZ st.sl o.dst x, h'⟩
   | none => none
  | some false => opsV C js rest ⟨cZ st.sl o.dst (.tup []), st.h⟩
  | none => none
def pX (C : Cfg) (js : List (Nat × Tmp)) (p : cK) : List Oper → Nat → St → Option St
 | [], _, st => some st
 | o :: rest, i, st => match W8 js st.sl o with
  | some true => match tH C (p.isE i) (rho C st.sl) st.h o.op with
   | some (x, h') => pX C js p rest (i + 1) ⟨cZ st.sl o.dst x, h'⟩
   | none => none
  | some false => match p.isE i with
   | true => none
   | false => pX C js p rest (i + 1) ⟨cZ st.sl o.dst (.tup []), st.h⟩
  | none => none
theorem G6 {ops : Array Oper} : ∀ {js : List (Nat × Tmp)}, tT ops js = true → ∀ {j d}, O6 js j = some d → (ops[j]?).bind (·.dst) = some d
 | [], _, j, d, h => by simp [O6] at h
 | (k, e) :: r, hg, j, d, h => by
  simp only [tT, List.all_cons, Bool.and_eq_true] at hg
  simp only [O6] at h
  split at h
  ·rename_i hj
   cases h
   subst hj
   have h1 := hg.1
   split at h1
   ·rename_i d' e'
    rw [e']
    simp only [beq_iff_eq] at h1
    rw [h1]
   ·cases h1
  ·exact G6 (js := r) hg.2 h
theorem qI {ops : Array Oper} {js : List (Nat × Tmp)} (hg : tT ops js = true) {sl : List AV} {o : Oper} {b : Bool} (h : W8 js sl o = some b) : s6 ops sl o = some b := by
 unfold W8 at h
 unfold s6
 split at h
 ·rename_i e; rw [e]; exact h
 ·rename_i j want e
  rw [e]
  split at h
  ·rename_i d hd
   simp only [G6 hg hd]
   exact h
  ·cases h
theorem mO {ops : Array Oper} {js : List (Nat × Tmp)} (hg : tT ops js = true) : ∀ {l : List Oper} {st st' : St}, opsV C js l st = some st' → zN C ops l st = some st'
 | [], st, st', h => h
 | o :: l, st, st', h => by
  simp only [opsV] at h
  simp only [zN]
  split at h
  ·rename_i hw
   rw [qI hg hw]
   simp only
   split at h
   ·rename_i e; rw [e]; exact mO hg h
   ·cases h
  ·rename_i hw
   rw [qI hg hw]
   exact mO hg h
  ·cases h
theorem nN {ops : Array Oper} {js : List (Nat × Tmp)} {p : cK} (hg : tT ops js = true) : ∀ {l : List Oper} {i : Nat} {st st' : St}, pX C js p l i st = some st' → tI C ops p l i st = some st'
 | [], i, st, st', h => h
 | o :: l, i, st, st', h => by
  simp only [pX] at h
  simp only [tI]
  split at h
  ·rename_i hw
   rw [qI hg hw]
   simp only
   split at h
   ·rename_i e; rw [e]; exact nN hg h
   ·cases h
  ·rename_i hw
   rw [qI hg hw]
   simp only
   split at h
   ·cases h
   ·rename_i e; rw [e]; exact nN hg h
  ·cases h
section
variable {ops : Array Oper} {rest : List Oper} {st st' : St} {Q : St → Prop} {p : cK} {i : Nat}
theorem l5.g0 (l : List Oper) (js : List (Nat × Tmp)) (hg : tT ops js = true) (hk : l5 P C ops rest st' Q) (h : opsV C js l st = some st') : l5 P C ops (l ++ rest) st Q :=
 l5.pre l.length (by rw [List.take_left]; exact mO hg h) (by rw [List.drop_left]; exact hk)
theorem bV.g0 (l : List Oper) (js : List (Nat × Tmp)) (hg : tT ops js = true) (hk : bV P C ops p rest (i + l.length) st' Q) (h : pX C js p l i st = some st') : bV P C ops p (l ++ rest) i st Q :=
 bV.pre l.length (by rw [List.take_left]; exact nN hg h) (by rw [List.drop_left, List.take_left]; exact hk)
theorem l5.g1 {o1 : Oper} (js : List (Nat × Tmp)) (hg : tT ops js = true) (hk : l5 P C ops rest st' Q) (h : opsV C js [o1] st = some st' := by simp (maxSteps := 2000000) (disch := omega) only [go_sem, simprocAttr, if_pos, if_neg]; rfl) : l5 P C ops (o1 :: rest) st Q := l5.g0 [o1] js hg hk h
theorem bV.g1 {o1 : Oper} (js : List (Nat × Tmp)) (hg : tT ops js = true) (hk : bV P C ops p rest (i + 1) st' Q) (h : pX C js p [o1] i st = some st' := by simp (maxSteps := 2000000) (disch := omega) only [go_sem, simprocAttr, if_pos, if_neg]; rfl) : bV P C ops p (o1 :: rest) i st Q := bV.g0 [o1] js hg hk h
theorem l5.g2 {o1 o2 : Oper} (js : List (Nat × Tmp)) (hg : tT ops js = true) (hk : l5 P C ops rest st' Q) (h : opsV C js [o1, o2] st = some st' := by simp (maxSteps := 2000000) (disch := omega) only [go_sem, simprocAttr, if_pos, if_neg]; rfl) : l5 P C ops (o1 :: o2 :: rest) st Q := l5.g0 [o1, o2] js hg hk h
theorem bV.g2 {o1 o2 : Oper} (js : List (Nat × Tmp)) (hg : tT ops js = true) (hk : bV P C ops p rest (i + 2) st' Q) (h : pX C js p [o1, o2] i st = some st' := by simp (maxSteps := 2000000) (disch := omega) only [go_sem, simprocAttr, if_pos, if_neg]; rfl) : bV P C ops p (o1 :: o2 :: rest) i st Q := bV.g0 [o1, o2] js hg hk h
theorem l5.g3 {o1 o2 o3 : Oper} (js : List (Nat × Tmp)) (hg : tT ops js = true) (hk : l5 P C ops rest st' Q) (h : opsV C js [o1, o2, o3] st = some st' := by simp (maxSteps := 2000000) (disch := omega) only [go_sem, simprocAttr, if_pos, if_neg]; rfl) : l5 P C ops (o1 :: o2 :: o3 :: rest) st Q := l5.g0 [o1, o2, o3] js hg hk h
theorem bV.g3 {o1 o2 o3 : Oper} (js : List (Nat × Tmp)) (hg : tT ops js = true) (hk : bV P C ops p rest (i + 3) st' Q) (h : pX C js p [o1, o2, o3] i st = some st' := by simp (maxSteps := 2000000) (disch := omega) only [go_sem, simprocAttr, if_pos, if_neg]; rfl) : bV P C ops p (o1 :: o2 :: o3 :: rest) i st Q := bV.g0 [o1, o2, o3] js hg hk h
theorem l5.g4 {o1 o2 o3 o4 : Oper} (js : List (Nat × Tmp)) (hg : tT ops js = true) (hk : l5 P C ops rest st' Q) (h : opsV C js [o1, o2, o3, o4] st = some st' := by simp (maxSteps := 2000000) (disch := omega) only [go_sem, simprocAttr, if_pos, if_neg]; rfl) : l5 P C ops (o1 :: o2 :: o3 :: o4 :: rest) st Q := l5.g0 [o1, o2, o3, o4] js hg hk h
theorem bV.g4 {o1 o2 o3 o4 : Oper} (js : List (Nat × Tmp)) (hg : tT ops js = true) (hk : bV P C ops p rest (i + 4) st' Q) (h : pX C js p [o1, o2, o3, o4] i st = some st' := by simp (maxSteps := 2000000) (disch := omega) only [go_sem, simprocAttr, if_pos, if_neg]; rfl) : bV P C ops p (o1 :: o2 :: o3 :: o4 :: rest) i st Q := bV.g0 [o1, o2, o3, o4] js hg hk h
end
def oT : List Nat → Code → Code
 | [], c => c
 | 0 :: r, .seq x _ => oT r x
 | 1 :: r, .seq _ y => oT r y
 | 0 :: r, .block _ c => oT r c
 | 0 :: r, .loop c => oT r c
 | 0 :: r, .cond _ x _ => oT r x
 | 1 :: r, .cond _ _ y => oT r y
 | _ :: _, c => c
def iT (f : Func) : Code := f.body.getD .skip
def Led (n : Nat) (l' : List (Nat × AV)) (H : c6) (e : Exit) (st : St) : Prop := e = .normal ∧ ∃ l hh, st = ⟨mkS n l, H ++ hh⟩ ∧ W5 l l'
theorem Led.mk {n : Nat} {l l' : List (Nat × AV)} {H H' : c6} (hh : c6) (he : H' = H ++ hh) (hs : W5 l l' := by repeat' (first | refine ⟨?_, ?_⟩ | exact trivial | rfl | (refine congrArg (AV.int _) ?_; omega))) : Led n l' H .normal ⟨mkS n l, H'⟩ :=
 ⟨rfl, l, hh, by rw [he], hs⟩
theorem c8.led {c : Code} {st : St} {Q : Exit → St → Prop} {n : Nat} {l' : List (Nat × AV)} {H : c6} (r : c8 P C c st (Led n l' H)) (hq : ∀ l hh, W5 l l' → Q .normal ⟨mkS n l, H ++ hh⟩) : c8 P C c st Q :=
 r.mono fun e st ⟨h1, l, hh, h2, h3⟩ => by rw [h1, h2]; exact hq l hh h3
end
end Go.Ab
end
section
namespace Go.Ab
section
variable {P : Program} {C : Cfg} {h : c6} {id : Nat} {ops : Array Oper} {y : Code} {st st' : St} {Q : Exit → St → Prop}
theorem c8.sr (g : Good P C) (r : l5 P C ops ops.toList st fun st' => c8 P C y st' Q) : c8 P C (.seq (.region id ops false) y) st Q := c8.seq (c8.region g r)
theorem c8.ss (g : Good P C) (p : cK) (r : bV P C ops p ops.toList 0 st fun st' => c8 P C y st' Q) (hp : p.ok ops st.sl.length = true := by kernel_rfl) (hs : p.EF ops = true := by kernel_rfl) : c8 P C (.seq (.region id ops true) y) st Q := c8.seq (c8.EF g p hp hs r)
theorem c8.so (g : Good P C) (p : cK) (r : bV P C ops p ops.toList 0 st fun st' => Q .normal st') (hp : p.ok ops st.sl.length = true := by kernel_rfl) (hs : p.EF ops = true := by kernel_rfl) : c8 P C (.region id ops true) st Q := c8.EF g p hp hs r
theorem c8.sm (g : Good P C) (p : cK) (M : List Nat) (r : cO P C ops p M ops.toList 0 st [st.h] [] fun st' => c8 P C y st' Q) (hp : p.ok ops st.sl.length = true := by kernel_rfl) (hs : p.zP M ops = true := by kernel_rfl) : c8 P C (.seq (.region id ops true) y) st Q := c8.seq (c8.jP g p M hp hs r)
theorem c8.sg (g : Good P C) (p : s7) (m : Nat) (r : u9 P C ops p st.h.length ops.toList 0 st.sl [0] [st.h ++ kept m] [] fun st' => c8 P C y st' Q) (hp : p.ok ops st.sl.length = true := by kernel_rfl) (hS : p.okS ops.size = true := by kernel_rfl) (hK : p.okK ops.size = true := by kernel_rfl) : c8 P C (.seq (.region id ops true) y) st Q := c8.seq (c8.opsG g p m hp hS hK r)
theorem c8.og (g : Good P C) (p : s7) (m : Nat) (r : u9 P C ops p st.h.length ops.toList 0 st.sl [0] [st.h ++ kept m] [] fun st' => Q .normal st') (hp : p.ok ops st.sl.length = true := by kernel_rfl) (hS : p.okS ops.size = true := by kernel_rfl) (hK : p.okK ops.size = true := by kernel_rfl) : c8 P C (.region id ops true) st Q := c8.opsG g p m hp hS hK r
theorem c8.dU {c : Code} {sl : List AV} {H : c6} (I : Nat → St → Prop) {n : Nat} {H0 : c6} (h0 : pW H0 I n ⟨sl, H0⟩) (round : ∀ m sl h, I m ⟨sl, h⟩ → c8 P C c ⟨sl, h⟩ (Round (pW H0 I) m Q))
  (he : H = H0 := by first | rfl | (simp only [List.append_assoc, List.cons_append, List.nil_append]; rfl)) : c8 P C (.loop c) ⟨sl, H⟩ Q := by
 subst he
 exact c8.loopW I n h0 round
end
section
variable {P : Program} {C : Cfg} {ops : Array Oper} {rest : List Oper} {st st' : St} {Q : St → Prop} {p : cK} {i : Nat} {l : List Oper}
theorem bV.nil (h : Q st) : bV P C ops p [] i st Q := h
theorem l5.k (k : Nat) (js : List (Nat × Tmp)) (hk : l5 P C ops (l.drop k) st' Q) (hg : tT ops js = true := by kernel_rfl) (h : opsV C js (l.take k) st = some st' := by simp (maxSteps := 2000000) (disch := omega) only [go_sem, simprocAttr, if_pos, if_neg]; rfl) : l5 P C ops l st Q := l5.pre k (mO hg h) hk
theorem l5.e (k : Nat) (hk : l5 P C ops (l.drop k) st' Q) (h : opsV C [] (l.take k) st = some st' := by simp (maxSteps := 2000000) (disch := omega) only [go_sem, simprocAttr, if_pos, if_neg]; rfl) : l5 P C ops l st Q := l5.pre k (mO rfl h) hk
theorem l5.n (hk : Q st') (h : opsV C [] l st = some st' := by simp (maxSteps := 2000000) (disch := omega) only [go_sem, simprocAttr, if_pos, if_neg]; rfl) : l5 P C ops l st Q := l5.pre l.length (by rw [List.take_length]; exact mO rfl h) (by rw [List.drop_length]; exact hk)
theorem l5.m (js : List (Nat × Tmp)) (hk : Q st') (hg : tT ops js = true := by kernel_rfl) (h : opsV C js l st = some st' := by simp (maxSteps := 2000000) (disch := omega) only [go_sem, simprocAttr, if_pos, if_neg]; rfl) : l5 P C ops l st Q := l5.pre l.length (by rw [List.take_length]; exact mO hg h) (by rw [List.drop_length]; exact hk)
theorem bV.k (k : Nat) (js : List (Nat × Tmp)) (hk : bV P C ops p (l.drop k) (i + (l.take k).length) st' Q) (hg : tT ops js = true := by kernel_rfl) (h : pX C js p (l.take k) i st = some st' := by simp (maxSteps := 2000000) (disch := omega) only [go_sem, simprocAttr, if_pos, if_neg]; rfl) : bV P C ops p l i st Q := bV.pre k (nN hg h) hk
theorem bV.n (js : List (Nat × Tmp)) (hk : Q st') (hg : tT ops js = true := by kernel_rfl) (h : pX C js p l i st = some st' := by simp (maxSteps := 2000000) (disch := omega) only [go_sem, simprocAttr, if_pos, if_neg]; rfl) : bV P C ops p l i st Q := bV.pre l.length (by rw [List.take_length]; exact nN hg h) (by rw [List.drop_length]; exact hk)
end
section
variable {P : Program} {C : Cfg} {h : c6} {ops : Array Oper} {o : Oper} {rest : List Oper} {Q : St → Prop} {n d : Nat} {l : List (Nat × AV)} {x : AV} {H : c6} {c : Call} {f : FuncId} {args : List AV}
theorem l5.ca (ho : o.op = .call c) (ht : u3 C (O5 C n l) c = some (f, args)) (hc : CallA P C f args h fun y h' => y = x ∧ h' = h) (hk : l5 P C ops rest ⟨mkS n ((d, x) :: l), h⟩ Q)
  (hb : n7 C f = true := by kernel_rfl) (hw : vJ ops n l o = some true := by rfl) (hd : o.dst = some d := by rfl) : l5 P C ops (o :: rest) ⟨mkS n l, h⟩ Q := l5.cq ho ht hb hc hk hw hd
theorem l5.ch (ho : o.op = .call c) (ht : u3 C (O5 C n l) c = some (f, args)) (hc : CallA P C f args h fun y h' => y = x ∧ h' = H) (hk : l5 P C ops rest ⟨mkS n ((d, x) :: l), H⟩ Q)
  (hb : n7 C f = true := by kernel_rfl) (hw : vJ ops n l o = some true := by rfl) (hd : o.dst = some d := by rfl) : l5 P C ops (o :: rest) ⟨mkS n l, h⟩ Q := l5.ce ho ht hb hc hk hw hd
theorem bV.ca {p : cK} {i : Nat} (ho : o.op = .call c) (ht : u3 C (O5 C n l) c = some (f, args)) (hc : CallA P C f args h fun y h' => y = x ∧ h' = h) (hk : bV P C ops p rest (i + 1) ⟨mkS n ((d, x) :: l), h⟩ Q)
  (hb : n7 C f = true := by kernel_rfl) (hw : vJ ops n l o = some true := by rfl) (hd : o.dst = some d := by rfl) : bV P C ops p (o :: rest) i ⟨mkS n l, h⟩ Q := bV.cq ho ht hb hc hk hw hd
end
section
variable {P : Program} {C : Cfg} {p : s7} {b : Nat} {ops : Array Oper} {i : Nat} {sl sl' : List AV} {Ks : List Nat} {Hs : List c6} {pd : List Pg} {Q : St → Prop} {o : Oper} {rest : List Oper} {x : AV}
theorem u9.same (hs : some sl = some sl') (r : u9 P C ops p b rest i sl' Ks Hs pd Q) : u9 P C ops p b rest i sl Ks Hs pd Q := by
 cases hs
 exact r
theorem cY.r {look : Nat → Option c6} {D : Nat} {H : c6} (hE : p.isE i = false := by rfl) (hpl : p.place.getD i none = none := by rfl)
  (h : mD C (rho C sl) H o.op = some x := by (simp (maxSteps := 2000000) (disch := omega) only [go_sem, Nat.add_assoc, List.replicate, nK, F8, atA, mkA, laid, kept, z6, List.all_cons, List.all_nil, Bool.and_self, Bool.and_true, Option.map_some, Option.map_none, simprocAttr, if_pos, if_neg]) <;> rfl) : cY P C p b i o sl true x look D H := cY.read hE hpl h
theorem cY.e {look : Nat → Option c6} {D : Nat} {H N : c6} {pl : Option Nat} (hE : p.isE i = true := by rfl) (hpl : (p.place.getD i none).map (b + ·) = pl := by rfl)
  (h : F8 C pl (rho C sl) H o.op = some (x, N) := by (simp (maxSteps := 2000000) (disch := omega) only [go_sem, Nat.add_assoc, List.replicate, nK, F8, atA, mkA, laid, kept, z6, List.all_cons, List.all_nil, Bool.and_self, Bool.and_true, Option.map_some, Option.map_none, simprocAttr, if_pos, if_neg]) <;> rfl) (hl : look (D ||| 2 ^ i) = some N := by rfl) : cY P C p b i o sl true x look D H := cY.eff pl hE hpl h hl
theorem u9.rn (fl : List Bool) (r : u9 P C ops p b rest (i + 1) sl' Ks Hs pd Q) (hw : s6 ops sl o = some true := by rfl) (hE : p.isE i = false := by rfl) (hpl : p.place.getD i none = none := by rfl) (hf : Ks.map (p.fits i) = fl := by kernel_rfl)
  (ha : pK fl Ks Hs (fun _ H => mD C (rho C sl) H o.op = some x) := by simp only [pK, and_true, List.cons_append, List.nil_append]; (repeat' apply And.intro) <;> ((simp (maxSteps := 2000000) (disch := omega) only [go_sem, Nat.add_assoc, List.replicate, nK, F8, atA, mkA, laid, kept, z6, List.all_cons, List.all_nil, Bool.and_self, Bool.and_true, Option.map_some, Option.map_none, simprocAttr, if_pos, if_neg]) <;> rfl))
  (hm : p.jP.contains i = false := by kernel_rfl) (hs : some (cZ sl o.dst x) = some sl' := by simp (maxSteps := 2000000) (disch := omega) only [go_sem, simprocAttr, if_pos, if_neg]; rfl) : u9 P C ops p b (o :: rest) i sl Ks Hs pd Q :=
 u9.read fl hw hE hpl hf ha _ (.inr ⟨rfl, hm⟩) (.same hs r)
theorem u9.rm (fl : List Bool) (r : u9 P C ops p b rest (i + 1) sl' Ks Hs ((i, cY P C p b i o sl true x) :: pd) Q) (hw : s6 ops sl o = some true := by rfl) (hE : p.isE i = false := by rfl) (hpl : p.place.getD i none = none := by rfl) (hf : Ks.map (p.fits i) = fl := by kernel_rfl)
  (ha : pK fl Ks Hs (fun _ H => mD C (rho C sl) H o.op = some x) := by simp only [pK, and_true, List.cons_append, List.nil_append]; (repeat' apply And.intro) <;> ((simp (maxSteps := 2000000) (disch := omega) only [go_sem, Nat.add_assoc, List.replicate, nK, F8, atA, mkA, laid, kept, z6, List.all_cons, List.all_nil, Bool.and_self, Bool.and_true, Option.map_some, Option.map_none, simprocAttr, if_pos, if_neg]) <;> rfl))
  (hs : some (cZ sl o.dst x) = some sl' := by simp (maxSteps := 2000000) (disch := omega) only [go_sem, simprocAttr, if_pos, if_neg]; rfl) : u9 P C ops p b (o :: rest) i sl Ks Hs pd Q :=
 u9.read fl hw hE hpl hf ha _ (.inl rfl) (.same hs r)
theorem u9.en (fl : List Bool) (Ks' : List Nat) (Ns : List c6) {pl : Option Nat} (r : u9 P C ops p b rest (i + 1) sl' Ks' (Ns ++ Hs) pd Q) (hw : s6 ops sl o = some true := by rfl) (hE : p.isE i = true := by rfl) (hpl : (p.place.getD i none).map (b + ·) = pl := by rfl) (hf : Ks.map (p.fits i) = fl := by kernel_rfl) (hK : pL i fl Ks ++ Ks = Ks' := by kernel_rfl)
  (ha : jL fl Hs (fun H N => F8 C pl (rho C sl) H o.op = some (x, N)) Ns := by simp only [jL, and_true, List.cons_append, List.nil_append]; (repeat' apply And.intro) <;> ((simp (maxSteps := 2000000) (disch := omega) only [go_sem, Nat.add_assoc, List.replicate, nK, F8, atA, mkA, laid, kept, z6, List.all_cons, List.all_nil, Bool.and_self, Bool.and_true, Option.map_some, Option.map_none, simprocAttr, if_pos, if_neg]) <;> rfl))
  (hm : p.jP.contains i = false := by kernel_rfl) (hs : some (cZ sl o.dst x) = some sl' := by simp (maxSteps := 2000000) (disch := omega) only [go_sem, simprocAttr, if_pos, if_neg]; rfl) : u9 P C ops p b (o :: rest) i sl Ks Hs pd Q :=
 u9.eff fl Ks' pl hw hE hpl hf hK Ns ha _ (.inr ⟨rfl, hm⟩) (.same hs r)
theorem u9.em (fl : List Bool) (Ks' : List Nat) (Ns : List c6) {pl : Option Nat} (r : u9 P C ops p b rest (i + 1) sl' Ks' (Ns ++ Hs) ((i, cY P C p b i o sl true x) :: pd) Q) (hw : s6 ops sl o = some true := by rfl) (hE : p.isE i = true := by rfl) (hpl : (p.place.getD i none).map (b + ·) = pl := by rfl) (hf : Ks.map (p.fits i) = fl := by kernel_rfl) (hK : pL i fl Ks ++ Ks = Ks' := by kernel_rfl)
  (ha : jL fl Hs (fun H N => F8 C pl (rho C sl) H o.op = some (x, N)) Ns := by simp only [jL, and_true, List.cons_append, List.nil_append]; (repeat' apply And.intro) <;> ((simp (maxSteps := 2000000) (disch := omega) only [go_sem, Nat.add_assoc, List.replicate, nK, F8, atA, mkA, laid, kept, z6, List.all_cons, List.all_nil, Bool.and_self, Bool.and_true, Option.map_some, Option.map_none, simprocAttr, if_pos, if_neg]) <;> rfl))
  (hs : some (cZ sl o.dst x) = some sl' := by simp (maxSteps := 2000000) (disch := omega) only [go_sem, simprocAttr, if_pos, if_neg]; rfl) : u9 P C ops p b (o :: rest) i sl Ks Hs pd Q :=
 u9.eff fl Ks' pl hw hE hpl hf hK Ns ha _ (.inl rfl) (.same hs r)
theorem u9.cn (fl : List Bool) (Ks' : List Nat) (Ns : List c6) {c : Call} {f : FuncId} {args : List AV} (ho : o.op = .call c) (ht : u3 C (rho C sl) c = some (f, args)) (ha : jL fl Hs (fun H N => CallA P C f args H fun y h => y = x ∧ h = N) Ns) (r : u9 P C ops p b rest (i + 1) sl' Ks' (Ns ++ Hs) pd Q)
  (hw : s6 ops sl o = some true := by rfl) (hE : p.isE i = true := by rfl) (hpl : p.place.getD i none = none := by rfl) (hb : n7 C f = true := by kernel_rfl) (hf : Ks.map (p.fits i) = fl := by kernel_rfl) (hK : pL i fl Ks ++ Ks = Ks' := by kernel_rfl)
  (hm : p.jP.contains i = false := by kernel_rfl) (hs : some (cZ sl o.dst x) = some sl' := by simp (maxSteps := 2000000) (disch := omega) only [go_sem, simprocAttr, if_pos, if_neg]; rfl) : u9 P C ops p b (o :: rest) i sl Ks Hs pd Q :=
 u9.p8 fl Ks' hw hE hpl ho ht hb hf hK Ns ha _ (.inr ⟨rfl, hm⟩) (.same hs r)
theorem u9.cm (fl : List Bool) (Ks' : List Nat) (Ns : List c6) {c : Call} {f : FuncId} {args : List AV} (ho : o.op = .call c) (ht : u3 C (rho C sl) c = some (f, args)) (ha : jL fl Hs (fun H N => CallA P C f args H fun y h => y = x ∧ h = N) Ns) (r : u9 P C ops p b rest (i + 1) sl' Ks' (Ns ++ Hs) ((i, cY P C p b i o sl true x) :: pd) Q)
  (hw : s6 ops sl o = some true := by rfl) (hE : p.isE i = true := by rfl) (hpl : p.place.getD i none = none := by rfl) (hb : n7 C f = true := by kernel_rfl) (hf : Ks.map (p.fits i) = fl := by kernel_rfl) (hK : pL i fl Ks ++ Ks = Ks' := by kernel_rfl)
  (hs : some (cZ sl o.dst x) = some sl' := by simp (maxSteps := 2000000) (disch := omega) only [go_sem, simprocAttr, if_pos, if_neg]; rfl) : u9 P C ops p b (o :: rest) i sl Ks Hs pd Q :=
 u9.p8 fl Ks' hw hE hpl ho ht hb hf hK Ns ha _ (.inl rfl) (.same hs r)
theorem u9.cl {c : Call} {f : FuncId} {args : List AV} (ho : o.op = .call c) (ht : u3 C (rho C sl) c = some (f, args)) (hc : ∀ H, CallA P C f args H fun y h' => y = x ∧ h' = H) (r : u9 P C ops p b rest (i + 1) sl' Ks Hs pd Q)
  (hw : s6 ops sl o = some true := by rfl) (hE : p.isE i = false := by rfl) (hpl : p.place.getD i none = none := by rfl) (hb : n7 C f = true := by kernel_rfl) (hs : some (cZ sl o.dst x) = some sl' := by simp (maxSteps := 2000000) (disch := omega) only [go_sem, simprocAttr, if_pos, if_neg]; rfl) : u9 P C ops p b (o :: rest) i sl Ks Hs pd Q :=
 u9.call hw hE hpl ho ht hb hc (.same hs r)
theorem u9.po {q : Pg} (fl : List Bool) (r : u9 P C ops p b [] i sl Ks Hs pd Q) (hf : Ks.map (p.fits q.1) = fl := by kernel_rfl) (ha : pK fl Ks Hs (q.2 (lookW (Ks.zip Hs))) := by simp only [pK, and_true, List.cons_append, List.nil_append]; (repeat' apply And.intro) <;> first | exact cY.r | exact cY.e) : u9 P C ops p b [] i sl Ks Hs (q :: pd) Q := u9.pop fl hf ha r
end
section
variable {C : Cfg} {fn : Func} {st : St} {h0 : c6} {x y : AV} {l : c6} {Q : AV → Prop}
theorem Ends.ex (hx : rB C fn.results st.sl st.h = some x := by simp only [go_sem, rB, iQ, jM]; first | rfl | (simp (maxSteps := 2000000) (disch := omega) only [go_sem, simprocAttr, if_pos, if_neg]; rfl))
  (hl : st.h = h0 ++ l := by first | rfl | exact (List.append_nil _).symm | (simp only [List.append_assoc, List.cons_append, List.nil_append]; rfl)) (hf : fO h0.length st.h 6 x = some y := by first | rfl | (simp only [fO, gG, l9, o5, dK]; rfl) | (simp (maxSteps := 2000000) (disch := omega) only [go_sem, fO, gG, l9, o5, dK, simprocAttr, if_pos, if_neg]; rfl)) (hq : Q y) : Ends C fn (Fin h0 Q) .ret st := ⟨x, hx, l, y, hl, hf, hq⟩
theorem Ends.en (hx : rB C fn.results st.sl st.h = some x := by simp only [go_sem, rB, iQ, jM]; first | rfl | (simp (maxSteps := 2000000) (disch := omega) only [go_sem, simprocAttr, if_pos, if_neg]; rfl))
  (hl : st.h = h0 ++ l := by first | rfl | exact (List.append_nil _).symm | (simp only [List.append_assoc, List.cons_append, List.nil_append]; rfl)) (hf : fO h0.length st.h 6 x = some y := by first | rfl | (simp only [fO, gG, l9, o5, dK]; rfl) | (simp (maxSteps := 2000000) (disch := omega) only [go_sem, fO, gG, l9, o5, dK, simprocAttr, if_pos, if_neg]; rfl)) (hq : Q y) : Ends C fn (Fin h0 Q) .normal st := ⟨x, hx, l, y, hl, hf, hq⟩
end
section
variable {h0 H : c6} {I : Nat → St → Prop} {m n : Nat} {l l' : List (Nat × AV)} {h2 l2 : c6}
theorem pW.v (hI : I m ⟨mkS n l', h2⟩) (he : H = h2 ++ l2 := by first | exact (List.append_nil _).symm | (simp only [List.append_assoc, List.cons_append, List.nil_append])) (hl : h0.length ≤ h2.length := by first | exact Nat.le_refl _ | simp) (hk : cI h0 h2 := by exact cI.refl _)
  (hs : W5 l l' := by repeat' (first | refine ⟨?_, ?_⟩ | exact trivial | rfl | (refine congrArg (AV.int _) ?_; omega) | (refine congrArg (AV.own _ _ _) ?_; simp; done)))
  (hr : W6 h2.length l' := by repeat' (first | refine ⟨?_, ?_⟩ | exact trivial | exact .any | exact .int _ _ | exact .bool _ | exact .str _ | exact .vec _ _ | exact .g6 | (refine .own _ _ _ _ ?_; simp; done) | (refine .ptr _ _ _ ?_; simp; done) | (refine .own _ _ _ _ ?_; simp; omega) | (refine .ptr _ _ _ ?_; simp; omega))) : pW h0 I m ⟨mkS n l, H⟩ := pW.s l' h2 l2 he hl hk hI hs hr
theorem Fits.v (hI : I m ⟨mkS n l', H⟩) (hs : W5 l l' := by repeat' (first | refine ⟨?_, ?_⟩ | exact trivial | rfl | (refine congrArg (AV.int _) ?_; omega))) : Fits I m ⟨mkS n l, H⟩ := Fits.s l' hI hs
end
def unm (n m : Nat) : List Nat := (List.range n).filter fun j => m.testBit j
def effL (ks : List Nat) : List Bool := (List.range (ks.foldr max 0 + 1)).map fun i => ks.contains i
def plk : List (Nat × Nat) → Nat → Option Nat
 | [], _ => none
 | (j, x) :: r, i => if i = j then some x else plk r i
def plkL (pl : List (Nat × Nat)) : List (Option Nat) := (List.range (pl.foldr (fun x => max x.1) 0 + 1)).map fun i => plk pl i
def mkP (n : Nat) (bf ks : List Nat) : cK := ⟨bf.map (unm n), effL ks⟩
def mkG (n : Nat) (bf ks rq fb : List Nat) (pl : List (Nat × Nat)) (ss mu : List Nat) : s7 := ⟨bf.map (unm n), effL ks, rq, fb, plkL pl, ss, mu⟩
theorem plk_nil {i : Nat} : plk [] i = none := rfl
theorem G7 {i j x : Nat} {r : List (Nat × Nat)} : plk ((j, x) :: r) i = if i = j then some x else plk r i := rfl
theorem le_max : ∀ {ks : List Nat} {i : Nat}, i ∈ ks → i ≤ ks.foldr max 0
 | [], i, h => by simp at h
 | k :: ks, i, h => by
  rw [List.foldr_cons]
  rcases List.mem_cons.1 h with rfl | h
  ·omega
  ·have := le_max h; omega
theorem G8 {ks : List Nat} {i : Nat} : (effL ks).getD i false = ks.contains i := by
 unfold effL
 by_cases h : i < ks.foldr max 0 + 1
 ·simp [List.getD, h]
 ·rw [List.getD_eq_getElem?_getD, List.getElem?_eq_none (by simpa using h), Option.getD_none]
  symm
  rw [List.contains_eq_mem, decide_eq_false_iff_not]
  intro hm
  have := le_max hm
  omega
theorem W9 : ∀ {pl : List (Nat × Nat)} {i : Nat}, pl.foldr (fun x => max x.1) 0 < i → plk pl i = none
 | [], i, h => rfl
 | (j, x) :: r, i, h => by
  rw [List.foldr_cons] at h
  simp only at h
  rw [G7, if_neg (by omega), W9 (by omega)]
theorem FB {pl : List (Nat × Nat)} {i : Nat} : (plkL pl).getD i none = plk pl i := by
 unfold plkL
 by_cases h : i < pl.foldr (fun x => max x.1) 0 + 1
 ·simp [List.getD, h]
 ·rw [List.getD_eq_getElem?_getD, List.getElem?_eq_none (by simpa using h), Option.getD_none, W9 (by omega)]
theorem isE_mkP {n i : Nat} {bf ks : List Nat} : (mkP n bf ks).isE i = ks.contains i := G8
theorem isE_mkG {n i : Nat} {bf ks rq fb : List Nat} {pl : List (Nat × Nat)} {ss mu : List Nat} : (mkG n bf ks rq fb pl ss mu).isE i = ks.contains i := G8
theorem X0 {n i : Nat} {bf ks rq fb : List Nat} {pl : List (Nat × Nat)} {ss mu : List Nat} : (mkG n bf ks rq fb pl ss mu).place.getD i none = plk pl i := FB
attribute [go_sem] zN tI xN List.contains_cons List.contains_nil Bool.or_true Bool.true_or Bool.or_false Bool.false_or tH mD s6 p7 dY eS lK fQ lenA minA maxA rho_t rho_c rho_g rho_f LL emb cZ List.set List.getD_cons_zero List.getD_cons_succ List.getD_nil binA pG uL unA D7 tG over oJ M8 wW qZ mF uM tN AV.cellsOf AV.storable AV.one UD.isAgg UD.known lenOf rA dX o5 dK s3 uZ Array.toList List.take_succ_cons List.take_zero List.drop_succ_cons List.drop_zero List.getElem?_cons_succ List.getElem?_cons_zero List.getElem?_toArray Option.bind_some Option.map_some Option.map_none List.map_cons List.map_nil List.length_cons List.length_nil List.length_append Nat.zero_add Nat.add_zero Nat.le_refl Nat.one_mul Nat.mul_one List.append_assoc List.cons_append List.nil_append List.append_nil and_self and_true true_and true_or or_true if_true if_false Bool.false_eq_true not_false_eq_true bTT bTF bFT bFF Bool.not_true Bool.not_false decide_true decide_false Int.toNat_zero Int.toNat_one Int.toNat_natCast List.size_toArray List.flatten_nil List.flatten_cons List.append_eq pM bA EZ W4 DM O3 opsV pX W8 O6 isE_mkP isE_mkG X0 plk_nil G7
end Go.Ab
end
