/-
  A REGION THAT DRAWS ITS ORDER, IN THE PICTURE: if every operation yields the same with whatever heap it may meet, the order does not matter. Conditions: 'Good': what is known of the program is so.
-/
import Derived.Test.YtfcbamfgejfleaaDoorAbsReg
namespace Go.Ab
section
variable {P : Program} {C : Cfg}

/-- The slots ahead of the operation number 'j' of a list. -/
def sigF : List AV → List Oper → List AV → Nat → List AV
  | sl, _, _, 0 => sl
  | sl, o :: l, r :: rs, j + 1 => sigF (putA sl o.dst r) l rs j
  | sl, _, _, _ => sl

/-- What is known of one operation. -/
def Fact (P : Program) (C : Cfg) (ops : Array Oper) (p : Plan) (F : List Heap) (i : Nat) (o : Oper) (sl : List AV) (r : AV) : Prop :=
  (wantA ops sl o = some true ∧ p.isE i = true ∧ OpA P C (rhoR C (o.looksAt ops) sl) (F.getD (p.rank i) []) o.op fun y h => y = r ∧ h = F.getD (p.rank i + 1) []) ∨
  (wantA ops sl o = some true ∧ p.isE i = false ∧ ∀ k, k < F.length → p.meets ops.size i k = true → OpA P C (rhoR C (o.looksAt ops) sl) (F.getD k []) o.op fun y h => y = r ∧ h = F.getD k []) ∨
  (wantA ops sl o = some false ∧ p.isE i = false ∧ r = .tup [])

theorem draw_facts {ops : Array Oper} {p : Plan} {Q : St → Prop} : ∀ (l : List Oper) (i : Nat) (sl : List AV) (hs : List Heap) (pend : List (Nat × (Heap → Prop))),
    DrawA P C ops p l i sl hs pend Q → hs.length = p.rank i + 1 →
    ∃ (rs : List AV) (more : List Heap), rs.length = l.length ∧ (hs.reverse ++ more).length = p.rank (i + l.length) + 1 ∧
      (∀ x ∈ pend, ∀ k, k < (hs.reverse ++ more).length → p.meets ops.size x.1 k = true → x.2 ((hs.reverse ++ more).getD k [])) ∧
      (∀ j o, l[j]? = some o → Fact P C ops p (hs.reverse ++ more) (i + j) o (sigF sl l rs j) (rs.getD j .any)) ∧
      Q ⟨sigF sl l rs l.length, (hs.reverse ++ more).getD (p.rank (i + l.length)) []⟩
  | [], i, sl, hs, pend, hd, hl => by
    obtain ⟨h1, h2⟩ := hd
    refine ⟨[], [], rfl, by simpa using hl, by simpa using h1, by simp, ?_⟩
    have e : (hs.reverse ++ []).getD (p.rank (i + ([] : List Oper).length)) [] = hs.headD [] := by
      cases hs with
      | nil => simp at hl
      | cons x hs =>
        simp only [List.append_nil, List.length_nil, Nat.add_zero, List.headD_cons, List.reverse_cons]
        simp at hl
        rw [List.getD_eq_getElem?_getD, List.getElem?_append_right (by simp; omega)]
        simp [hl]
    rw [e]
    exact h2
  | o :: rest, i, sl, hs, pend, hd, hl => by
    have hcur : ∀ more : List Heap, (hs.reverse ++ more).getD (p.rank i) [] = hs.headD [] := fun more => by
      cases hs with
      | nil => simp at hl
      | cons x hs =>
        simp only [List.headD_cons, List.reverse_cons]
        simp at hl
        rw [List.getD_eq_getElem?_getD, List.append_assoc, List.getElem?_append_right (by simp; omega)]
        simp [hl]
    have hlen : i + (o :: rest).length = i + 1 + rest.length := by simp; omega
    rcases hd with ⟨h1, h2, x, h', h3, h4⟩ | ⟨h1, h2, x, h3, h4⟩ | ⟨h1, h2, x, h4⟩ | ⟨h1, h2, h4⟩
    · obtain ⟨rs, more, k1, k2, k3, k4, k5⟩ := draw_facts rest (i + 1) _ (h' :: hs) pend h4 (by simp [Plan.rank, h2, hl])
      have e : (h' :: hs).reverse ++ more = hs.reverse ++ (h' :: more) := by simp
      rw [e] at k2 k3 k4 k5
      refine ⟨x :: rs, h' :: more, by simp [k1], by rw [hlen]; exact k2, k3, fun j oj hj => ?_, by rw [hlen]; exact k5⟩
      match j with
      | 0 =>
        simp at hj
        subst hj
        refine .inl ⟨h1, h2, ?_⟩
        rw [Nat.add_zero, hcur]
        refine h3.mono fun y h hy => ⟨hy.1, hy.2.trans ?_⟩
        rw [List.getD_eq_getElem?_getD, List.getElem?_append_right (by simp; omega)]
        simp [hl]
      | j + 1 =>
        have := k4 j oj (by simpa using hj)
        rw [show i + 1 + j = i + (j + 1) from by omega] at this
        simpa [sigF] using this
    · obtain ⟨rs, more, k1, k2, k3, k4, k5⟩ := draw_facts rest (i + 1) _ hs pend h4 (by simp [Plan.rank, h2, hl])
      refine ⟨x :: rs, more, by simp [k1], by rw [hlen]; exact k2, k3, fun j oj hj => ?_, by rw [hlen]; exact k5⟩
      match j with
      | 0 =>
        simp at hj
        subst hj
        exact .inr (.inl ⟨h1, h2, fun k _ _ => .plain (x := x) (by show plainA C (rhoR C (o.looksAt ops) sl) _ o.op = _; unfold plainA; rw [h3]) ⟨rfl, rfl⟩⟩)
      | j + 1 =>
        have := k4 j oj (by simpa using hj)
        rw [show i + 1 + j = i + (j + 1) from by omega] at this
        simpa [sigF] using this
    · obtain ⟨rs, more, k1, k2, k3, k4, k5⟩ := draw_facts rest (i + 1) _ hs _ h4 (by simp [Plan.rank, h2, hl])
      refine ⟨x :: rs, more, by simp [k1], by rw [hlen]; exact k2, fun y hy => k3 y (by simp [hy]), fun j oj hj => ?_, by rw [hlen]; exact k5⟩
      match j with
      | 0 =>
        simp at hj
        subst hj
        exact .inr (.inl ⟨h1, h2, fun k hk hm => k3 _ List.mem_cons_self k hk hm⟩)
      | j + 1 =>
        have := k4 j oj (by simpa using hj)
        rw [show i + 1 + j = i + (j + 1) from by omega] at this
        simpa [sigF] using this
    · obtain ⟨rs, more, k1, k2, k3, k4, k5⟩ := draw_facts rest (i + 1) _ hs pend h4 (by simp [Plan.rank, h2, hl])
      refine ⟨.tup [] :: rs, more, by simp [k1], by rw [hlen]; exact k2, k3, fun j oj hj => ?_, by rw [hlen]; exact k5⟩
      match j with
      | 0 =>
        simp at hj
        subst hj
        exact .inr (.inr ⟨h1, h2, rfl⟩)
      | j + 1 =>
        have := k4 j oj (by simpa using hj)
        rw [show i + 1 + j = i + (j + 1) from by omega] at this
        simpa [sigF] using this

theorem length_putA (sl : List AV) (d : Option Tmp) (x : AV) : (putA sl d x).length = sl.length := by cases d <;> simp [putA]

theorem length_sigF : ∀ (l : List Oper) (sl : List AV) (rs : List AV) (j : Nat), (sigF sl l rs j).length = sl.length
  | _, sl, _, 0 => by simp [sigF]
  | [], sl, _, j + 1 => by simp [sigF]
  | _ :: _, sl, [], j + 1 => by simp [sigF]
  | o :: l, sl, r :: rs, j + 1 => by rw [sigF, length_sigF l _ rs j, length_putA]

theorem getD_putA_ne (sl : List AV) (d : Option Tmp) (x : AV) (t : Nat) (h : d ≠ some t) : (putA sl d x).getD t .any = sl.getD t .any := by
  cases d with
  | none => rfl
  | some d =>
    have : d ≠ t := fun e => h (by rw [e])
    simp [putA, List.getElem?_set_ne this]

theorem getD_putA_eq (sl : List AV) (x : AV) (t : Nat) (h : t < sl.length) : (putA sl (some t) x).getD t .any = x := by
  simp [putA, h]

/-- What the slots ahead of an operation hold: what an operation before it has left, or what they held at first. -/
theorem sigF_get : ∀ (l : List Oper) (sl rs : List AV) (j t : Nat), rs.length = l.length → j ≤ l.length → (∀ o ∈ l, ∀ d, o.dst = some d → d < sl.length) →
    (∀ (a b : Nat) (oa ob : Oper), l[a]? = some oa → l[b]? = some ob → a ≠ b → ∀ d, oa.dst = some d → ob.dst ≠ some d) →
    (∃ (a : Nat) (oa : Oper), a < j ∧ l[a]? = some oa ∧ oa.dst = some t ∧ (sigF sl l rs j).getD t .any = rs.getD a .any) ∨
    ((∀ (a : Nat) (oa : Oper), a < j → l[a]? = some oa → oa.dst ≠ some t) ∧ (sigF sl l rs j).getD t .any = sl.getD t .any)
  | _, sl, _, 0, t, _, _, _, _ => .inr ⟨fun a oa ha => by omega, by simp [sigF]⟩
  | [], sl, rs, j + 1, t, _, hj, _, _ => by simp at hj
  | o :: l, sl, [], j + 1, t, hr, _, _, _ => by simp at hr
  | o :: l, sl, r :: rs, j + 1, t, hr, hj, hb, hd => by
    simp only [sigF]
    rcases sigF_get l (putA sl o.dst r) rs j t (by simpa using hr) (by simpa using hj) (fun o' ho' d hd' => by rw [length_putA]; exact hb o' (by simp [ho']) d hd')
      (fun a b oa ob h1 h2 h3 => hd (a + 1) (b + 1) oa ob (by simpa using h1) (by simpa using h2) (by omega)) with ⟨a, oa, h1, h2, h3, h4⟩ | ⟨h1, h2⟩
    · exact .inl ⟨a + 1, oa, by omega, by simpa using h2, h3, by simpa using h4⟩
    · by_cases ho : o.dst = some t
      · refine .inl ⟨0, o, by omega, rfl, ho, ?_⟩
        rw [h2, ho, getD_putA_eq _ _ _ (hb o (by simp) t ho)]
        rfl
      · refine .inr ⟨fun a oa ha hoa => ?_, ?_⟩
        · match a with
          | 0 => simp at hoa; subst hoa; exact ho
          | a + 1 => exact h1 a oa (by omega) (by simpa using hoa)
        · rw [h2, getD_putA_ne _ _ _ _ ho]

theorem rank_mono (p : Plan) : ∀ {i j : Nat}, i ≤ j → p.rank i ≤ p.rank j := by
  intro i j h
  induction h with
  | refl => exact Nat.le_refl _
  | step _ ih => exact Nat.le_trans ih (by simp only [Plan.rank]; omega)

theorem rank_lt (p : Plan) {i j : Nat} (h : i < j) (hi : p.isE i = true) : p.rank i < p.rank j := by
  have h1 : p.rank (i + 1) ≤ p.rank j := rank_mono p h
  simp only [Plan.rank, hi, if_true] at h1
  omega

/-- An operation that may turn the heap, of each smaller rank. -/
theorem rank_find (p : Plan) : ∀ (i k : Nat), k < p.rank i → ∃ j, j < i ∧ p.isE j = true ∧ p.rank j = k
  | 0, k, h => by simp [Plan.rank] at h
  | i + 1, k, h => by
    simp only [Plan.rank] at h
    by_cases hk : k < p.rank i
    · obtain ⟨j, h1, h2, h3⟩ := rank_find p i k hk
      exact ⟨j, by omega, h2, h3⟩
    · by_cases hi : p.isE i = true
      · rw [if_pos hi] at h
        exact ⟨i, by omega, hi, by omega⟩
      · rw [if_neg hi] at h
        omega

/-! ### The plan, read -/

structure PlanSpec (p : Plan) (ops : Array Oper) (slots : Nat) : Prop where
  back : ∀ (i : Nat) (o : Oper), ops[i]? = some o → ∀ e ∈ o.after, Region.binds .any e = true → e.on < i
  bef : ∀ (i : Nat) (o : Oper), ops[i]? = some o → ∀ j ∈ p.bef i, ∃ e ∈ o.after, Region.binds .any e = true ∧ (e.on = j ∨ j ∈ p.bef e.on)
  fits : ∀ (i : Nat) (o : Oper) (d : Tmp), ops[i]? = some o → o.dst = some d → d < slots
  apart : ∀ (i j : Nat) (oi oj : Oper), ops[i]? = some oi → ops[j]? = some oj → i ≠ j → ∀ d, oj.dst = some d → oi.dst ≠ some d
  look : ∀ (i j : Nat) (oi oj : Oper), ops[i]? = some oi → ops[j]? = some oj → i ≠ j → ∀ d, oj.dst = some d → d ∈ oi.looksAt ops → (j < i ∧ j ∈ p.bef i) ∨ (i < j ∧ i ∈ p.bef j)
  eff : ∀ i j, i < ops.size → j < i → p.isE i = true → p.isE j = true → j ∈ p.bef i

theorem Plan.spec {p : Plan} {ops : Array Oper} {slots : Nat} (h : p.ok ops slots = true) : PlanSpec p ops slots := by
  have key : ∀ (i : Nat) (o : Oper), ops[i]? = some o → _ := fun i o ho => by
    have h1 := List.all_eq_true.1 h i (List.mem_range.2 (Array.getElem?_eq_some_iff.1 ho).1)
    simp only [ho, Bool.and_eq_true] at h1
    exact h1
  have key2 : ∀ (i j : Nat) (oi oj : Oper), ops[i]? = some oi → ops[j]? = some oj → i ≠ j → _ := fun i j oi oj hi hj hne => by
    have h1 := List.all_eq_true.1 (key i oi hi).2 j (List.mem_range.2 (Array.getElem?_eq_some_iff.1 hj).1)
    simp only [hj, Bool.or_eq_true, beq_iff_eq, Ne.symm hne, false_or, Bool.and_eq_true] at h1
    exact h1
  refine ⟨fun i o ho e he hb => ?_, fun i o ho j hj => ?_, fun i o d ho hd => ?_, fun i j oi oj hi hj hne d hd => ?_, fun i j oi oj hi hj hne d hd hl => ?_, fun i j hi hj h1 h2 => ?_⟩
  · have h1 := (key i o ho).1.1.1
    have h2 := Array.all_eq_true_iff_forall_mem.1 h1 e he
    simp only [Bool.or_eq_true, decide_eq_true_eq, Bool.not_eq_true'] at h2
    rcases h2 with h2 | h2
    · exact h2
    · rw [hb] at h2; cases h2
  · have h1 := (key i o ho).1.1.2
    have h2 := List.all_eq_true.1 h1 j hj
    obtain ⟨e, he, h3⟩ := Array.any_eq_true'.1 h2
    simp only [Bool.and_eq_true, Bool.or_eq_true, beq_iff_eq] at h3
    refine ⟨e, he, h3.1, ?_⟩
    rcases h3.2 with h4 | h4
    · exact .inl h4
    · exact .inr (by simpa using h4)
  · have h1 := (key i o ho).1.2
    simp only [hd, decide_eq_true_eq] at h1
    exact h1
  · have h1 := (key2 i j oi oj hi hj hne).1
    simp only [hd, Bool.and_eq_true, bne_iff_ne, ne_eq] at h1
    exact h1.1
  · have h1 := (key2 i j oi oj hi hj hne).1
    simp only [hd, Bool.and_eq_true, Bool.or_eq_true, Bool.not_eq_true'] at h1
    have h2 := h1.2
    have hc : (oi.looksAt ops).contains d = true := by simpa using hl
    rcases h2 with h2 | h2
    · rw [hc] at h2; cases h2
    · split at h2
      · rename_i hlt
        exact .inl ⟨hlt, by simpa using h2⟩
      · rename_i hlt
        exact .inr ⟨by omega, by simpa using h2⟩
  · have hi' : ops[i]? = some ops[i] := Array.getElem?_eq_getElem hi
    have hj' : ops[j]? = some ops[j] := Array.getElem?_eq_getElem (by omega)
    have h3 := (key2 i j _ _ hi' hj' (by omega)).2
    simp only [h1, h2, hj, decide_true, Bool.and_self, Bool.not_true, Bool.false_eq_true, false_or] at h3
    simpa using h3

/-- The operations that have come up. -/
structure DInv (C : Cfg) (ops : Array Oper) (p : Plan) (F : List Heap) (sl0 rs : List AV) (B : Nat) (h0 : Heap) (φ0 : Map) (w0 : World) (listed : Array Bool) (a : Act) (w : World) (k : Nat) (φ : Map) : Prop where
  lsz : listed.size = ops.size
  down : ∀ (i : Nat) (o : Oper), ops[i]? = some o → listed.getD i false = true → ∀ e ∈ o.after, Region.binds .any e = true → listed.getD e.on false = true
  dst : ∀ (i : Nat) (o : Oper) (d : Tmp), ops[i]? = some o → listed.getD i false = true → o.dst = some d → Rel (F.getD k []) φ w (a.tmps.getD d undef) (rs.getD i .any)
  oth : ∀ t, (∀ (i : Nat) (o : Oper), ops[i]? = some o → listed.getD i false = true → o.dst ≠ some t) → Rel (F.getD k []) φ w (a.tmps.getD t undef) (sl0.getD t .any)
  num : ∀ j, j < ops.size → p.isE j = true → (listed.getD j false = true ↔ p.rank j < k)
  top : k < F.length
  pic : Pic C.glob B (F.getD k []) φ w
  ev : Ev h0 φ0 w0 (F.getD k []) φ w
  size : sl0.length ≤ a.tmps.size
  nodef : a.defers = []

theorem getD_default {listed : Array Bool} {i : Nat} (h : listed.getD i true = false) : i < listed.size ∧ listed.getD i false = false := by
  by_cases hi : i < listed.size
  · simp [Array.getD_eq_getD_getElem?, hi] at h
    exact ⟨hi, by simp [Array.getD_eq_getD_getElem?, hi, h]⟩
  · simp [Array.getD_eq_getD_getElem?, hi] at h

theorem set_get {listed : Array Bool} {i j : Nat} (hi : i < listed.size) : (listed.setIfInBounds i true).getD j false = if j = i then true else listed.getD j false := by
  by_cases hj : j = i
  · subst hj
    simp [Array.getD_eq_getD_getElem?, hi]
  · simp [Array.getD_eq_getD_getElem?, Array.getElem?_setIfInBounds_ne (Ne.symm hj), hj]

/-- The operations ahead of one that has come up, or may, have come up. -/
theorem DInv.bef {ops : Array Oper} {p : Plan} {F : List Heap} {sl0 rs : List AV} {B : Nat} {h0 : Heap} {φ0 : Map} {w0 : World} {listed : Array Bool} {a : Act} {w : World} {k : Nat} {φ : Map} (d : DInv C ops p F sl0 rs B h0 φ0 w0 listed a w k φ) {slots : Nat} (s : PlanSpec p ops slots) :
    ∀ (i : Nat) (o : Oper), ops[i]? = some o → (∀ e ∈ o.after, Region.binds .any e = true → listed.getD e.on false = true) → ∀ j ∈ p.bef i, listed.getD j false = true := by
  intro i
  induction i using Nat.strongRecOn with
  | _ i ih =>
    intro o ho he j hj
    obtain ⟨e, hem, hb, hor⟩ := s.bef i o ho j hj
    have hl := he e hem hb
    rcases hor with rfl | hj'
    · exact hl
    · have hon := s.back i o ho e hem hb
      have hsz : e.on < ops.size := by
        rw [← d.lsz]
        rcases Nat.lt_or_ge e.on listed.size with h' | h'
        · exact h'
        · simp [Array.getD_eq_getD_getElem?, Array.getElem?_eq_none h'] at hl
      exact ih e.on hon _ (Array.getElem?_eq_getElem hsz) (d.down _ _ (Array.getElem?_eq_getElem hsz) hl) j hj'

/-- How many have not come up. -/
def left (n : Nat) (listed : Array Bool) : Nat := ((List.range n).filter fun i => !listed.getD i false).length

theorem filter_lt {α : Type} {l : List α} {f g : α → Bool} (hsub : ∀ x, g x = true → f x = true) {y : α} (hy : y ∈ l) (hf : f y = true) (hg : g y = false) : (l.filter g).length < (l.filter f).length := by
  induction l with
  | nil => simp at hy
  | cons x l ih =>
    have hle : ∀ l' : List α, (l'.filter g).length ≤ (l'.filter f).length := by
      intro l'
      induction l' with
      | nil => simp
      | cons z l' ih' =>
        simp only [List.filter_cons]
        by_cases hz : g z = true
        · rw [if_pos hz, if_pos (hsub z hz)]; simp only [List.length_cons]; omega
        · rw [if_neg hz]; split <;> (try simp only [List.length_cons]) <;> omega
    simp only [List.filter_cons]
    rcases List.mem_cons.1 hy with rfl | hy'
    · rw [hg, hf]
      simp only [Bool.false_eq_true, if_false, if_true, List.length_cons]
      have := hle l
      omega
    · have := ih hy'
      by_cases hz : g x = true
      · rw [if_pos hz, if_pos (hsub x hz)]; simp only [List.length_cons]; omega
      · rw [if_neg hz]; split <;> (try simp only [List.length_cons]) <;> omega

theorem left_set {n i : Nat} {listed : Array Bool} (hi : i < listed.size) (hn : i < n) (hu : listed.getD i false = false) : left n (listed.setIfInBounds i true) < left n listed := by
  unfold left
  refine filter_lt (y := i) (fun x hx => ?_) (List.mem_range.2 hn) (by simp [hu]) (by rw [set_get hi]; simp)
  rw [set_get hi] at hx
  split at hx
  · simp at hx
  · exact hx

end
end Go.Ab
