/-
  A REGION THAT DRAWS ITS ORDER, IN THE PICTURE, WHERE OPERATIONS THAT TURN THE HEAP NEED NOT HAVE AN ORDER: there is a heap for each set of them that may have come up. Conditions: 'Good': what is known of the program is so.
-/
import Derived.Test.YtfcbamfgejfleaaDoorAbsMove
import Derived.Test.YtfcbamfgejfleaaDoorAbsMulti
namespace Go.Ab
section
variable {P : Program} {C : Cfg}

/-- What is known of a region's edges. 'req': the operations that turn the heap and come before; 'forb': those that come behind; 'place': where a new block is laid. -/
structure PlanG where
  before : List (List Nat)
  eff : List Bool
  req : List Nat
  forb : List Nat
  place : List (Option Nat)
  sets : List Nat
  multi : List Nat

def PlanG.bef (p : PlanG) (i : Nat) : List Nat := p.before.getD i []
def PlanG.isE (p : PlanG) (i : Nat) : Bool := p.eff.getD i false
/-- May the operation come up when those of the set have? -/
def PlanG.fits (p : PlanG) (i D : Nat) : Bool := Nat.beq (D &&& p.req.getD i 0) (p.req.getD i 0) && (Nat.beq (D &&& p.forb.getD i 0) 0 && !D.testBit i)

def PlanG.ok (p : PlanG) (ops : Array Oper) (slots : Nat) : Bool :=
  (List.range ops.size).all fun i => match ops[i]? with
    | none => false
    | some o =>
      o.after.all (fun e => decide (e.on < i) || !Region.binds .any e) &&
      (p.bef i).all (fun j => o.after.any fun e => Region.binds .any e && (e.on == j || (p.bef e.on).contains j)) &&
      (match o.dst with
       | some d => decide (d < slots)
       | none => true) &&
      ((List.range ops.size).all fun j => j == i || match ops[j]? with
        | none => false
        | some oj =>
          (match oj.dst with
           | some d => o.dst != some d && (!(o.looksAt ops).contains d || (if j < i then (p.bef i).contains j else (p.bef j).contains i))
           | none => true)) &&
      ((List.range ops.size).all fun j => (p.req.getD i 0).testBit j == (p.isE j && (p.bef i).contains j)) &&
      ((List.range ops.size).all fun j => (p.forb.getD i 0).testBit j == (p.isE j && (p.bef j).contains i)) &&
      decide (p.req.getD i 0 < 2 ^ ops.size) && decide (p.forb.getD i 0 < 2 ^ ops.size)

structure SpecG (p : PlanG) (ops : Array Oper) (slots : Nat) : Prop where
  back : ∀ (i : Nat) (o : Oper), ops[i]? = some o → ∀ e ∈ o.after, Region.binds .any e = true → e.on < i
  bef : ∀ (i : Nat) (o : Oper), ops[i]? = some o → ∀ j ∈ p.bef i, ∃ e ∈ o.after, Region.binds .any e = true ∧ (e.on = j ∨ j ∈ p.bef e.on)
  fits : ∀ (i : Nat) (o : Oper) (d : Tmp), ops[i]? = some o → o.dst = some d → d < slots
  apart : ∀ (i j : Nat) (oi oj : Oper), ops[i]? = some oi → ops[j]? = some oj → i ≠ j → ∀ d, oj.dst = some d → oi.dst ≠ some d
  look : ∀ (i j : Nat) (oi oj : Oper), ops[i]? = some oi → ops[j]? = some oj → i ≠ j → ∀ d, oj.dst = some d → d ∈ oi.looksAt ops → (j < i ∧ j ∈ p.bef i) ∨ (i < j ∧ i ∈ p.bef j)
  req : ∀ i j, i < ops.size → (p.req.getD i 0).testBit j = true → j < ops.size ∧ p.isE j = true ∧ j ∈ p.bef i
  forb : ∀ i j, i < ops.size → (p.forb.getD i 0).testBit j = true → j < ops.size ∧ p.isE j = true ∧ i ∈ p.bef j

theorem PlanG.spec {p : PlanG} {ops : Array Oper} {slots : Nat} (h : p.ok ops slots = true) : SpecG p ops slots := by
  have key : ∀ (i : Nat) (o : Oper), ops[i]? = some o → _ := fun i o ho => by
    have h1 := List.all_eq_true.1 h i (List.mem_range.2 (Array.getElem?_eq_some_iff.1 ho).1)
    simp only [ho, Bool.and_eq_true] at h1
    exact h1
  have key2 : ∀ (i j : Nat) (oi oj : Oper), ops[i]? = some oi → ops[j]? = some oj → i ≠ j → _ := fun i j oi oj hi hj hne => by
    have h1 := List.all_eq_true.1 (key i oi hi).1.1.1.1.2 j (List.mem_range.2 (Array.getElem?_eq_some_iff.1 hj).1)
    simp only [hj, Bool.or_eq_true, beq_iff_eq, Ne.symm hne, false_or] at h1
    exact h1
  refine ⟨fun i o ho e he hb => ?_, fun i o ho j hj => ?_, fun i o d ho hd => ?_, fun i j oi oj hi hj hne d hd => ?_, fun i j oi oj hi hj hne d hd hl => ?_, fun i j hi hj => ?_, fun i j hi hj => ?_⟩
  · have h2 := Array.all_eq_true_iff_forall_mem.1 (key i o ho).1.1.1.1.1.1.1 e he
    simp only [Bool.or_eq_true, decide_eq_true_eq, Bool.not_eq_true'] at h2
    rcases h2 with h2 | h2
    · exact h2
    · rw [hb] at h2; cases h2
  · have h2 := List.all_eq_true.1 (key i o ho).1.1.1.1.1.1.2 j hj
    obtain ⟨e, he, h3⟩ := Array.any_eq_true'.1 h2
    simp only [Bool.and_eq_true, Bool.or_eq_true, beq_iff_eq] at h3
    refine ⟨e, he, h3.1, ?_⟩
    rcases h3.2 with h4 | h4
    · exact .inl h4
    · exact .inr (by simpa using h4)
  · have h1 := (key i o ho).1.1.1.1.1.2
    simp only [hd, decide_eq_true_eq] at h1
    exact h1
  · have h1 := key2 i j oi oj hi hj hne
    simp only [hd, Bool.and_eq_true, bne_iff_ne, ne_eq] at h1
    exact h1.1
  · have h1 := key2 i j oi oj hi hj hne
    simp only [hd, Bool.and_eq_true, Bool.or_eq_true, Bool.not_eq_true'] at h1
    have h2 := h1.2
    have hc : (oi.looksAt ops).contains d = true := by simpa using hl
    rcases h2 with h2 | h2
    · rw [hc] at h2; cases h2
    · split at h2
      · rename_i hlt
        exact .inl ⟨hlt, by simpa using h2⟩
      · rename_i hlt
        exact .inr ⟨by omega, by simpa using h2⟩
  · have ho : ops[i]? = some ops[i] := Array.getElem?_eq_getElem hi
    have hjn : j < ops.size := by
      have := (key i _ ho).1.2
      simp only [decide_eq_true_eq] at this
      rcases Nat.lt_or_ge j ops.size with h' | h'
      · exact h'
      · rw [Nat.testBit_lt_two_pow (Nat.lt_of_lt_of_le this (Nat.pow_le_pow_right (by decide) h'))] at hj
        cases hj
    have h2 := List.all_eq_true.1 (key i _ ho).1.1.1.2 j (List.mem_range.2 hjn)
    rw [hj] at h2
    simp only [beq_iff_eq] at h2
    have h3 := h2.symm
    simp only [Bool.and_eq_true] at h3
    exact ⟨hjn, h3.1, by simpa using h3.2⟩
  · have ho : ops[i]? = some ops[i] := Array.getElem?_eq_getElem hi
    have hjn : j < ops.size := by
      have := (key i _ ho).2
      simp only [decide_eq_true_eq] at this
      rcases Nat.lt_or_ge j ops.size with h' | h'
      · exact h'
      · rw [Nat.testBit_lt_two_pow (Nat.lt_of_lt_of_le this (Nat.pow_le_pow_right (by decide) h'))] at hj
        cases hj
    have h2 := List.all_eq_true.1 (key i _ ho).1.1.2 j (List.mem_range.2 hjn)
    rw [hj] at h2
    simp only [beq_iff_eq] at h2
    have h3 := h2.symm
    simp only [Bool.and_eq_true] at h3
    exact ⟨hjn, h3.1, by simpa using h3.2⟩

/-- The heap of a set. -/
def lookW : List (Nat × Heap) → Nat → Option Heap
  | [], _ => none
  | (D, H) :: W, E => match Nat.beq D E with
    | true => some H
    | false => lookW W E

/-- An operation leads to 'K', where a new block may be laid at a place. -/
def OpG (P : Program) (C : Cfg) (pl : Option Nat) (ρ : Operand → AV) (h : Heap) (o : Op) (K : AV → Heap → Prop) : Prop :=
  match pl with
  | none => OpA P C ρ h o K
  | some β => ∃ x h', atA C ρ h β o = some (x, h') ∧ K x h'

theorem OpG.sound (g : Good P C) {B : Nat} {φ : Map} {w : World} {a : Act} {h : Heap} {ρ : Operand → AV} {o : Oper} {pl : Option Nat} {K : AV → Heap → Prop} {Q : Exit → Act → World → Prop} (i : Pic C.glob B h φ w) (hρ : ∀ x, Rel h φ w (a.eval x) (ρ x))
    (r : OpG P C pl ρ h o.op K) : o.wp P a w (OpPost C B h φ w a o.dst K) Q := by
  unfold OpG at r
  split at r
  · exact OpA.sound g i hρ r
  · obtain ⟨x, h', hp, hk⟩ := r
    obtain ⟨nx, v, w', φ', h1, h2, h3, h4, h5⟩ := atA_ok i g hρ hp
    unfold Oper.wp
    rw [h1]
    rcases h2 with rfl | ⟨rfl, rfl⟩
    · exact ⟨v, x, h', φ', rfl, h3, h4, h5, hk⟩
    · exact ⟨undef, x, h', φ', rfl, h3, h4, h5, hk⟩

def FactG (P : Program) (C : Cfg) (ops : Array Oper) (p : PlanG) (b : Nat) (W : List (Nat × Heap)) (i : Nat) (o : Oper) (sl : List AV) (r : AV) : Prop :=
  (wantA ops sl o = some true ∧ ∀ D H, lookW W D = some H → p.fits i D = true →
    ∃ H', OpG P C ((p.place.getD i none).map (b + ·)) (rhoR C (o.looksAt ops) sl) H o.op (fun y h => y = r ∧ h = H') ∧ (p.isE i = true → lookW W (D ||| 2 ^ i) = some H') ∧ (p.isE i = false → H' = H)) ∨
  (wantA ops sl o = some false ∧ r = .tup [] ∧ ∀ D H, lookW W D = some H → p.fits i D = true → p.isE i = true → lookW W (D ||| 2 ^ i) = some H)

/-- The operations that have come up. -/
structure DG (C : Cfg) (ops : Array Oper) (p : PlanG) (W : List (Nat × Heap)) (sl0 rs : List AV) (B : Nat) (h0 : Heap) (φ0 : Map) (w0 : World) (listed : Array Bool) (a : Act) (w : World) (D : Nat) (H : Heap) (φ : Map) : Prop where
  lsz : listed.size = ops.size
  down : ∀ (i : Nat) (o : Oper), ops[i]? = some o → listed.getD i false = true → ∀ e ∈ o.after, Region.binds .any e = true → listed.getD e.on false = true
  dst : ∀ (i : Nat) (o : Oper) (d : Tmp), ops[i]? = some o → listed.getD i false = true → o.dst = some d → Rel H φ w (a.tmps.getD d undef) (rs.getD i .any)
  oth : ∀ t, (∀ (i : Nat) (o : Oper), ops[i]? = some o → listed.getD i false = true → o.dst ≠ some t) → Rel H φ w (a.tmps.getD t undef) (sl0.getD t .any)
  num : ∀ j, D.testBit j = true ↔ (j < ops.size ∧ p.isE j = true ∧ listed.getD j false = true)
  top : lookW W D = some H
  pic : Pic C.glob B H φ w
  ev : Ev h0 φ0 w0 H φ w
  size : sl0.length ≤ a.tmps.size
  nodef : a.defers = []

variable {ops : Array Oper} {p : PlanG} {W : List (Nat × Heap)} {sl0 rs : List AV} {B : Nat} {h0 : Heap} {φ0 : Map} {w0 : World} {listed : Array Bool} {a : Act} {w : World} {D : Nat} {H : Heap} {φ : Map}

theorem DG.bef (d : DG C ops p W sl0 rs B h0 φ0 w0 listed a w D H φ) {slots : Nat} (s : SpecG p ops slots) :
    ∀ (i : Nat) (o : Oper), ops[i]? = some o → (∀ e ∈ o.after, Region.binds .any e = true → listed.getD e.on false = true) → ∀ j ∈ p.bef i, listed.getD j false = true := by
  intro i
  induction i using Nat.strongRecOn with
  | _ i ih =>
    intro o ho he j hj
    obtain ⟨e, hem, hb, hor⟩ := s.bef i o ho j hj
    have hl := he e hem hb
    rcases hor with rfl | hj'
    · exact hl
    · have hon := s.back i o ho e hem hb
      have hsz : e.on < ops.size := by
        rw [← d.lsz]
        rcases Nat.lt_or_ge e.on listed.size with h' | h'
        · exact h'
        · simp [Array.getD_eq_getD_getElem?, Array.getElem?_eq_none h'] at hl
      exact ih e.on hon _ (Array.getElem?_eq_getElem hsz) (d.down _ _ (Array.getElem?_eq_getElem hsz) hl) j hj'

theorem DG.looks (d : DG C ops p W sl0 rs B h0 φ0 w0 listed a w D H φ) (s : SpecG p ops sl0.length)
    (hrs : rs.length = ops.size) {i : Nat} {o : Oper} (ho : ops[i]? = some o) (hun : listed.getD i false = false) (hall : ∀ e ∈ o.after, Region.binds .any e = true → listed.getD e.on false = true) {t : Tmp} (ht : t ∈ o.looksAt ops) :
    Rel H φ w (a.tmps.getD t undef) ((sigF sl0 ops.toList rs i).getD t .any) := by
  have hi : i < ops.size := (Array.getElem?_eq_some_iff.1 ho).1
  rcases sigF_get ops.toList sl0 rs i t (by simpa using hrs) (by simp; omega) (fun x hx e he => by
      obtain ⟨j, hj, rfl⟩ := List.mem_iff_getElem.1 hx
      exact s.fits j _ e (by rw [← Array.getElem?_toList]; exact List.getElem?_eq_getElem hj) he) (fun x y ox oy h1 h2 h3 e he => by
      exact s.apart y x oy ox (by simpa using h2) (by simpa using h1) (Ne.symm h3) e he) with ⟨j, oj, h1, h2, h3, h4⟩ | ⟨h1, h2⟩
  · rw [h4]
    have hj : ops[j]? = some oj := by simpa using h2
    rcases s.look i j o oj ho hj (by omega) t h3 ht with ⟨_, h5⟩ | ⟨h5, _⟩
    · exact d.dst j oj t hj (d.bef s i o ho hall j h5) h3
    · omega
  · rw [h2]
    refine d.oth t fun j oj hj hl hd => ?_
    by_cases hji : j < i
    · exact h1 j oj hji (by simpa using hj) hd
    · by_cases hje : j = i
      · subst hje
        rw [hun] at hl
        cases hl
      · rcases s.look i j o oj ho hj (Ne.symm hje) t hd ht with ⟨h5, _⟩ | ⟨h5, h6⟩
        · omega
        · have := d.bef s j oj hj (d.down j oj hj hl) i h6
          rw [hun] at this
          cases this

theorem DG.evalR (d : DG C ops p W sl0 rs B h0 φ0 w0 listed a w D H φ) (s : SpecG p ops sl0.length)
    (hrs : rs.length = ops.size) {i : Nat} {o : Oper} (ho : ops[i]? = some o) (hun : listed.getD i false = false) (hall : ∀ e ∈ o.after, Region.binds .any e = true → listed.getD e.on false = true) (x : Operand) :
    Rel H φ w (a.eval x) (rhoR C (o.looksAt ops) (sigF sl0 ops.toList rs i) x) := by
  cases x with
  | tmp t =>
    simp only [rhoR]
    split
    · rename_i hc
      exact d.looks s hrs ho hun hall (by simpa using hc)
    · exact .any_of _
  | const v => exact embT_rel v
  | global g => exact .pure (d.pic.glob g)
  | func f => exact .pure (.func (.func f))

theorem DG.wanted (d : DG C ops p W sl0 rs B h0 φ0 w0 listed a w D H φ) (s : SpecG p ops sl0.length)
    (hrs : rs.length = ops.size) {i : Nat} {o : Oper} (ho : ops[i]? = some o) (hun : listed.getD i false = false) (hall : ∀ e ∈ o.after, Region.binds .any e = true → listed.getD e.on false = true) {b : Bool}
    (hw : wantA ops (sigF sl0 ops.toList rs i) o = some b) : Region.wanted o (yielded ops a.tmps) = b := by
  unfold wantA at hw
  unfold Region.wanted
  cases hg : o.guard with
  | none => simp [hg] at hw; simp [hw]
  | some jw =>
    obtain ⟨j, want⟩ := jw
    simp only [hg] at hw
    cases hd : (ops[j]?).bind (·.dst) with
    | none => simp [hd] at hw
    | some e =>
      simp only [hd] at hw
      split at hw
      · rename_i t ht
        cases hw
        have hmem : e ∈ o.looksAt ops := by
          unfold Oper.looksAt
          simp [hg, hd]
        have hr := d.looks s hrs ho hun hall hmem
        rw [ht] at hr
        have hv := hr.bool_inv
        have ht' : a.tmps[e]? = some (.bool t) := by
          cases he : a.tmps[e]? with
          | none => simp [Array.getD_eq_getD_getElem?, he, undef] at hv
          | some v => simp [Array.getD_eq_getD_getElem?, he] at hv; rw [hv]
        have hy : yielded ops a.tmps j = some t := by
          unfold yielded
          simp [hd, ht']
        simp only [hy]
        cases t <;> cases want <;> rfl
      · rename_i ht
        cases hw
        have hmem : e ∈ o.looksAt ops := by
          unfold Oper.looksAt
          simp [hg, hd]
        have hr := d.looks s hrs ho hun hall hmem
        rw [ht] at hr
        obtain ⟨a', hv, hsz, _⟩ := hr.tup_inv
        have hy : yielded ops a.tmps j = none := by
          unfold yielded
          simp only [hd, Option.bind_some]
          cases he : a.tmps[e]? with
          | none => rfl
          | some v =>
            simp [Array.getD_eq_getD_getElem?, he] at hv
            rw [hv]
        show (yielded ops a.tmps j == some want) = false
        rw [hy]
        rfl
      · cases hw

/-- One operation more has come up. -/
theorem DG.step (d : DG C ops p W sl0 rs B h0 φ0 w0 listed a w D H φ) (s : SpecG p ops sl0.length)
    {i : Nat} {o : Oper} (ho : ops[i]? = some o) (hall : ∀ e ∈ o.after, Region.binds .any e = true → listed.getD e.on false = true)
    {D' : Nat} {H' : Heap} {φ' : Map} {w' : World} {v : Value} (hk : ∀ j, D'.testBit j = true ↔ (j < ops.size ∧ p.isE j = true ∧ (listed.setIfInBounds i true).getD j false = true)) (hk' : lookW W D' = some H')
    (hp : Pic C.glob B H' φ' w') (he : Ev H φ w H' φ' w') (hv : Rel H' φ' w' v (rs.getD i .any)) :
    DG C ops p W sl0 rs B h0 φ0 w0 (listed.setIfInBounds i true) (a.put o.dst v) w' D' H' φ' := by
  have hi : i < listed.size := by rw [d.lsz]; exact (Array.getElem?_eq_some_iff.1 ho).1
  have hget : ∀ j, (listed.setIfInBounds i true).getD j false = true ↔ (j = i ∨ listed.getD j false = true) := fun j => by
    rw [set_get hi]
    by_cases hj : j = i <;> simp [hj]
  have hput : ∀ t, o.dst ≠ some t → (a.put o.dst v).tmps.getD t undef = a.tmps.getD t undef := fun t ht => by
    cases hd : o.dst with
    | none => simp [Act.put]
    | some e =>
      have : e ≠ t := fun h => ht (by rw [hd, h])
      simp [Act.put, Array.getD_eq_getD_getElem?, Array.getElem?_setIfInBounds_ne this]
  refine ⟨by simp [d.lsz], fun j oj hj hl e hem hb => ?_, fun j oj t hj hl hd => ?_, fun t ht => ?_, hk, hk', hp, d.ev.trans he, ?_, ?_⟩
  · rw [hget]
    rcases (hget j).1 hl with rfl | hl'
    · rw [ho] at hj
      cases hj
      exact .inr (hall e hem hb)
    · exact .inr (d.down j oj hj hl' e hem hb)
  · by_cases hji : j = i
    · subst hji
      rw [ho] at hj
      cases hj
      have ht := s.fits j o t ho hd
      have ht' : t < a.tmps.size := Nat.lt_of_lt_of_le ht d.size
      have : (a.put o.dst v).tmps.getD t undef = v := by simp [hd, Act.put, Array.getD_eq_getD_getElem?, ht']
      rw [this]
      exact hv
    · have hl' : listed.getD j false = true := by
        rcases (hget j).1 hl with h | h
        · exact absurd h hji
        · exact h
      rw [hput t (s.apart i j o oj ho hj (Ne.symm hji) t hd)]
      exact he.rel (d.dst j oj t hj hl' hd)
  · rw [hput t (ht i o ho ((hget i).2 (.inl rfl)))]
    exact he.rel (d.oth t fun j oj hj hl => ht j oj hj ((hget j).2 (.inr hl)))
  · have : (a.put o.dst v).tmps.size = a.tmps.size := by cases hd : o.dst <;> simp [Act.put]
    rw [this]
    exact d.size
  · have : (a.put o.dst v).defers = a.defers := by cases hd : o.dst <;> simp [Act.put]
    rw [this]
    exact d.nodef

def PlanG.full (p : PlanG) : Nat → Nat
  | 0 => 0
  | k + 1 => if p.isE k then p.full k ||| 2 ^ k else p.full k

theorem PlanG.full_bit (p : PlanG) : ∀ n j, (p.full n).testBit j = true ↔ (j < n ∧ p.isE j = true)
  | 0, j => by simp [PlanG.full]
  | n + 1, j => by
    have ih := p.full_bit n j
    simp only [PlanG.full]
    split
    · rename_i hE
      rw [Nat.testBit_or, Bool.or_eq_true, ih, Nat.testBit_two_pow, decide_eq_true_eq]
      constructor
      · rintro (⟨h1, h2⟩ | rfl)
        · exact ⟨by omega, h2⟩
        · exact ⟨by omega, hE⟩
      · rintro ⟨h1, h2⟩
        by_cases e : n = j
        · exact .inr e
        · exact .inl ⟨by omega, h2⟩
    · rename_i hE
      rw [ih]
      constructor
      · rintro ⟨h1, h2⟩; exact ⟨by omega, h2⟩
      · rintro ⟨h1, h2⟩
        by_cases e : n = j
        · subst e; exact absurd h2 hE
        · exact ⟨by omega, h2⟩

theorem draw_anyG (g : Good P C) {Hf : Heap} {b : Nat} (s : SpecG p ops sl0.length) (hrs : rs.length = ops.size) (hF : lookW W (p.full ops.size) = some Hf)
    (hfact : ∀ i o, ops[i]? = some o → FactG P C ops p b W i o (sigF sl0 ops.toList rs i) (rs.getD i .any)) {Q : Exit → Act → World → Prop}
    (hQ : ∀ a w φ, Pic C.glob B Hf φ w → Ev h0 φ0 w0 Hf φ w → SlRel Hf φ w a (sigF sl0 ops.toList rs ops.size) → Q .normal a w) :
    ∀ (fuel : Nat) (listed : Array Bool) (a : Act) (w : World) (D : Nat) (H : Heap) (φ : Map), left ops.size listed ≤ fuel → DG C ops p W sl0 rs B h0 φ0 w0 listed a w D H φ → wpAny P .any ops Q fuel listed a w := by
  -- nothing may come up any more: all have come up
  have done : ∀ (listed : Array Bool) (a : Act) (w : World) (D : Nat) (H : Heap) (φ : Map), DG C ops p W sl0 rs B h0 φ0 w0 listed a w D H φ → (∀ i, i < ops.size → listed.getD i false = true) → Q .normal a w := by
    intro listed a w D H φ d hall
    have hD : D = p.full ops.size := by
      refine Nat.eq_of_testBit_eq fun j => ?_
      rw [Bool.eq_iff_iff, d.num, p.full_bit]
      constructor
      · rintro ⟨h1, h2, _⟩; exact ⟨h1, h2⟩
      · rintro ⟨h1, h2⟩; exact ⟨h1, h2, hall j h1⟩
    have hH : H = Hf := by
      have := d.top
      rw [hD, hF] at this
      exact (Option.some.inj this).symm
    subst hH
    refine hQ a w φ d.pic d.ev ⟨by rw [length_sigF]; exact d.size, fun t => ?_, d.nodef⟩
    rcases sigF_get ops.toList sl0 rs ops.size t (by simpa using hrs) (by simp) (fun x hx e he => by
        obtain ⟨j, hj, rfl⟩ := List.mem_iff_getElem.1 hx
        exact s.fits j _ e (by rw [← Array.getElem?_toList]; exact List.getElem?_eq_getElem hj) he) (fun x y ox oy h1 h2 h3 e he => by
        exact s.apart y x oy ox (by simpa using h2) (by simpa using h1) (Ne.symm h3) e he) with ⟨j, oj, h1, h2, h3, h4⟩ | ⟨h1, h2⟩
    · rw [h4]
      exact d.dst j oj t (by simpa using h2) (hall j h1) h3
    · rw [h2]
      exact d.oth t fun j oj hj _ => h1 j oj (Array.getElem?_eq_some_iff.1 hj).1 (by simpa using hj)
  have noready : ∀ (listed : Array Bool), listed.size = ops.size → Region.ready .any ops listed = [] → ∀ i, i < ops.size → listed.getD i false = true := by
    intro listed hsz hr i
    induction i using Nat.strongRecOn with
    | _ i ih =>
      intro hi
      cases hl : listed.getD i false with
      | true => rfl
      | false =>
        have ho : ops[i]? = some ops[i] := Array.getElem?_eq_getElem hi
        have hmem : i ∈ Region.ready .any ops listed := by
          rw [mem_ready]
          refine ⟨?_, _, ho, fun e he hb => ?_⟩
          · simp [Array.getD_eq_getD_getElem?, hsz, hi] at hl ⊢
            exact hl
          · have hon := s.back i _ ho e he hb
            exact ih e.on hon (by omega)
        rw [hr] at hmem
        cases hmem
  intro fuel
  induction fuel with
  | zero =>
    intro listed a w D H φ hleft d
    have hall : ∀ i, i < ops.size → listed.getD i false = true := by
      intro i hi
      cases hl : listed.getD i false with
      | true => rfl
      | false =>
        have : i ∈ (List.range ops.size).filter fun i => !listed.getD i false := List.mem_filter.2 ⟨List.mem_range.2 hi, by simp [hl]⟩
        have h0 : ((List.range ops.size).filter fun i => !listed.getD i false) = [] := List.eq_nil_of_length_eq_zero (by unfold left at hleft; omega)
        rw [h0] at this
        cases this
    refine ⟨?_, done listed a w D H φ d hall⟩
    cases hr : Region.ready .any ops listed with
    | nil => rfl
    | cons x xs =>
      have hx : x ∈ Region.ready .any ops listed := by rw [hr]; simp
      obtain ⟨h1, _, h2, _⟩ := mem_ready.1 hx
      have := getD_default h1
      rw [hall x (Array.getElem?_eq_some_iff.1 h2).1] at this
      cases this.2
  | succ fuel ih =>
    intro listed a w D H φ hleft d
    refine ⟨fun hr => done listed a w D H φ d (noready listed d.lsz hr), fun i hi => ?_⟩
    obtain ⟨hun0, o, ho, hall⟩ := mem_ready.1 hi
    obtain ⟨hisz, hun⟩ := getD_default hun0
    have hin : i < ops.size := by rw [← d.lsz]; exact hisz
    have hlt := left_set hisz hin hun
    have hbef := d.bef s i o ho hall
    have hget : ∀ j, (listed.setIfInBounds i true).getD j false = true ↔ (j = i ∨ listed.getD j false = true) := fun j => by
      rw [set_get hisz]
      by_cases hj : j = i <;> simp [hj]
    have hDi : D.testBit i = false := by
      cases hb : D.testBit i with
      | false => rfl
      | true => have := ((d.num i).1 hb).2.2; rw [hun] at this; cases this
    have hfits : p.fits i D = true := by
      unfold PlanG.fits
      simp only [Bool.and_eq_true, Nat.beq_eq, hDi, Bool.not_false, and_true]
      refine ⟨Nat.eq_of_testBit_eq fun j => ?_, Nat.eq_of_testBit_eq fun j => ?_⟩
      · rw [Nat.testBit_and]
        cases hr : (p.req.getD i 0).testBit j with
        | false => rw [Bool.and_false]
        | true =>
          obtain ⟨h1, h2, h3⟩ := s.req i j hin hr
          rw [(d.num j).2 ⟨h1, h2, hbef j h3⟩]
          rfl
      · rw [Nat.testBit_and, Nat.zero_testBit]
        cases hr : (p.forb.getD i 0).testBit j with
        | false => rw [Bool.and_false]
        | true =>
          obtain ⟨h1, h2, h3⟩ := s.forb i j hin hr
          cases hb : D.testBit j with
          | false => rfl
          | true =>
            have hl := ((d.num j).1 hb).2.2
            have hoj : ops[j]? = some ops[j] := Array.getElem?_eq_getElem h1
            have := d.bef s j _ hoj (d.down j _ hoj hl) i h3
            rw [hun] at this
            cases this
    have hmore : p.isE i = true → ∀ j, (D ||| 2 ^ i).testBit j = true ↔ (j < ops.size ∧ p.isE j = true ∧ (listed.setIfInBounds i true).getD j false = true) := by
      intro hE j
      rw [Nat.testBit_or, Bool.or_eq_true, Nat.testBit_two_pow, decide_eq_true_eq, d.num, hget]
      constructor
      · rintro (⟨h1, h2, h3⟩ | rfl)
        · exact ⟨h1, h2, .inr h3⟩
        · exact ⟨hin, hE, .inl rfl⟩
      · rintro ⟨h1, h2, h3 | h3⟩
        · exact .inr h3.symm
        · exact .inl ⟨h1, h2, h3⟩
    have hsame : p.isE i = false → ∀ j, D.testBit j = true ↔ (j < ops.size ∧ p.isE j = true ∧ (listed.setIfInBounds i true).getD j false = true) := by
      intro hE j
      rw [d.num, hget]
      constructor
      · rintro ⟨h1, h2, h3⟩; exact ⟨h1, h2, .inr h3⟩
      · rintro ⟨h1, h2, h3 | h3⟩
        · subst h3; rw [hE] at h2; cases h2
        · exact ⟨h1, h2, h3⟩
    unfold wpOp
    simp only [ho]
    rcases hfact i o ho with ⟨h1, h2⟩ | ⟨h1, h2, h3⟩
    · rw [if_pos (d.wanted s hrs ho hun hall h1)]
      obtain ⟨H', k1, k2, k3⟩ := h2 D H d.top hfits
      refine .inl (Oper.wp_mono (fun a' w' hp => ?_) (OpG.sound g d.pic (d.evalR s hrs ho hun hall) k1))
      obtain ⟨v, x, h', φ', rfl, hp1, hp2, hp3, rfl, rfl⟩ := hp
      cases hE : p.isE i with
      | true => exact ih _ _ _ (D ||| 2 ^ i) _ φ' (by omega) (d.step s ho hall (hmore hE) (k2 hE) hp1 hp2 hp3)
      | false =>
        have := k3 hE
        subst this
        exact ih _ _ _ D _ φ' (by omega) (d.step s ho hall (hsame hE) d.top hp1 hp2 hp3)
    · -- it is not carried out
      rw [if_neg (by rw [d.wanted s hrs ho hun hall h1]; simp)]
      cases hE : p.isE i with
      | true => exact ih _ _ _ (D ||| 2 ^ i) H φ (by omega) (d.step s ho hall (hmore hE) (h3 D H d.top hfits hE) d.pic (.refl _ _ _) (by rw [h2]; exact skip_rel))
      | false => exact ih _ _ _ D H φ (by omega) (d.step s ho hall (hsame hE) d.top d.pic (.refl _ _ _) (by rw [h2]; exact skip_rel))

/-- Places that are kept for new blocks. -/
def kept (m : Nat) : Heap := List.replicate m ⟨0, true, 0, 0, [], 0⟩

theorem keep_pic {G : Nat → AV} {h : Heap} (i : Pic G B h φ w) : ∀ m, Pic G B (h ++ kept m) φ w ∧ Ev h φ w (h ++ kept m) φ w
  | 0 => by simpa [kept] using ⟨i, Ev.refl h φ w⟩
  | m + 1 => by
    obtain ⟨i1, e1⟩ := keep_pic i m
    obtain ⟨i2, e2⟩ := push_virt i1
    have : h ++ kept (m + 1) = (h ++ kept m) ++ [⟨0, true, 0, 0, [], 0⟩] := by simp [kept, List.replicate_succ']
    rw [this]
    exact ⟨i2, e1.trans e2⟩

theorem RunA.drawG (g : Good P C) {id : Nat} {st : St} {Q : Exit → St → Prop} (p : PlanG) (m : Nat) (hp : p.ok ops st.sl.length = true) (rs : List AV) (W : List (Nat × Heap)) (Hf : Heap) (hrs : rs.length = ops.size)
    (h0 : lookW W 0 = some (st.h ++ kept m)) (hF : lookW W (p.full ops.size) = some Hf)
    (hfact : ∀ i o, ops[i]? = some o → FactG P C ops p st.h.length W i o (sigF st.sl ops.toList rs i) (rs.getD i .any)) (hq : Q .normal ⟨sigF st.sl ops.toList rs ops.size, Hf⟩) : RunA P C (.region id ops true) st Q := by
  intro B φ w a i s
  have sp := PlanG.spec hp
  obtain ⟨i1, e1⟩ := keep_pic i m
  refine wp_region_any g.mixed (draw_anyG (C := C) g (B := B) (h0 := st.h) (φ0 := φ) (w0 := w) (sl0 := st.sl) sp hrs hF hfact (fun a' w' φ' k1 k2 k3 => ⟨_, φ', k1, k2, k3, hq⟩) ops.size (Array.replicate ops.size false) a _ 0 (st.h ++ kept m) φ ?_ ?_)
  · unfold left
    have := List.length_filter_le (fun i => !(Array.replicate ops.size false).getD i false) (List.range ops.size)
    simpa using this
  · have hno : ∀ j, (Array.replicate ops.size false).getD j false = false := fun j => by
      by_cases hj : j < ops.size <;> simp [Array.getD_eq_getD_getElem?, hj]
    have hg := grownBy_drawn w
    refine ⟨by simp, fun j o _ hl => (by rw [hno] at hl; cases hl), fun j o t _ hl => (by rw [hno] at hl; cases hl), fun t _ => ?_, fun j => by rw [hno]; simp, h0, ?_, ?_, s.size, s.nodef⟩
    · exact (Ev.of_grown hg).rel (e1.rel (s.rel t))
    · exact i1.of_grown hg
    · exact e1.trans (Ev.of_grown hg)
end
end Go.Ab
