/-
  A REGION THAT DRAWS ITS ORDER, IN THE PICTURE (the rule). Conditions: 'Good': what is known of the program is so.
-/
import Derived.Test.YtfcbamfgejfleaaDoorAbsDraw
namespace Go.Ab
section
variable {P : Program} {C : Cfg}

theorem getD_true_false {listed : Array Bool} {i : Nat} (hi : i < listed.size) (h : listed.getD i true = true) : listed.getD i false = true := by
  simp [Array.getD_eq_getD_getElem?, hi] at h ⊢
  exact h

/-- What an operation that may come up looks at is what it would look at in the order of the text. -/
theorem DInv.looks {ops : Array Oper} {p : Plan} {F : List Heap} {sl0 rs : List AV} {B : Nat} {h0 : Heap} {φ0 : Map} {w0 : World} {listed : Array Bool} {a : Act} {w : World} {k : Nat} {φ : Map} (d : DInv C ops p F sl0 rs B h0 φ0 w0 listed a w k φ) (s : PlanSpec p ops sl0.length)
    (hrs : rs.length = ops.size) {i : Nat} {o : Oper} (ho : ops[i]? = some o) (hun : listed.getD i false = false) (hall : ∀ e ∈ o.after, Region.binds .any e = true → listed.getD e.on false = true) {t : Tmp} (ht : t ∈ o.looksAt ops) :
    Rel (F.getD k []) φ w (a.tmps.getD t undef) ((sigF sl0 ops.toList rs i).getD t .any) := by
  have hi : i < ops.size := (Array.getElem?_eq_some_iff.1 ho).1
  rcases sigF_get ops.toList sl0 rs i t (by simpa using hrs) (by simp; omega) (fun x hx e he => by
      obtain ⟨j, hj, rfl⟩ := List.mem_iff_getElem.1 hx
      exact s.fits j _ e (by rw [← Array.getElem?_toList]; exact List.getElem?_eq_getElem hj) he) (fun x y ox oy h1 h2 h3 e he => by
      exact s.apart y x oy ox (by simpa using h2) (by simpa using h1) (Ne.symm h3) e he) with ⟨j, oj, h1, h2, h3, h4⟩ | ⟨h1, h2⟩
  · rw [h4]
    have hj : ops[j]? = some oj := by simpa using h2
    rcases s.look i j o oj ho hj (by omega) t h3 ht with ⟨_, h5⟩ | ⟨h5, _⟩
    · exact d.dst j oj t hj (d.bef s i o ho hall j h5) h3
    · omega
  · rw [h2]
    refine d.oth t fun j oj hj hl hd => ?_
    by_cases hji : j < i
    · exact h1 j oj hji (by simpa using hj) hd
    · by_cases hje : j = i
      · subst hje
        rw [hun] at hl
        cases hl
      · rcases s.look i j o oj ho hj (Ne.symm hje) t hd ht with ⟨h5, _⟩ | ⟨h5, h6⟩
        · omega
        · have := d.bef s j oj hj (d.down j oj hj hl) i h6
          rw [hun] at this
          cases this

theorem DInv.evalR {ops : Array Oper} {p : Plan} {F : List Heap} {sl0 rs : List AV} {B : Nat} {h0 : Heap} {φ0 : Map} {w0 : World} {listed : Array Bool} {a : Act} {w : World} {k : Nat} {φ : Map} (d : DInv C ops p F sl0 rs B h0 φ0 w0 listed a w k φ) (s : PlanSpec p ops sl0.length)
    (hrs : rs.length = ops.size) {i : Nat} {o : Oper} (ho : ops[i]? = some o) (hun : listed.getD i false = false) (hall : ∀ e ∈ o.after, Region.binds .any e = true → listed.getD e.on false = true) (x : Operand) :
    Rel (F.getD k []) φ w (a.eval x) (rhoR C (o.looksAt ops) (sigF sl0 ops.toList rs i) x) := by
  cases x with
  | tmp t =>
    simp only [rhoR]
    split
    · rename_i hc
      exact d.looks s hrs ho hun hall (by simpa using hc)
    · exact .any_of _
  | const v => exact embT_rel v
  | global g => exact .pure (d.pic.glob g)
  | func f => exact .pure (.func (.func f))

theorem DInv.wanted {ops : Array Oper} {p : Plan} {F : List Heap} {sl0 rs : List AV} {B : Nat} {h0 : Heap} {φ0 : Map} {w0 : World} {listed : Array Bool} {a : Act} {w : World} {k : Nat} {φ : Map} (d : DInv C ops p F sl0 rs B h0 φ0 w0 listed a w k φ) (s : PlanSpec p ops sl0.length)
    (hrs : rs.length = ops.size) {i : Nat} {o : Oper} (ho : ops[i]? = some o) (hun : listed.getD i false = false) (hall : ∀ e ∈ o.after, Region.binds .any e = true → listed.getD e.on false = true) {b : Bool}
    (hw : wantA ops (sigF sl0 ops.toList rs i) o = some b) : Region.wanted o (yielded ops a.tmps) = b := by
  unfold wantA at hw
  unfold Region.wanted
  cases hg : o.guard with
  | none => simp [hg] at hw; simp [hw]
  | some jw =>
    obtain ⟨j, want⟩ := jw
    simp only [hg] at hw
    cases hd : (ops[j]?).bind (·.dst) with
    | none => simp [hd] at hw
    | some e =>
      simp only [hd] at hw
      split at hw
      · rename_i t ht
        cases hw
        have hmem : e ∈ o.looksAt ops := by
          unfold Oper.looksAt
          simp [hg, hd]
        have hr := d.looks s hrs ho hun hall hmem
        rw [ht] at hr
        have hv := hr.bool_inv
        have ht' : a.tmps[e]? = some (.bool t) := by
          cases he : a.tmps[e]? with
          | none => simp [Array.getD_eq_getD_getElem?, he, undef] at hv
          | some v => simp [Array.getD_eq_getD_getElem?, he] at hv; rw [hv]
        have hy : yielded ops a.tmps j = some t := by
          unfold yielded
          simp [hd, ht']
        simp only [hy]
        cases t <;> cases want <;> rfl
      · rename_i ht
        cases hw
        have hmem : e ∈ o.looksAt ops := by
          unfold Oper.looksAt
          simp [hg, hd]
        have hr := d.looks s hrs ho hun hall hmem
        rw [ht] at hr
        obtain ⟨a', hv, hsz, _⟩ := hr.tup_inv
        have hy : yielded ops a.tmps j = none := by
          unfold yielded
          simp only [hd, Option.bind_some]
          cases he : a.tmps[e]? with
          | none => rfl
          | some v =>
            simp [Array.getD_eq_getD_getElem?, he] at hv
            rw [hv]
        show (yielded ops a.tmps j == some want) = false
        rw [hy]
        rfl
      · cases hw

/-- One operation more has come up. -/
theorem DInv.step {ops : Array Oper} {p : Plan} {F : List Heap} {sl0 rs : List AV} {B : Nat} {h0 : Heap} {φ0 : Map} {w0 : World} {listed : Array Bool} {a : Act} {w : World} {k : Nat} {φ : Map} (d : DInv C ops p F sl0 rs B h0 φ0 w0 listed a w k φ) (s : PlanSpec p ops sl0.length)
    {i : Nat} {o : Oper} (ho : ops[i]? = some o) (hun : listed.getD i false = false) (hall : ∀ e ∈ o.after, Region.binds .any e = true → listed.getD e.on false = true)
    {k' : Nat} {φ' : Map} {w' : World} {v : Value} (hk : ∀ j, j < ops.size → p.isE j = true → ((listed.setIfInBounds i true).getD j false = true ↔ p.rank j < k')) (hk' : k' < F.length)
    (hp : Pic C.glob B (F.getD k' []) φ' w') (he : Ev (F.getD k []) φ w (F.getD k' []) φ' w') (hv : Rel (F.getD k' []) φ' w' v (rs.getD i .any)) :
    DInv C ops p F sl0 rs B h0 φ0 w0 (listed.setIfInBounds i true) (a.put o.dst v) w' k' φ' := by
  have hi : i < listed.size := by rw [d.lsz]; exact (Array.getElem?_eq_some_iff.1 ho).1
  have hget : ∀ j, (listed.setIfInBounds i true).getD j false = true ↔ (j = i ∨ listed.getD j false = true) := fun j => by
    rw [set_get hi]
    by_cases hj : j = i <;> simp [hj]
  have hput : ∀ t, o.dst ≠ some t → (a.put o.dst v).tmps.getD t undef = a.tmps.getD t undef := fun t ht => by
    cases hd : o.dst with
    | none => simp [Act.put]
    | some e =>
      have : e ≠ t := fun h => ht (by rw [hd, h])
      simp [Act.put, Array.getD_eq_getD_getElem?, Array.getElem?_setIfInBounds_ne this]
  refine ⟨by simp [d.lsz], fun j oj hj hl e hem hb => ?_, fun j oj t hj hl hd => ?_, fun t ht => ?_, hk, hk', hp, d.ev.trans he, ?_, ?_⟩
  · rw [hget]
    rcases (hget j).1 hl with rfl | hl'
    · rw [ho] at hj
      cases hj
      exact .inr (hall e hem hb)
    · exact .inr (d.down j oj hj hl' e hem hb)
  · by_cases hji : j = i
    · subst hji
      rw [ho] at hj
      cases hj
      have ht := s.fits j o t ho hd
      have ht' : t < a.tmps.size := Nat.lt_of_lt_of_le ht d.size
      have : (a.put o.dst v).tmps.getD t undef = v := by simp [hd, Act.put, Array.getD_eq_getD_getElem?, ht']
      rw [this]
      exact hv
    · have hl' : listed.getD j false = true := by
        rcases (hget j).1 hl with h | h
        · exact absurd h hji
        · exact h
      rw [hput t (s.apart i j o oj ho hj (Ne.symm hji) t hd)]
      exact he.rel (d.dst j oj t hj hl' hd)
  · rw [hput t (ht i o ho ((hget i).2 (.inl rfl)))]
    exact he.rel (d.oth t fun j oj hj hl => ht j oj hj ((hget j).2 (.inr hl)))
  · have : (a.put o.dst v).tmps.size = a.tmps.size := by cases hd : o.dst <;> simp [Act.put]
    rw [this]
    exact d.size
  · have : (a.put o.dst v).defers = a.defers := by cases hd : o.dst <;> simp [Act.put]
    rw [this]
    exact d.nodef

theorem draw_any (g : Good P C) {ops : Array Oper} {p : Plan} {F : List Heap} {sl0 rs : List AV} {B : Nat} {h0 : Heap} {φ0 : Map} {w0 : World} (s : PlanSpec p ops sl0.length) (hrs : rs.length = ops.size) (hF : F.length = p.rank ops.size + 1)
    (hfact : ∀ i o, ops[i]? = some o → Fact P C ops p F i o (sigF sl0 ops.toList rs i) (rs.getD i .any)) {Q : Exit → Act → World → Prop}
    (hQ : ∀ a w φ, Pic C.glob B (F.getD (p.rank ops.size) []) φ w → Ev h0 φ0 w0 (F.getD (p.rank ops.size) []) φ w → SlRel (F.getD (p.rank ops.size) []) φ w a (sigF sl0 ops.toList rs ops.size) → Q .normal a w) :
    ∀ (fuel : Nat) (listed : Array Bool) (a : Act) (w : World) (k : Nat) (φ : Map), left ops.size listed ≤ fuel → DInv C ops p F sl0 rs B h0 φ0 w0 listed a w k φ → wpAny P .any ops Q fuel listed a w := by
  -- nothing may come up any more: all have come up
  have done : ∀ (listed : Array Bool) (a : Act) (w : World) (k : Nat) (φ : Map), DInv C ops p F sl0 rs B h0 φ0 w0 listed a w k φ → (∀ i, i < ops.size → listed.getD i false = true) → Q .normal a w := by
    intro listed a w k φ d hall
    have hk : k = p.rank ops.size := by
      have h1 : k ≤ p.rank ops.size := by have := d.top; omega
      rcases Nat.lt_or_ge k (p.rank ops.size) with h2 | h2
      · obtain ⟨j, hj, hE, hr⟩ := rank_find p ops.size k h2
        have := (d.num j hj hE).1 (hall j hj)
        omega
      · omega
    subst hk
    refine hQ a w φ d.pic d.ev ⟨by rw [length_sigF]; exact d.size, fun t => ?_, d.nodef⟩
    rcases sigF_get ops.toList sl0 rs ops.size t (by simpa using hrs) (by simp) (fun x hx e he => by
        obtain ⟨j, hj, rfl⟩ := List.mem_iff_getElem.1 hx
        exact s.fits j _ e (by rw [← Array.getElem?_toList]; exact List.getElem?_eq_getElem hj) he) (fun x y ox oy h1 h2 h3 e he => by
        exact s.apart y x oy ox (by simpa using h2) (by simpa using h1) (Ne.symm h3) e he) with ⟨j, oj, h1, h2, h3, h4⟩ | ⟨h1, h2⟩
    · rw [h4]
      exact d.dst j oj t (by simpa using h2) (hall j h1) h3
    · rw [h2]
      exact d.oth t fun j oj hj _ => h1 j oj (Array.getElem?_eq_some_iff.1 hj).1 (by simpa using hj)
  have noready : ∀ (listed : Array Bool), listed.size = ops.size → Region.ready .any ops listed = [] → ∀ i, i < ops.size → listed.getD i false = true := by
    intro listed hsz hr i
    induction i using Nat.strongRecOn with
    | _ i ih =>
      intro hi
      cases hl : listed.getD i false with
      | true => rfl
      | false =>
        have ho : ops[i]? = some ops[i] := Array.getElem?_eq_getElem hi
        have hmem : i ∈ Region.ready .any ops listed := by
          rw [mem_ready]
          refine ⟨?_, _, ho, fun e he hb => ?_⟩
          · simp [Array.getD_eq_getD_getElem?, hsz, hi] at hl ⊢
            exact hl
          · have hon := s.back i _ ho e he hb
            exact ih e.on hon (by omega)
        rw [hr] at hmem
        cases hmem
  intro fuel
  induction fuel with
  | zero =>
    intro listed a w k φ hleft d
    have hall : ∀ i, i < ops.size → listed.getD i false = true := by
      intro i hi
      cases hl : listed.getD i false with
      | true => rfl
      | false =>
        have : i ∈ (List.range ops.size).filter fun i => !listed.getD i false := List.mem_filter.2 ⟨List.mem_range.2 hi, by simp [hl]⟩
        have h0 : ((List.range ops.size).filter fun i => !listed.getD i false) = [] := List.eq_nil_of_length_eq_zero (by unfold left at hleft; omega)
        rw [h0] at this
        cases this
    refine ⟨?_, done listed a w k φ d hall⟩
    cases hr : Region.ready .any ops listed with
    | nil => rfl
    | cons x xs =>
      have hx : x ∈ Region.ready .any ops listed := by rw [hr]; simp
      obtain ⟨h1, _, h2, _⟩ := mem_ready.1 hx
      have := getD_default h1
      rw [hall x (Array.getElem?_eq_some_iff.1 h2).1] at this
      cases this.2
  | succ fuel ih =>
    intro listed a w k φ hleft d
    refine ⟨fun hr => done listed a w k φ d (noready listed d.lsz hr), fun i hi => ?_⟩
    obtain ⟨hun0, o, ho, hall⟩ := mem_ready.1 hi
    obtain ⟨hisz, hun⟩ := getD_default hun0
    have hin : i < ops.size := by rw [← d.lsz]; exact hisz
    have hlt := left_set hisz hin hun
    have hbef := d.bef s i o ho hall
    have hget : ∀ j, (listed.setIfInBounds i true).getD j false = true ↔ (j = i ∨ listed.getD j false = true) := fun j => by
      rw [set_get hisz]
      by_cases hj : j = i <;> simp [hj]
    unfold wpOp
    simp only [ho]
    rcases hfact i o ho with ⟨h1, h2, h3⟩ | ⟨h1, h2, h3⟩ | ⟨h1, h2, h3⟩
    · -- it may turn the heap
      have hik : p.rank i = k := by
        have h4 : ¬ p.rank i < k := fun hh => by
          have := (d.num i hin h2).2 hh
          rw [hun] at this
          cases this
        rcases Nat.lt_or_ge k (p.rank i) with h5 | h5
        · obtain ⟨j, hj, hE, hr⟩ := rank_find p i k h5
          have h6 := hbef j (s.eff i j hin hj h2 hE)
          have := (d.num j (by omega) hE).1 h6
          omega
        · omega
      rw [if_pos (d.wanted s hrs ho hun hall h1)]
      rw [hik] at h3
      refine .inl (Oper.wp_mono (fun a' w' hp => ?_) (OpA.sound g d.pic (d.evalR s hrs ho hun hall) h3))
      obtain ⟨v, x, h', φ', rfl, hp1, hp2, hp3, rfl, rfl⟩ := hp
      refine ih _ _ _ (k + 1) φ' (by omega) (d.step s ho hun hall (fun j hj hE => ?_) (by
        have := rank_lt p hin h2
        omega) hp1 hp2 hp3)
      rw [hget]
      constructor
      · rintro (rfl | hl)
        · omega
        · have := (d.num j hj hE).1 hl
          omega
      · intro hl
        by_cases hji : j = i
        · exact .inl hji
        · refine .inr ((d.num j hj hE).2 ?_)
          rcases Nat.lt_trichotomy j i with h5 | h5 | h5
          · have := rank_lt p h5 hE
            omega
          · exact absurd h5 hji
          · have := rank_lt p h5 h2
            omega
    · -- it leaves the heap
      have hmeet : p.meets ops.size i k = true := by
        unfold Plan.meets
        refine List.all_eq_true.2 fun j hj => ?_
        have hj' := List.mem_range.1 hj
        by_cases hE : p.isE j = true
        · simp only [hE, Bool.not_true, Bool.false_or, Bool.and_eq_true, Bool.or_eq_true, Bool.not_eq_true', decide_eq_true_eq]
          refine ⟨?_, ?_⟩
          · by_cases hb : (p.bef i).contains j = true
            · exact .inr ((d.num j hj' hE).1 (hbef j (by simpa using hb)))
            · exact .inl (by simpa using hb)
          · by_cases hb : (p.bef j).contains i = true
            · refine .inr ?_
              rcases Nat.lt_or_ge (p.rank j) k with h5 | h5
              · have hl := (d.num j hj' hE).2 h5
                have hoj : ops[j]? = some ops[j] := Array.getElem?_eq_getElem hj'
                have := d.bef s j _ hoj (d.down j _ hoj hl) i (by simpa using hb)
                rw [hun] at this
                cases this
              · exact h5
            · exact .inl (by simpa using hb)
        · simp [hE]
      rw [if_pos (d.wanted s hrs ho hun hall h1)]
      refine .inl (Oper.wp_mono (fun a' w' hp => ?_) (OpA.sound g d.pic (d.evalR s hrs ho hun hall) (h3 k d.top hmeet)))
      obtain ⟨v, x, h', φ', rfl, hp1, hp2, hp3, rfl, rfl⟩ := hp
      refine ih _ _ _ k φ' (by omega) (d.step s ho hun hall (fun j hj hE => ?_) d.top hp1 hp2 hp3)
      rw [hget]
      constructor
      · rintro (rfl | hl)
        · rw [h2] at hE; cases hE
        · exact (d.num j hj hE).1 hl
      · exact fun hl => .inr ((d.num j hj hE).2 hl)
    · -- it is not carried out
      rw [if_neg (by rw [d.wanted s hrs ho hun hall h1]; simp)]
      refine ih _ _ _ k φ (by omega) (d.step s ho hun hall (fun j hj hE => ?_) d.top d.pic (.refl _ _ _) (by rw [h3]; exact skip_rel))
      rw [hget]
      constructor
      · rintro (rfl | hl)
        · rw [h2] at hE; cases hE
        · exact (d.num j hj hE).1 hl
      · exact fun hl => .inr ((d.num j hj hE).2 hl)

/-- A draw turns nothing that the picture speaks of. -/
theorem grownBy_drawn (w : World) : w.grownBy { w with drawn := w.drawn + 1 } none := ⟨rfl, rfl, rfl, Nat.le_refl _, fun _ _ _ => rfl⟩

theorem RunA.draw (g : Good P C) {id : Nat} {ops : Array Oper} {st : St} {Q : Exit → St → Prop} (p : Plan) (hp : p.ok ops st.sl.length = true) (r : DrawA P C ops p ops.toList 0 st.sl [st.h] [] fun st' => Q .normal st') : RunA P C (.region id ops true) st Q := by
  intro B φ w a i s
  obtain ⟨rs, more, h1, h2, _, h4, h5⟩ := draw_facts ops.toList 0 st.sl [st.h] [] r (by simp [Plan.rank])
  have sp := Plan.spec hp
  simp only [Nat.zero_add, Array.length_toList] at h1 h2 h4 h5
  refine wp_region_any g.mixed (draw_any (C := C) g (B := B) (h0 := st.h) (φ0 := φ) (w0 := w) sp h1 h2 (fun j o ho => h4 j o (by simpa using ho)) (fun a' w' φ' k1 k2 k3 => ⟨_, φ', k1, k2, k3, h5⟩) ops.size _ a _ 0 φ ?_ ?_)
  · unfold left
    have := List.length_filter_le (fun i => !(Array.replicate ops.size false).getD i false) (List.range ops.size)
    simpa using this
  · have hno : ∀ j, (Array.replicate ops.size false).getD j false = false := fun j => by
      by_cases hj : j < ops.size <;> simp [Array.getD_eq_getD_getElem?, hj]
    have hg := grownBy_drawn w
    refine ⟨by simp, fun j o _ hl => (by rw [hno] at hl; cases hl), fun j o t _ hl => (by rw [hno] at hl; cases hl), fun t _ => ?_, fun j _ _ => by rw [hno]; simp, by simp, ?_, ?_, s.size, s.nodef⟩
    · exact (Ev.of_grown hg).rel (s.rel t)
    · exact i.of_grown hg
    · exact Ev.of_grown hg

end
end Go.Ab
