/-
  LAWS OF DEPTHS. Written in part by a program of mine (gen14.py, walk.py). Conditions: none.
-/
import Derived.Test.YtlmclkamedhmhaaDep14D
namespace Go.Proofs.Ytlmclkamedhmhaa
open Go.Ab
set_option linter.unusedSimpArgs false
set_option linter.unusedVariables false
set_option maxRecDepth 10000
attribute [local go_sem] opsE opsSE stepS quietA wantA plainA pureA readA effA callPureA lenA minA maxA rho embT emb putA List.set List.getD_cons_zero List.getD_cons_succ List.getD_nil binA intBin isShift unA buildA fillA over partA loadA readAt writeAt newVarA virts addOff AV.cellsOf AV.storable AV.one UD.isAgg UD.known rd lenOf appendA sliceA boundA virtNone get_app get_app0 set_app set_app0 Array.toList List.take_succ_cons List.take_zero List.drop_succ_cons List.drop_zero List.getElem?_cons_succ List.getElem?_cons_zero List.getElem?_toArray Option.bind_some Option.map_some Option.map_none List.map_cons List.map_nil List.length_cons List.length_nil List.length_append Nat.zero_add Nat.add_zero Nat.le_refl Nat.one_mul Nat.mul_one List.append_assoc List.cons_append List.nil_append List.append_nil and_self and_true true_and true_or or_true if_true if_false Bool.false_eq_true not_false_eq_true bTT bTF bFT bFF Bool.not_true Bool.not_false decide_true decide_false Int.toNat_zero Int.toNat_one Int.toNat_natCast List.size_toArray ut3 sz3 ti3 ut4 sz4 ti4 ut34 sz34 ti34 ut53 sz53 ti53 ut63 sz63 ti63 vecI vecN deadB List.length_map Int.natCast_nonneg List.map_nil

theorem applyTo_bit {r : List Nat} {s j : Nat} : ∀ {i : Nat}, (applyTo r s i).testBit j = true ↔ ∃ d, d < i ∧ s.testBit d = true ∧ (r.getD d 0).testBit j = true
  | 0 => by simp [applyTo]
  | i + 1 => by
    have ih := applyTo_bit (r := r) (s := s) (j := j) (i := i)
    by_cases h : s.testBit i = true
    · rw [applyT h, Nat.testBit_or, Bool.or_eq_true, ih]
      constructor
      · rintro (⟨d, h1, h2⟩ | h1)
        · exact ⟨d, by omega, h2⟩
        · exact ⟨i, by omega, h, h1⟩
      · rintro ⟨d, h1, h2, h3⟩
        by_cases e : d = i
        · subst e; exact .inr h3
        · exact .inl ⟨d, by omega, h2, h3⟩
    · rw [applyF (by simpa using h), ih]
      constructor
      · rintro ⟨d, h1, h2⟩; exact ⟨d, by omega, h2⟩
      · rintro ⟨d, h1, h2, h3⟩
        by_cases e : d = i
        · subst e; exact absurd h2 h
        · exact ⟨d, by omega, h2, h3⟩
theorem applyN_bit {r : List Nat} {s j : Nat} : (applyN r s).testBit j = true ↔ ∃ d, d < r.length ∧ s.testBit d = true ∧ (r.getD d 0).testBit j = true := applyTo_bit
theorem eq_bits {a b : Nat} (h : ∀ j, a.testBit j = true ↔ b.testBit j = true) : a = b := Nat.eq_of_testBit_eq fun j => Bool.eq_iff_iff.2 (h j)

theorem map_getD {n d : Nat} {f : Nat → Nat} (hd : d < n) : ((List.range n).map f).getD d 0 = f d := by simp [List.getD, hd]
theorem compose_len (a b : List Nat) : (composeN a b).length = a.length := by simp [composeN]
theorem union_len (a b : List Nat) : (unionN a b).length = a.length := by simp [unionN]
theorem rel_len (l : List Int) (k : Nat) : (relN l k).length = k + 1 := by simp [relN]
theorem sh_len (k : Nat) (n : Int) : (shN k n).length = k + 1 := by simp [shN]
theorem compose_get {a b : List Nat} {d : Nat} (hd : d < a.length) : (composeN a b).getD d 0 = applyN b (a.getD d 0) := map_getD hd
theorem union_get {a b : List Nat} {d : Nat} (hd : d < a.length) : (unionN a b).getD d 0 = a.getD d 0 ||| b.getD d 0 := map_getD hd

theorem withinN_lt (x : Int) {k : Nat} : withinN x ((2 ^ (k + 1) : Nat) : Int) < 2 ^ (k + 1) := by
  have hp : 0 < 2 ^ (k + 1) := Nat.two_pow_pos _
  have h1 := @within_lo x ((2 ^ (k + 1) : Nat) : Int) (by exact_mod_cast hp)
  have h2 := @within_hi x ((2 ^ (k + 1) : Nat) : Int) (by exact_mod_cast hp)
  unfold withinN
  exact (Int.toNat_lt h1).2 h2
theorem relV_lt (l : List Int) (k d : Nat) : relV l k d < 2 ^ (k + 1) := by
  unfold relV
  split
  · exact withinN_lt _
  · exact Nat.two_pow_pos _
theorem rel_lt (l : List Int) {k : Nat} (hk : k ≤ 8) : ∀ x ∈ relN l k, x < 512 := by
  intro x hx
  obtain ⟨d, _, rfl⟩ := List.mem_map.1 hx
  exact Nat.lt_of_lt_of_le (relV_lt l k d) (pow_le hk).2
theorem set_lt (x : Int) {k : Nat} (hk : k ≤ 8) : withinN x ((2 ^ (k + 1) : Nat) : Int) < 512 := Nat.lt_of_lt_of_le (withinN_lt x) (pow_le hk).2
theorem compose_lt {a b : List Nat} (hb : ∀ x ∈ b, x < 512) : ∀ x ∈ composeN a b, x < 512 := by
  intro x hx
  obtain ⟨d, _, rfl⟩ := List.mem_map.1 hx
  exact applyTo_lt hb _ _
theorem union_lt {a b : List Nat} (ha : ∀ x ∈ a, x < 512) (hb : ∀ x ∈ b, x < 512) : ∀ x ∈ unionN a b, x < 512 := by
  intro x hx
  obtain ⟨d, _, rfl⟩ := List.mem_map.1 hx
  exact or_lt (getD_lt ha d) (getD_lt hb d)
theorem sh_lt {k : Nat} {n : Int} (hk : k ≤ 8) : ∀ x ∈ shN k n, x < 512 := by
  intro x hx
  obtain ⟨d, hd, rfl⟩ := List.mem_map.1 hx
  unfold shV
  split
  · rename_i h
    have : ((d : Int) + n).toNat ≤ 8 := by omega
    exact Nat.lt_of_le_of_lt (Nat.pow_le_pow_right (by decide) this) (by decide)
  · decide

theorem apply_compose {y z : List Nat} {s : Nat} : applyN z (applyN y s) = applyN (composeN y z) s := by
  refine eq_bits fun j => ?_
  rw [applyN_bit, applyN_bit, compose_len]
  constructor
  · rintro ⟨e, h1, h2, h3⟩
    obtain ⟨d, k1, k2, k3⟩ := applyN_bit.1 h2
    exact ⟨d, k1, k2, by rw [compose_get k1]; exact applyN_bit.2 ⟨e, h1, k3, h3⟩⟩
  · rintro ⟨d, k1, k2, k3⟩
    rw [compose_get k1] at k3
    obtain ⟨e, h1, h2, h3⟩ := applyN_bit.1 k3
    exact ⟨e, h1, applyN_bit.2 ⟨d, k1, k2, h2⟩, h3⟩
theorem map_ext {n : Nat} {f g : Nat → Nat} (h : ∀ d, d < n → f d = g d) : (List.range n).map f = (List.range n).map g := map_congr' fun d hd => h d (List.mem_range.1 hd)
theorem compose_assoc (x y z : List Nat) : composeN (composeN x y) z = composeN x (composeN y z) := by
  show (List.range (composeN x y).length).map _ = (List.range x.length).map _
  rw [compose_len]
  exact map_ext fun d hd => by rw [compose_get hd, apply_compose]
theorem testBit_lt {x n j : Nat} (h : x < 2 ^ n) (hj : x.testBit j = true) : j < n := by
  rcases Nat.lt_or_ge j n with h' | h'
  · exact h'
  · rw [Nat.testBit_lt_two_pow (Nat.lt_of_lt_of_le h (Nat.pow_le_pow_right (by decide) h'))] at hj
    cases hj
theorem sh0 {k d : Nat} (hd : d < k + 1) : shV k 0 d = 2 ^ d := by
  unfold shV
  rw [if_pos (by omega)]
  simp
theorem list_rel (l : List Int) (k : Nat) : relN l k = (List.range (relN l k).length).map fun d => (relN l k).getD d 0 := by
  rw [rel_len]
  exact map_ext fun d hd => by rw [relN, map_getD hd]
theorem compose_id (l : List Int) (k : Nat) : composeN (relN l k) (shN k 0) = relN l k := by
  conv => rhs; rw [list_rel]
  refine map_ext fun d hd => eq_bits fun j => ?_
  rw [rel_len] at hd
  rw [applyN_bit, sh_len]
  have hlt : (relN l k).getD d 0 < 2 ^ (k + 1) := by rw [relN, map_getD hd]; exact relV_lt _ _ _
  constructor
  · rintro ⟨e, h1, h2, h3⟩
    rw [shN, map_getD h1, sh0 h1, Nat.testBit_two_pow] at h3
    have : e = j := by simpa using h3
    rw [← this]; exact h2
  · intro h
    have hj := testBit_lt hlt h
    exact ⟨j, hj, h, by rw [shN, map_getD hj, sh0 hj, Nat.testBit_two_pow]; simp⟩
theorem id_compose (l : List Int) (k : Nat) : composeN (shN k 0) (relN l k) = relN l k := by
  conv => rhs; rw [list_rel, rel_len]
  show (List.range (shN k 0).length).map _ = _
  rw [sh_len]
  refine map_ext fun d hd => eq_bits fun j => ?_
  rw [applyN_bit, rel_len, shN, map_getD hd, sh0 hd]
  constructor
  · rintro ⟨e, h1, h2, h3⟩
    rw [Nat.testBit_two_pow] at h2
    have : d = e := by simpa using h2
    rw [this]; exact h3
  · intro h
    exact ⟨d, hd, by rw [Nat.testBit_two_pow]; simp, h⟩

theorem apply_or {r : List Nat} {s t : Nat} : applyN r (s ||| t) = applyN r s ||| applyN r t := by
  refine eq_bits fun j => ?_
  rw [Nat.testBit_or, Bool.or_eq_true, applyN_bit, applyN_bit, applyN_bit]
  constructor
  · rintro ⟨d, h1, h2, h3⟩
    rw [Nat.testBit_or, Bool.or_eq_true] at h2
    rcases h2 with h2 | h2
    · exact .inl ⟨d, h1, h2, h3⟩
    · exact .inr ⟨d, h1, h2, h3⟩
  · rintro (⟨d, h1, h2, h3⟩ | ⟨d, h1, h2, h3⟩)
    · exact ⟨d, h1, by rw [Nat.testBit_or, h2, Bool.true_or], h3⟩
    · exact ⟨d, h1, by rw [Nat.testBit_or, h2, Bool.or_true], h3⟩
theorem apply_union {x y : List Nat} (hxy : x.length = y.length) {s : Nat} : applyN (unionN x y) s = applyN x s ||| applyN y s := by
  refine eq_bits fun j => ?_
  rw [Nat.testBit_or, Bool.or_eq_true, applyN_bit, applyN_bit, applyN_bit, union_len]
  constructor
  · rintro ⟨d, h1, h2, h3⟩
    rw [union_get h1, Nat.testBit_or, Bool.or_eq_true] at h3
    rcases h3 with h3 | h3
    · exact .inl ⟨d, h1, h2, h3⟩
    · exact .inr ⟨d, by omega, h2, h3⟩
  · rintro (⟨d, h1, h2, h3⟩ | ⟨d, h1, h2, h3⟩)
    · exact ⟨d, h1, h2, by rw [union_get h1, Nat.testBit_or, h3, Bool.true_or]⟩
    · exact ⟨d, by omega, h2, by rw [union_get (by omega), Nat.testBit_or, h3, Bool.or_true]⟩
theorem compose_union_l {x y z : List Nat} (hxy : x.length = y.length) : composeN (unionN x y) z = unionN (composeN x z) (composeN y z) := by
  show (List.range (unionN x y).length).map _ = (List.range (composeN x z).length).map _
  rw [union_len, compose_len]
  exact map_ext fun d hd => by rw [union_get hd, compose_get hd, compose_get (by omega), apply_or]
theorem compose_union_r {x y z : List Nat} (hxy : x.length = y.length) : composeN z (unionN x y) = unionN (composeN z x) (composeN z y) := by
  show (List.range z.length).map _ = (List.range (composeN z x).length).map _
  rw [compose_len]
  exact map_ext fun d hd => by rw [compose_get hd, compose_get hd, apply_union hxy]
theorem andNotN {a b : Nat} (ha : a < 512) (hb : b < 512) : bits .andNot .i64 (a : Int) (b : Int) = 0 ↔ ∀ j, a.testBit j = true → b.testBit j = true := by
  have e1 : ∀ n : Nat, BitVec.ofInt 64 (n : Int) = BitVec.ofNat 64 n := fun n => BitVec.ofInt_natCast _ _
  have e2 : bits .andNot .i64 (a : Int) (b : Int) = IntKind.wrap .i64 (((BitVec.ofNat 64 a &&& ~~~ BitVec.ofNat 64 b).toNat : Nat) : Int) := by
    show IntKind.wrap .i64 (((BitVec.ofInt 64 (a : Int) &&& ~~~ BitVec.ofInt 64 (b : Int)).toNat : Nat) : Int) = _
    rw [e1, e1]
  have hn : (BitVec.ofNat 64 a &&& ~~~ BitVec.ofNat 64 b).toNat ≤ a := by
    rw [BitVec.toNat_and]
    refine Nat.le_trans Nat.and_le_left ?_
    rw [BitVec.toNat_ofNat]
    exact Nat.mod_le _ _
  have ht : ∀ j, (BitVec.ofNat 64 a &&& ~~~ BitVec.ofNat 64 b).toNat.testBit j = (a.testBit j && !b.testBit j) := fun j => by
    rw [BitVec.testBit_toNat, BitVec.getLsbD_and, BitVec.getLsbD_not, BitVec.getLsbD_ofNat, BitVec.getLsbD_ofNat]
    by_cases hj : j < 64
    · simp [hj]
    · rw [Nat.testBit_lt_two_pow (x := a) (Nat.lt_of_lt_of_le ha (Nat.le_trans (show 512 ≤ 2 ^ 9 from by decide) (Nat.pow_le_pow_right (by decide) (by omega))))]
      simp
  rw [e2, wrap64 (by omega) (by omega)]
  constructor
  · intro h j hj
    have h0 : (BitVec.ofNat 64 a &&& ~~~ BitVec.ofNat 64 b).toNat = 0 := by omega
    have := ht j
    rw [h0, Nat.zero_testBit, hj] at this
    simpa using this.symm
  · intro h
    have : (BitVec.ofNat 64 a &&& ~~~ BitVec.ofNat 64 b).toNat = 0 := by
      refine Nat.eq_of_testBit_eq fun j => ?_
      rw [ht, Nat.zero_testBit]
      cases hj : a.testBit j with
      | false => rfl
      | true => rw [h j hj]; rfl
    omega
theorem within_iff {x y : List Nat} (hx : ∀ v ∈ x, v < 512) (hy : ∀ v ∈ y, v < 512) : withinP x y ↔ ∀ d, d < x.length → ∀ j, (x.getD d 0).testBit j = true → (y.getD d 0).testBit j = true :=
  ⟨fun h d hd => (andNotN (getD_lt hx d) (getD_lt hy d)).1 (h d hd), fun h d hd => (andNotN (getD_lt hx d) (getD_lt hy d)).2 (h d hd)⟩
theorem within_union {x y : List Nat} (hx : ∀ v ∈ x, v < 512) (hy : ∀ v ∈ y, v < 512) : withinP x (unionN x y) :=
  (within_iff hx (union_lt hx hy)).2 fun d hd j hj => by rw [union_get hd, Nat.testBit_or, hj, Bool.true_or]
theorem apply_mono {r : List Nat} {s t j : Nat} (h : ∀ j, s.testBit j = true → t.testBit j = true) (hj : (applyN r s).testBit j = true) : (applyN r t).testBit j = true := by
  obtain ⟨d, h1, h2, h3⟩ := applyN_bit.1 hj
  exact applyN_bit.2 ⟨d, h1, h d h2, h3⟩
theorem within_compose_l {x y z : List Nat} (hxy : x.length = y.length) (hx : ∀ v ∈ x, v < 512) (hy : ∀ v ∈ y, v < 512) (hz : ∀ v ∈ z, v < 512) (h : withinP x y) : withinP (composeN x z) (composeN y z) :=
  (within_iff (compose_lt hz) (compose_lt hz)).2 fun d hd j hj => by
    rw [compose_len] at hd
    rw [compose_get hd] at hj
    rw [compose_get (by omega)]
    exact apply_mono ((within_iff hx hy).1 h d hd) hj
theorem within_compose_r {x y z : List Nat} (hxy : x.length = y.length) (hx : ∀ v ∈ x, v < 512) (hy : ∀ v ∈ y, v < 512) (h : withinP x y) : withinP (composeN z x) (composeN z y) :=
  (within_iff (compose_lt hx) (compose_lt hy)).2 fun d hd j hj => by
    rw [compose_len] at hd
    rw [compose_get hd] at hj ⊢
    obtain ⟨e, h1, h2, h3⟩ := applyN_bit.1 hj
    exact applyN_bit.2 ⟨e, by omega, h2, (within_iff hx hy).1 h e h1 j h3⟩
theorem within_lub {x y z : List Nat} (hxy : x.length = y.length) (hx : ∀ v ∈ x, v < 512) (hy : ∀ v ∈ y, v < 512) (hz : ∀ v ∈ z, v < 512) : withinP (unionN x y) z ↔ withinP x z ∧ withinP y z := by
  rw [within_iff (union_lt hx hy) hz, within_iff hx hz, within_iff hy hz, union_len]
  constructor
  · intro h
    refine ⟨fun d hd j hj => h d hd j (by rw [union_get hd, Nat.testBit_or, hj, Bool.true_or]), fun d hd j hj => h d (by omega) j (by rw [union_get (by omega), Nat.testBit_or, hj, Bool.or_true])⟩
  · rintro ⟨h1, h2⟩ d hd j hj
    rw [union_get hd, Nat.testBit_or, Bool.or_eq_true] at hj
    rcases hj with hj | hj
    · exact h1 d hd j hj
    · exact h2 d (by omega) j hj
theorem within_anti {x y : List Nat} (hxy : x.length = y.length) (hx : ∀ v ∈ x, v < 512) (hy : ∀ v ∈ y, v < 512) (h1 : withinP x y) (h2 : withinP y x) : x = y := by
  refine List.ext_getElem hxy fun d k1 k2 => ?_
  have e1 := (within_iff hx hy).1 h1 d k1
  have e2 := (within_iff hy hx).1 h2 d k2
  have := eq_bits (a := x.getD d 0) (b := y.getD d 0) fun j => ⟨e1 j, e2 j⟩
  simpa [List.getD, k1, k2] using this

theorem c10 {h : Heap} (a b c : List Int) (n s : Int) (ha : a.length < 9223372036854775808) (hb : b.length < 9223372036854775808) (hc : c.length < 9223372036854775808) : CallA Try.prog cfg 10 [vecI a, vecI b, vecI c, .int .i64 n, .int .i64 s] h (fun y' h' => y' = .bool true ∧ h' = h) := by
  obtain ⟨k, hk⟩ := Int.eq_ofNat_of_zero_le (@within_lo n 9 (by omega))
  have hk8 : k ≤ 8 := by have := @within_hi n 9 (by omega); omega
  refine CallA.body (Q := fun y' => y' = .bool true) good fn10 rfl ?_
  simp only [ntm10, List.length_cons, List.length_nil, Nat.reduceAdd, Nat.reduceSub, List.replicate, List.cons_append, List.nil_append]
  refine RunA.seq ?_
  refine RunA.region good ?_
  refine OpsA.pre 1 (by simp (maxSteps := 2000000) (disch := omega) only [go_sem, Nat.reduceAdd, Nat.reduceSub, Nat.reduceLeDiff, Nat.reduceMul, reduceIte, reduceCtorEq, Int.reduceNeg, Int.reduceToNat, Nat.reduceLT, Int.reduceLE, Int.reduceLT, Int.reduceAdd, Int.reduceSub, Int.reduceMul, maxLenI, wrap64, read1N, over1N, flat0N, shl1N, shl1M, List.length_set, List.length_replicate, Int.toNat_natCast_add_one, eq_self, and_self, decide_true, beq_self_eq_true]; rfl) ?_
  refine OpsA.nil ?_
  change RunA _ _ _ _ _
  refine RunA.seq ?_
  refine RunA.region good ?_
  refine OpsA.pre 1 (by simp (maxSteps := 2000000) (disch := omega) only [go_sem, Nat.reduceAdd, Nat.reduceSub, Nat.reduceLeDiff, Nat.reduceMul, reduceIte, reduceCtorEq, Int.reduceNeg, Int.reduceToNat, Nat.reduceLT, Int.reduceLE, Int.reduceLT, Int.reduceAdd, Int.reduceSub, Int.reduceMul, maxLenI, wrap64, read1N, over1N, flat0N, shl1N, shl1M, List.length_set, List.length_replicate, Int.toNat_natCast_add_one, eq_self, and_self, decide_true, beq_self_eq_true]; rfl) ?_
  refine OpsA.callQ rfl rfl rfl hb31 (c31 n k hk) ?_
  refine OpsA.pre 1 (by simp (maxSteps := 2000000) (disch := omega) only [go_sem, Nat.reduceAdd, Nat.reduceSub, Nat.reduceLeDiff, Nat.reduceMul, reduceIte, reduceCtorEq, Int.reduceNeg, Int.reduceToNat, Nat.reduceLT, Int.reduceLE, Int.reduceLT, Int.reduceAdd, Int.reduceSub, Int.reduceMul, maxLenI, wrap64, read1N, over1N, flat0N, shl1N, shl1M, List.length_set, List.length_replicate, Int.toNat_natCast_add_one, eq_self, and_self, decide_true, beq_self_eq_true]; rfl) ?_
  refine OpsA.nil ?_
  change RunA _ _ _ _ _
  refine RunA.seq ?_
  refine RunA.region good ?_
  refine OpsA.pre 2 (by simp (maxSteps := 2000000) (disch := omega) only [go_sem, Nat.reduceAdd, Nat.reduceSub, Nat.reduceLeDiff, Nat.reduceMul, reduceIte, reduceCtorEq, Int.reduceNeg, Int.reduceToNat, Nat.reduceLT, Int.reduceLE, Int.reduceLT, Int.reduceAdd, Int.reduceSub, Int.reduceMul, maxLenI, wrap64, read1N, over1N, flat0N, shl1N, shl1M, List.length_set, List.length_replicate, Int.toNat_natCast_add_one, eq_self, and_self, decide_true, beq_self_eq_true]; rfl) ?_
  refine OpsA.callQ rfl rfl rfl hb39 (c39 _ _ hk8 (by assumption)) ?_
  refine OpsA.pre 2 (by simp (maxSteps := 2000000) (disch := omega) only [go_sem, Nat.reduceAdd, Nat.reduceSub, Nat.reduceLeDiff, Nat.reduceMul, reduceIte, reduceCtorEq, Int.reduceNeg, Int.reduceToNat, Nat.reduceLT, Int.reduceLE, Int.reduceLT, Int.reduceAdd, Int.reduceSub, Int.reduceMul, maxLenI, wrap64, read1N, over1N, flat0N, shl1N, shl1M, List.length_set, List.length_replicate, Int.toNat_natCast_add_one, eq_self, and_self, decide_true, beq_self_eq_true]; rfl) ?_
  refine OpsA.callQ rfl rfl rfl hb39 (c39 _ _ hk8 (by assumption)) ?_
  refine OpsA.pre 2 (by simp (maxSteps := 2000000) (disch := omega) only [go_sem, Nat.reduceAdd, Nat.reduceSub, Nat.reduceLeDiff, Nat.reduceMul, reduceIte, reduceCtorEq, Int.reduceNeg, Int.reduceToNat, Nat.reduceLT, Int.reduceLE, Int.reduceLT, Int.reduceAdd, Int.reduceSub, Int.reduceMul, maxLenI, wrap64, read1N, over1N, flat0N, shl1N, shl1M, List.length_set, List.length_replicate, Int.toNat_natCast_add_one, eq_self, and_self, decide_true, beq_self_eq_true]; rfl) ?_
  refine OpsA.callQ rfl rfl rfl hb39 (c39 _ _ hk8 (by assumption)) ?_
  refine OpsA.pre 3 (by simp (maxSteps := 2000000) (disch := omega) only [go_sem, Nat.reduceAdd, Nat.reduceSub, Nat.reduceLeDiff, Nat.reduceMul, reduceIte, reduceCtorEq, Int.reduceNeg, Int.reduceToNat, Nat.reduceLT, Int.reduceLE, Int.reduceLT, Int.reduceAdd, Int.reduceSub, Int.reduceMul, maxLenI, wrap64, read1N, over1N, flat0N, shl1N, shl1M, List.length_set, List.length_replicate, Int.toNat_natCast_add_one, eq_self, and_self, decide_true, beq_self_eq_true]; rfl) ?_
  refine OpsA.nil ?_
  change RunA _ _ _ _ _
  refine RunA.seq ?_
  refine RunA.region good ?_
  refine OpsA.pre 2 (by simp (maxSteps := 2000000) (disch := omega) only [go_sem, Nat.reduceAdd, Nat.reduceSub, Nat.reduceLeDiff, Nat.reduceMul, reduceIte, reduceCtorEq, Int.reduceNeg, Int.reduceToNat, Nat.reduceLT, Int.reduceLE, Int.reduceLT, Int.reduceAdd, Int.reduceSub, Int.reduceMul, maxLenI, wrap64, read1N, over1N, flat0N, shl1N, shl1M, List.length_set, List.length_replicate, Int.toNat_natCast_add_one, eq_self, and_self, decide_true, beq_self_eq_true]; rfl) ?_
  refine OpsA.callQ rfl rfl rfl hb40 (c40 _ _ hk8) ?_
  refine OpsA.pre 1 (by simp (maxSteps := 2000000) (disch := omega) only [go_sem, Nat.reduceAdd, Nat.reduceSub, Nat.reduceLeDiff, Nat.reduceMul, reduceIte, reduceCtorEq, Int.reduceNeg, Int.reduceToNat, Nat.reduceLT, Int.reduceLE, Int.reduceLT, Int.reduceAdd, Int.reduceSub, Int.reduceMul, maxLenI, wrap64, read1N, over1N, flat0N, shl1N, shl1M, List.length_set, List.length_replicate, Int.toNat_natCast_add_one, eq_self, and_self, decide_true, beq_self_eq_true]; rfl) ?_
  refine OpsA.nil ?_
  change RunA _ _ _ _ _
  refine RunA.seq ?_
  refine RunA.region good ?_
  refine OpsA.pre 2 (by simp (maxSteps := 2000000) (disch := omega) only [go_sem, Nat.reduceAdd, Nat.reduceSub, Nat.reduceLeDiff, Nat.reduceMul, reduceIte, reduceCtorEq, Int.reduceNeg, Int.reduceToNat, Nat.reduceLT, Int.reduceLE, Int.reduceLT, Int.reduceAdd, Int.reduceSub, Int.reduceMul, maxLenI, wrap64, read1N, over1N, flat0N, shl1N, shl1M, List.length_set, List.length_replicate, Int.toNat_natCast_add_one, eq_self, and_self, decide_true, beq_self_eq_true]; rfl) ?_
  refine OpsA.callQ rfl rfl rfl hb32 (c32 _ _ (by first | exact rel_lt _ hk8 | exact sh_lt hk8 | exact compose_lt (rel_lt _ hk8) | exact compose_lt (sh_lt hk8) | exact union_lt (rel_lt _ hk8) (rel_lt _ hk8) | exact compose_lt (union_lt (rel_lt _ hk8) (rel_lt _ hk8)) | exact union_lt (compose_lt (rel_lt _ hk8)) (compose_lt (rel_lt _ hk8)) | exact compose_lt (compose_lt (rel_lt _ hk8))) (by simp only [compose_len, union_len, rel_len, sh_len] <;> omega) (by first | exact rel_lt _ hk8 | exact sh_lt hk8 | exact compose_lt (rel_lt _ hk8) | exact compose_lt (sh_lt hk8) | exact union_lt (rel_lt _ hk8) (rel_lt _ hk8) | exact compose_lt (union_lt (rel_lt _ hk8) (rel_lt _ hk8)) | exact union_lt (compose_lt (rel_lt _ hk8)) (compose_lt (rel_lt _ hk8)) | exact compose_lt (compose_lt (rel_lt _ hk8))) (by simp only [compose_len, union_len, rel_len, sh_len] <;> omega)) ?_
  refine OpsA.pre 1 (by simp (maxSteps := 2000000) (disch := omega) only [go_sem, Nat.reduceAdd, Nat.reduceSub, Nat.reduceLeDiff, Nat.reduceMul, reduceIte, reduceCtorEq, Int.reduceNeg, Int.reduceToNat, Nat.reduceLT, Int.reduceLE, Int.reduceLT, Int.reduceAdd, Int.reduceSub, Int.reduceMul, maxLenI, wrap64, read1N, over1N, flat0N, shl1N, shl1M, List.length_set, List.length_replicate, Int.toNat_natCast_add_one, eq_self, and_self, decide_true, beq_self_eq_true]; rfl) ?_
  refine OpsA.callQ rfl rfl rfl hb32 (c32 _ _ (by first | exact rel_lt _ hk8 | exact sh_lt hk8 | exact compose_lt (rel_lt _ hk8) | exact compose_lt (sh_lt hk8) | exact union_lt (rel_lt _ hk8) (rel_lt _ hk8) | exact compose_lt (union_lt (rel_lt _ hk8) (rel_lt _ hk8)) | exact union_lt (compose_lt (rel_lt _ hk8)) (compose_lt (rel_lt _ hk8)) | exact compose_lt (compose_lt (rel_lt _ hk8))) (by simp only [compose_len, union_len, rel_len, sh_len] <;> omega) (by first | exact rel_lt _ hk8 | exact sh_lt hk8 | exact compose_lt (rel_lt _ hk8) | exact compose_lt (sh_lt hk8) | exact union_lt (rel_lt _ hk8) (rel_lt _ hk8) | exact compose_lt (union_lt (rel_lt _ hk8) (rel_lt _ hk8)) | exact union_lt (compose_lt (rel_lt _ hk8)) (compose_lt (rel_lt _ hk8)) | exact compose_lt (compose_lt (rel_lt _ hk8))) (by simp only [compose_len, union_len, rel_len, sh_len] <;> omega)) ?_
  refine OpsA.pre 3 (by simp (maxSteps := 2000000) (disch := omega) only [go_sem, Nat.reduceAdd, Nat.reduceSub, Nat.reduceLeDiff, Nat.reduceMul, reduceIte, reduceCtorEq, Int.reduceNeg, Int.reduceToNat, Nat.reduceLT, Int.reduceLE, Int.reduceLT, Int.reduceAdd, Int.reduceSub, Int.reduceMul, maxLenI, wrap64, read1N, over1N, flat0N, shl1N, shl1M, List.length_set, List.length_replicate, Int.toNat_natCast_add_one, eq_self, and_self, decide_true, beq_self_eq_true]; rfl) ?_
  refine OpsA.callQ rfl rfl rfl hb32 (c32 _ _ (by first | exact rel_lt _ hk8 | exact sh_lt hk8 | exact compose_lt (rel_lt _ hk8) | exact compose_lt (sh_lt hk8) | exact union_lt (rel_lt _ hk8) (rel_lt _ hk8) | exact compose_lt (union_lt (rel_lt _ hk8) (rel_lt _ hk8)) | exact union_lt (compose_lt (rel_lt _ hk8)) (compose_lt (rel_lt _ hk8)) | exact compose_lt (compose_lt (rel_lt _ hk8))) (by simp only [compose_len, union_len, rel_len, sh_len] <;> omega) (by first | exact rel_lt _ hk8 | exact sh_lt hk8 | exact compose_lt (rel_lt _ hk8) | exact compose_lt (sh_lt hk8) | exact union_lt (rel_lt _ hk8) (rel_lt _ hk8) | exact compose_lt (union_lt (rel_lt _ hk8) (rel_lt _ hk8)) | exact union_lt (compose_lt (rel_lt _ hk8)) (compose_lt (rel_lt _ hk8)) | exact compose_lt (compose_lt (rel_lt _ hk8))) (by simp only [compose_len, union_len, rel_len, sh_len] <;> omega)) ?_
  refine OpsA.callQ rfl rfl rfl hb32 (c32 _ _ (by first | exact rel_lt _ hk8 | exact sh_lt hk8 | exact compose_lt (rel_lt _ hk8) | exact compose_lt (sh_lt hk8) | exact union_lt (rel_lt _ hk8) (rel_lt _ hk8) | exact compose_lt (union_lt (rel_lt _ hk8) (rel_lt _ hk8)) | exact union_lt (compose_lt (rel_lt _ hk8)) (compose_lt (rel_lt _ hk8)) | exact compose_lt (compose_lt (rel_lt _ hk8))) (by simp only [compose_len, union_len, rel_len, sh_len] <;> omega) (by first | exact rel_lt _ hk8 | exact sh_lt hk8 | exact compose_lt (rel_lt _ hk8) | exact compose_lt (sh_lt hk8) | exact union_lt (rel_lt _ hk8) (rel_lt _ hk8) | exact compose_lt (union_lt (rel_lt _ hk8) (rel_lt _ hk8)) | exact union_lt (compose_lt (rel_lt _ hk8)) (compose_lt (rel_lt _ hk8)) | exact compose_lt (compose_lt (rel_lt _ hk8))) (by simp only [compose_len, union_len, rel_len, sh_len] <;> omega)) ?_
  refine OpsA.pre 2 (by simp (maxSteps := 2000000) (disch := omega) only [go_sem, Nat.reduceAdd, Nat.reduceSub, Nat.reduceLeDiff, Nat.reduceMul, reduceIte, reduceCtorEq, Int.reduceNeg, Int.reduceToNat, Nat.reduceLT, Int.reduceLE, Int.reduceLT, Int.reduceAdd, Int.reduceSub, Int.reduceMul, maxLenI, wrap64, read1N, over1N, flat0N, shl1N, shl1M, List.length_set, List.length_replicate, Int.toNat_natCast_add_one, eq_self, and_self, decide_true, beq_self_eq_true]; rfl) ?_
  refine OpsA.nil ?_
  change RunA _ _ _ _ _
  refine RunA.seq ?_
  refine RunA.seq ?_
  refine RunA.region good ?_
  refine OpsA.pre 2 (by simp (maxSteps := 2000000) (disch := omega) only [go_sem, Nat.reduceAdd, Nat.reduceSub, Nat.reduceLeDiff, Nat.reduceMul, reduceIte, reduceCtorEq, Int.reduceNeg, Int.reduceToNat, Nat.reduceLT, Int.reduceLE, Int.reduceLT, Int.reduceAdd, Int.reduceSub, Int.reduceMul, maxLenI, wrap64, read1N, over1N, flat0N, shl1N, shl1M, List.length_set, List.length_replicate, Int.toNat_natCast_add_one, eq_self, and_self, decide_true, beq_self_eq_true]; rfl) ?_
  refine OpsA.callQ rfl rfl rfl hb36 (c36N _ _ (by simp only [compose_len, union_len, rel_len, sh_len] <;> omega)) ?_
  refine OpsA.pre 2 (by simp (maxSteps := 2000000) (disch := omega) only [go_sem, Nat.reduceAdd, Nat.reduceSub, Nat.reduceLeDiff, Nat.reduceMul, reduceIte, reduceCtorEq, Int.reduceNeg, Int.reduceToNat, Nat.reduceLT, Int.reduceLE, Int.reduceLT, Int.reduceAdd, Int.reduceSub, Int.reduceMul, maxLenI, wrap64, read1N, over1N, flat0N, shl1N, shl1M, List.length_set, List.length_replicate, Int.toNat_natCast_add_one, eq_self, and_self, decide_true, beq_self_eq_true]; rfl) ?_
  refine OpsA.split 45 rfl (fun e1 => ?_) (fun e1 => ?_)
  · exfalso; first | (simp [compose_assoc, compose_id, id_compose, apply_compose] at e1; done) | cases e1
  · try simp only [e1]
    have qe1 := e1; try simp only [decide_eq_true_eq, decide_eq_false_iff_not, Bool.not_eq_true', Bool.not_eq_false', Bool.not_eq_eq_eq_not, Bool.not_true, Bool.not_false, Int.not_le, Int.not_lt, beq_iff_eq, bne_iff_ne, ge_iff_le, gt_iff_lt, beq_eq_false_iff_ne, ne_eq, bne_eq_false_iff_eq] at qe1
    refine OpsA.pre 2 (by simp (maxSteps := 2000000) (disch := omega) only [go_sem, Nat.reduceAdd, Nat.reduceSub, Nat.reduceLeDiff, Nat.reduceMul, reduceIte, reduceCtorEq, Int.reduceNeg, Int.reduceToNat, Nat.reduceLT, Int.reduceLE, Int.reduceLT, Int.reduceAdd, Int.reduceSub, Int.reduceMul, maxLenI, wrap64, read1N, over1N, flat0N, shl1N, shl1M, List.length_set, List.length_replicate, Int.toNat_natCast_add_one, eq_self, and_self, decide_true, beq_self_eq_true]; rfl) ?_
    refine OpsA.callQ rfl rfl rfl hb37 (c37 _ hk8) ?_
    refine OpsA.callQ rfl rfl rfl hb32 (c32 _ _ (by first | exact rel_lt _ hk8 | exact sh_lt hk8 | exact compose_lt (rel_lt _ hk8) | exact compose_lt (sh_lt hk8) | exact union_lt (rel_lt _ hk8) (rel_lt _ hk8) | exact compose_lt (union_lt (rel_lt _ hk8) (rel_lt _ hk8)) | exact union_lt (compose_lt (rel_lt _ hk8)) (compose_lt (rel_lt _ hk8)) | exact compose_lt (compose_lt (rel_lt _ hk8))) (by simp only [compose_len, union_len, rel_len, sh_len] <;> omega) (by first | exact rel_lt _ hk8 | exact sh_lt hk8 | exact compose_lt (rel_lt _ hk8) | exact compose_lt (sh_lt hk8) | exact union_lt (rel_lt _ hk8) (rel_lt _ hk8) | exact compose_lt (union_lt (rel_lt _ hk8) (rel_lt _ hk8)) | exact union_lt (compose_lt (rel_lt _ hk8)) (compose_lt (rel_lt _ hk8)) | exact compose_lt (compose_lt (rel_lt _ hk8))) (by simp only [compose_len, union_len, rel_len, sh_len] <;> omega)) ?_
    refine OpsA.pre 1 (by simp (maxSteps := 2000000) (disch := omega) only [go_sem, Nat.reduceAdd, Nat.reduceSub, Nat.reduceLeDiff, Nat.reduceMul, reduceIte, reduceCtorEq, Int.reduceNeg, Int.reduceToNat, Nat.reduceLT, Int.reduceLE, Int.reduceLT, Int.reduceAdd, Int.reduceSub, Int.reduceMul, maxLenI, wrap64, read1N, over1N, flat0N, shl1N, shl1M, List.length_set, List.length_replicate, Int.toNat_natCast_add_one, eq_self, and_self, decide_true, beq_self_eq_true]; rfl) ?_
    refine OpsA.callQ rfl rfl rfl hb36 (c36N _ _ (by simp only [compose_len, union_len, rel_len, sh_len] <;> omega)) ?_
    refine OpsA.pre 3 (by simp (maxSteps := 2000000) (disch := omega) only [go_sem, Nat.reduceAdd, Nat.reduceSub, Nat.reduceLeDiff, Nat.reduceMul, reduceIte, reduceCtorEq, Int.reduceNeg, Int.reduceToNat, Nat.reduceLT, Int.reduceLE, Int.reduceLT, Int.reduceAdd, Int.reduceSub, Int.reduceMul, maxLenI, wrap64, read1N, over1N, flat0N, shl1N, shl1M, List.length_set, List.length_replicate, Int.toNat_natCast_add_one, eq_self, and_self, decide_true, beq_self_eq_true]; rfl) ?_
    refine OpsA.split 54 rfl (fun e2 => ?_) (fun e2 => ?_)
    · exfalso; first | (simp [compose_assoc, compose_id, id_compose, apply_compose] at e2; done) | cases e2
    · try simp only [e2]
      have qe2 := e2; try simp only [decide_eq_true_eq, decide_eq_false_iff_not, Bool.not_eq_true', Bool.not_eq_false', Bool.not_eq_eq_eq_not, Bool.not_true, Bool.not_false, Int.not_le, Int.not_lt, beq_iff_eq, bne_iff_ne, ge_iff_le, gt_iff_lt, beq_eq_false_iff_ne, ne_eq, bne_eq_false_iff_eq] at qe2
      refine OpsA.pre 1 (by simp (maxSteps := 2000000) (disch := omega) only [go_sem, Nat.reduceAdd, Nat.reduceSub, Nat.reduceLeDiff, Nat.reduceMul, reduceIte, reduceCtorEq, Int.reduceNeg, Int.reduceToNat, Nat.reduceLT, Int.reduceLE, Int.reduceLT, Int.reduceAdd, Int.reduceSub, Int.reduceMul, maxLenI, wrap64, read1N, over1N, flat0N, shl1N, shl1M, List.length_set, List.length_replicate, Int.toNat_natCast_add_one, eq_self, and_self, decide_true, beq_self_eq_true]; rfl) ?_
      refine OpsA.callQ rfl rfl rfl hb37 (c37 _ hk8) ?_
      refine OpsA.pre 1 (by simp (maxSteps := 2000000) (disch := omega) only [go_sem, Nat.reduceAdd, Nat.reduceSub, Nat.reduceLeDiff, Nat.reduceMul, reduceIte, reduceCtorEq, Int.reduceNeg, Int.reduceToNat, Nat.reduceLT, Int.reduceLE, Int.reduceLT, Int.reduceAdd, Int.reduceSub, Int.reduceMul, maxLenI, wrap64, read1N, over1N, flat0N, shl1N, shl1M, List.length_set, List.length_replicate, Int.toNat_natCast_add_one, eq_self, and_self, decide_true, beq_self_eq_true]; rfl) ?_
      refine OpsA.callQ rfl rfl rfl hb32 (c32 _ _ (by first | exact rel_lt _ hk8 | exact sh_lt hk8 | exact compose_lt (rel_lt _ hk8) | exact compose_lt (sh_lt hk8) | exact union_lt (rel_lt _ hk8) (rel_lt _ hk8) | exact compose_lt (union_lt (rel_lt _ hk8) (rel_lt _ hk8)) | exact union_lt (compose_lt (rel_lt _ hk8)) (compose_lt (rel_lt _ hk8)) | exact compose_lt (compose_lt (rel_lt _ hk8))) (by simp only [compose_len, union_len, rel_len, sh_len] <;> omega) (by first | exact rel_lt _ hk8 | exact sh_lt hk8 | exact compose_lt (rel_lt _ hk8) | exact compose_lt (sh_lt hk8) | exact union_lt (rel_lt _ hk8) (rel_lt _ hk8) | exact compose_lt (union_lt (rel_lt _ hk8) (rel_lt _ hk8)) | exact union_lt (compose_lt (rel_lt _ hk8)) (compose_lt (rel_lt _ hk8)) | exact compose_lt (compose_lt (rel_lt _ hk8))) (by simp only [compose_len, union_len, rel_len, sh_len] <;> omega)) ?_
      refine OpsA.pre 1 (by simp (maxSteps := 2000000) (disch := omega) only [go_sem, Nat.reduceAdd, Nat.reduceSub, Nat.reduceLeDiff, Nat.reduceMul, reduceIte, reduceCtorEq, Int.reduceNeg, Int.reduceToNat, Nat.reduceLT, Int.reduceLE, Int.reduceLT, Int.reduceAdd, Int.reduceSub, Int.reduceMul, maxLenI, wrap64, read1N, over1N, flat0N, shl1N, shl1M, List.length_set, List.length_replicate, Int.toNat_natCast_add_one, eq_self, and_self, decide_true, beq_self_eq_true]; rfl) ?_
      refine OpsA.callQ rfl rfl rfl hb36 (c36N _ _ (by simp only [compose_len, union_len, rel_len, sh_len] <;> omega)) ?_
      refine OpsA.pre 2 (by simp (maxSteps := 2000000) (disch := omega) only [go_sem, Nat.reduceAdd, Nat.reduceSub, Nat.reduceLeDiff, Nat.reduceMul, reduceIte, reduceCtorEq, Int.reduceNeg, Int.reduceToNat, Nat.reduceLT, Int.reduceLE, Int.reduceLT, Int.reduceAdd, Int.reduceSub, Int.reduceMul, maxLenI, wrap64, read1N, over1N, flat0N, shl1N, shl1M, List.length_set, List.length_replicate, Int.toNat_natCast_add_one, eq_self, and_self, decide_true, beq_self_eq_true]; rfl) ?_
      refine OpsA.nil ?_
      change RunA _ _ _ _ _
      refine RunA.split 62 rfl (fun e3 => ?_) (fun e3 => ?_)
      · exfalso; first | (simp [compose_assoc, compose_id, id_compose, apply_compose] at e3; done) | cases e3
      · try simp only [e3]
        have qe3 := e3; try simp only [decide_eq_true_eq, decide_eq_false_iff_not, Bool.not_eq_true', Bool.not_eq_false', Bool.not_eq_eq_eq_not, Bool.not_true, Bool.not_false, Int.not_le, Int.not_lt, beq_iff_eq, bne_iff_ne, ge_iff_le, gt_iff_lt, beq_eq_false_iff_ne, ne_eq, bne_eq_false_iff_eq] at qe3
        refine RunA.condF rfl ?_
        refine RunA.skip ?_
        change RunA _ _ _ _ _
        refine RunA.seq ?_
        refine RunA.region good ?_
        refine OpsA.pre 2 (by simp (maxSteps := 2000000) (disch := omega) only [go_sem, Nat.reduceAdd, Nat.reduceSub, Nat.reduceLeDiff, Nat.reduceMul, reduceIte, reduceCtorEq, Int.reduceNeg, Int.reduceToNat, Nat.reduceLT, Int.reduceLE, Int.reduceLT, Int.reduceAdd, Int.reduceSub, Int.reduceMul, maxLenI, wrap64, read1N, over1N, flat0N, shl1N, shl1M, List.length_set, List.length_replicate, Int.toNat_natCast_add_one, eq_self, and_self, decide_true, beq_self_eq_true]; rfl) ?_
        refine OpsA.callQ rfl rfl rfl hb32 (c32 _ _ (by first | exact rel_lt _ hk8 | exact sh_lt hk8 | exact compose_lt (rel_lt _ hk8) | exact compose_lt (sh_lt hk8) | exact union_lt (rel_lt _ hk8) (rel_lt _ hk8) | exact compose_lt (union_lt (rel_lt _ hk8) (rel_lt _ hk8)) | exact union_lt (compose_lt (rel_lt _ hk8)) (compose_lt (rel_lt _ hk8)) | exact compose_lt (compose_lt (rel_lt _ hk8))) (by simp only [compose_len, union_len, rel_len, sh_len] <;> omega) (by first | exact rel_lt _ hk8 | exact sh_lt hk8 | exact compose_lt (rel_lt _ hk8) | exact compose_lt (sh_lt hk8) | exact union_lt (rel_lt _ hk8) (rel_lt _ hk8) | exact compose_lt (union_lt (rel_lt _ hk8) (rel_lt _ hk8)) | exact union_lt (compose_lt (rel_lt _ hk8)) (compose_lt (rel_lt _ hk8)) | exact compose_lt (compose_lt (rel_lt _ hk8))) (by simp only [compose_len, union_len, rel_len, sh_len] <;> omega)) ?_
        refine OpsA.pre 1 (by simp (maxSteps := 2000000) (disch := omega) only [go_sem, Nat.reduceAdd, Nat.reduceSub, Nat.reduceLeDiff, Nat.reduceMul, reduceIte, reduceCtorEq, Int.reduceNeg, Int.reduceToNat, Nat.reduceLT, Int.reduceLE, Int.reduceLT, Int.reduceAdd, Int.reduceSub, Int.reduceMul, maxLenI, wrap64, read1N, over1N, flat0N, shl1N, shl1M, List.length_set, List.length_replicate, Int.toNat_natCast_add_one, eq_self, and_self, decide_true, beq_self_eq_true]; rfl) ?_
        refine OpsA.callQ rfl rfl rfl hb41 (c41 _ _ (by first | exact rel_lt _ hk8 | exact sh_lt hk8 | exact compose_lt (rel_lt _ hk8) | exact compose_lt (sh_lt hk8) | exact union_lt (rel_lt _ hk8) (rel_lt _ hk8) | exact compose_lt (union_lt (rel_lt _ hk8) (rel_lt _ hk8)) | exact union_lt (compose_lt (rel_lt _ hk8)) (compose_lt (rel_lt _ hk8)) | exact compose_lt (compose_lt (rel_lt _ hk8))) (by first | exact set_lt _ hk8 | exact applyTo_lt (rel_lt _ hk8) _ _ | exact or_lt (set_lt _ hk8) (set_lt _ hk8)) (by simp only [compose_len, union_len, rel_len, sh_len] <;> omega)) ?_
        refine OpsA.pre 3 (by simp (maxSteps := 2000000) (disch := omega) only [go_sem, Nat.reduceAdd, Nat.reduceSub, Nat.reduceLeDiff, Nat.reduceMul, reduceIte, reduceCtorEq, Int.reduceNeg, Int.reduceToNat, Nat.reduceLT, Int.reduceLE, Int.reduceLT, Int.reduceAdd, Int.reduceSub, Int.reduceMul, maxLenI, wrap64, read1N, over1N, flat0N, shl1N, shl1M, List.length_set, List.length_replicate, Int.toNat_natCast_add_one, eq_self, and_self, decide_true, beq_self_eq_true]; rfl) ?_
        refine OpsA.callQ rfl rfl rfl hb41 (c41 _ _ (by first | exact rel_lt _ hk8 | exact sh_lt hk8 | exact compose_lt (rel_lt _ hk8) | exact compose_lt (sh_lt hk8) | exact union_lt (rel_lt _ hk8) (rel_lt _ hk8) | exact compose_lt (union_lt (rel_lt _ hk8) (rel_lt _ hk8)) | exact union_lt (compose_lt (rel_lt _ hk8)) (compose_lt (rel_lt _ hk8)) | exact compose_lt (compose_lt (rel_lt _ hk8))) (by first | exact set_lt _ hk8 | exact applyTo_lt (rel_lt _ hk8) _ _ | exact or_lt (set_lt _ hk8) (set_lt _ hk8)) (by simp only [compose_len, union_len, rel_len, sh_len] <;> omega)) ?_
        refine OpsA.callQ rfl rfl rfl hb41 (c41 _ _ (by first | exact rel_lt _ hk8 | exact sh_lt hk8 | exact compose_lt (rel_lt _ hk8) | exact compose_lt (sh_lt hk8) | exact union_lt (rel_lt _ hk8) (rel_lt _ hk8) | exact compose_lt (union_lt (rel_lt _ hk8) (rel_lt _ hk8)) | exact union_lt (compose_lt (rel_lt _ hk8)) (compose_lt (rel_lt _ hk8)) | exact compose_lt (compose_lt (rel_lt _ hk8))) (by first | exact set_lt _ hk8 | exact applyTo_lt (rel_lt _ hk8) _ _ | exact or_lt (set_lt _ hk8) (set_lt _ hk8)) (by simp only [compose_len, union_len, rel_len, sh_len] <;> omega)) ?_
        refine OpsA.pre 2 (by simp (maxSteps := 2000000) (disch := omega) only [go_sem, Nat.reduceAdd, Nat.reduceSub, Nat.reduceLeDiff, Nat.reduceMul, reduceIte, reduceCtorEq, Int.reduceNeg, Int.reduceToNat, Nat.reduceLT, Int.reduceLE, Int.reduceLT, Int.reduceAdd, Int.reduceSub, Int.reduceMul, maxLenI, wrap64, read1N, over1N, flat0N, shl1N, shl1M, List.length_set, List.length_replicate, Int.toNat_natCast_add_one, eq_self, and_self, decide_true, beq_self_eq_true]; rfl) ?_
        refine OpsA.split 74 rfl (fun e4 => ?_) (fun e4 => ?_)
        · try simp only [e4]
          have qe4 := e4; try simp only [decide_eq_true_eq, decide_eq_false_iff_not, Bool.not_eq_true', Bool.not_eq_false', Bool.not_eq_eq_eq_not, Bool.not_true, Bool.not_false, Int.not_le, Int.not_lt, beq_iff_eq, bne_iff_ne, ge_iff_le, gt_iff_lt, beq_eq_false_iff_ne, ne_eq, bne_eq_false_iff_eq] at qe4
          refine OpsA.callQ rfl rfl rfl hb38 (c38) ?_
          refine OpsA.pre 2 (by simp (maxSteps := 2000000) (disch := omega) only [go_sem, Nat.reduceAdd, Nat.reduceSub, Nat.reduceLeDiff, Nat.reduceMul, reduceIte, reduceCtorEq, Int.reduceNeg, Int.reduceToNat, Nat.reduceLT, Int.reduceLE, Int.reduceLT, Int.reduceAdd, Int.reduceSub, Int.reduceMul, maxLenI, wrap64, read1N, over1N, flat0N, shl1N, shl1M, List.length_set, List.length_replicate, Int.toNat_natCast_add_one, eq_self, and_self, decide_true, beq_self_eq_true]; rfl) ?_
          refine OpsA.nil ?_
          change RunA _ _ _ _ _
          refine RunA.ret ?_
          refine Ends.mk (by simp only [res10, resA, resAs, resA1]; first | rfl | (simp (maxSteps := 2000000) (disch := omega) only [go_sem, Nat.reduceAdd, Nat.reduceSub, Nat.reduceLeDiff, Nat.reduceMul, reduceIte, reduceCtorEq, Int.reduceNeg, Int.reduceToNat, Nat.reduceLT, Int.reduceLE, Int.reduceLT, Int.reduceAdd, Int.reduceSub, Int.reduceMul, maxLenI, wrap64, read1N, over1N, flat0N, shl1N, shl1M, List.length_set, List.length_replicate, Int.toNat_natCast_add_one, eq_self, and_self, decide_true, beq_self_eq_true]; rfl)) ?_
          exact ⟨[], _, (List.append_nil _).symm, by first | rfl | rfl, by rfl⟩
        · exfalso; first | (simp [compose_assoc, compose_id, id_compose, apply_compose] at e4; done) | cases e4

theorem c12 {h : Heap} (a b c : List Int) (n s t : Int) (ha : a.length < 9223372036854775808) (hb : b.length < 9223372036854775808) (hc : c.length < 9223372036854775808) : CallA Try.prog cfg 12 [vecI a, vecI b, vecI c, .int .i64 n, .int .i64 s, .int .i64 t] h (fun y' h' => y' = .bool true ∧ h' = h) := by
  obtain ⟨k, hk⟩ := Int.eq_ofNat_of_zero_le (@within_lo n 9 (by omega))
  have hk8 : k ≤ 8 := by have := @within_hi n 9 (by omega); omega
  have hs := set_lt s hk8; have ht := set_lt t hk8
  have f1 : applyN (relN a k) (withinN s ((2 ^ (k + 1) : Nat) : Int)) < 512 := applyTo_lt (rel_lt a hk8) _ _
  have f2 : applyN (relN a k) (withinN t ((2 ^ (k + 1) : Nat) : Int)) < 512 := applyTo_lt (rel_lt a hk8) _ _
  have f3 : applyN (relN b k) (withinN s ((2 ^ (k + 1) : Nat) : Int)) < 512 := applyTo_lt (rel_lt b hk8) _ _
  refine CallA.body (Q := fun y' => y' = .bool true) good fn12 rfl ?_
  simp only [ntm12, List.length_cons, List.length_nil, Nat.reduceAdd, Nat.reduceSub, List.replicate, List.cons_append, List.nil_append]
  refine RunA.seq ?_
  refine RunA.region good ?_
  refine OpsA.pre 1 (by simp (maxSteps := 2000000) (disch := omega) only [go_sem, Nat.reduceAdd, Nat.reduceSub, Nat.reduceLeDiff, Nat.reduceMul, reduceIte, reduceCtorEq, Int.reduceNeg, Int.reduceToNat, Nat.reduceLT, Int.reduceLE, Int.reduceLT, Int.reduceAdd, Int.reduceSub, Int.reduceMul, maxLenI, wrap64, read1N, over1N, flat0N, shl1N, shl1M, List.length_set, List.length_replicate, Int.toNat_natCast_add_one, eq_self, and_self, decide_true, beq_self_eq_true, orN]; rfl) ?_
  refine OpsA.nil ?_
  change RunA _ _ _ _ _
  refine RunA.seq ?_
  refine RunA.region good ?_
  refine OpsA.pre 1 (by simp (maxSteps := 2000000) (disch := omega) only [go_sem, Nat.reduceAdd, Nat.reduceSub, Nat.reduceLeDiff, Nat.reduceMul, reduceIte, reduceCtorEq, Int.reduceNeg, Int.reduceToNat, Nat.reduceLT, Int.reduceLE, Int.reduceLT, Int.reduceAdd, Int.reduceSub, Int.reduceMul, maxLenI, wrap64, read1N, over1N, flat0N, shl1N, shl1M, List.length_set, List.length_replicate, Int.toNat_natCast_add_one, eq_self, and_self, decide_true, beq_self_eq_true, orN]; rfl) ?_
  refine OpsA.callQ rfl rfl rfl hb31 (c31 n k hk) ?_
  refine OpsA.pre 1 (by simp (maxSteps := 2000000) (disch := omega) only [go_sem, Nat.reduceAdd, Nat.reduceSub, Nat.reduceLeDiff, Nat.reduceMul, reduceIte, reduceCtorEq, Int.reduceNeg, Int.reduceToNat, Nat.reduceLT, Int.reduceLE, Int.reduceLT, Int.reduceAdd, Int.reduceSub, Int.reduceMul, maxLenI, wrap64, read1N, over1N, flat0N, shl1N, shl1M, List.length_set, List.length_replicate, Int.toNat_natCast_add_one, eq_self, and_self, decide_true, beq_self_eq_true, orN]; rfl) ?_
  refine OpsA.nil ?_
  change RunA _ _ _ _ _
  refine RunA.seq ?_
  refine RunA.region good ?_
  refine OpsA.pre 2 (by simp (maxSteps := 2000000) (disch := omega) only [go_sem, Nat.reduceAdd, Nat.reduceSub, Nat.reduceLeDiff, Nat.reduceMul, reduceIte, reduceCtorEq, Int.reduceNeg, Int.reduceToNat, Nat.reduceLT, Int.reduceLE, Int.reduceLT, Int.reduceAdd, Int.reduceSub, Int.reduceMul, maxLenI, wrap64, read1N, over1N, flat0N, shl1N, shl1M, List.length_set, List.length_replicate, Int.toNat_natCast_add_one, eq_self, and_self, decide_true, beq_self_eq_true, orN]; rfl) ?_
  refine OpsA.callQ rfl rfl rfl hb39 (c39 _ _ hk8 (by assumption)) ?_
  refine OpsA.pre 2 (by simp (maxSteps := 2000000) (disch := omega) only [go_sem, Nat.reduceAdd, Nat.reduceSub, Nat.reduceLeDiff, Nat.reduceMul, reduceIte, reduceCtorEq, Int.reduceNeg, Int.reduceToNat, Nat.reduceLT, Int.reduceLE, Int.reduceLT, Int.reduceAdd, Int.reduceSub, Int.reduceMul, maxLenI, wrap64, read1N, over1N, flat0N, shl1N, shl1M, List.length_set, List.length_replicate, Int.toNat_natCast_add_one, eq_self, and_self, decide_true, beq_self_eq_true, orN]; rfl) ?_
  refine OpsA.callQ rfl rfl rfl hb39 (c39 _ _ hk8 (by assumption)) ?_
  refine OpsA.pre 2 (by simp (maxSteps := 2000000) (disch := omega) only [go_sem, Nat.reduceAdd, Nat.reduceSub, Nat.reduceLeDiff, Nat.reduceMul, reduceIte, reduceCtorEq, Int.reduceNeg, Int.reduceToNat, Nat.reduceLT, Int.reduceLE, Int.reduceLT, Int.reduceAdd, Int.reduceSub, Int.reduceMul, maxLenI, wrap64, read1N, over1N, flat0N, shl1N, shl1M, List.length_set, List.length_replicate, Int.toNat_natCast_add_one, eq_self, and_self, decide_true, beq_self_eq_true, orN]; rfl) ?_
  refine OpsA.callQ rfl rfl rfl hb39 (c39 _ _ hk8 (by assumption)) ?_
  refine OpsA.pre 3 (by simp (maxSteps := 2000000) (disch := omega) only [go_sem, Nat.reduceAdd, Nat.reduceSub, Nat.reduceLeDiff, Nat.reduceMul, reduceIte, reduceCtorEq, Int.reduceNeg, Int.reduceToNat, Nat.reduceLT, Int.reduceLE, Int.reduceLT, Int.reduceAdd, Int.reduceSub, Int.reduceMul, maxLenI, wrap64, read1N, over1N, flat0N, shl1N, shl1M, List.length_set, List.length_replicate, Int.toNat_natCast_add_one, eq_self, and_self, decide_true, beq_self_eq_true, orN]; rfl) ?_
  refine OpsA.nil ?_
  change RunA _ _ _ _ _
  refine RunA.seq ?_
  refine RunA.region good ?_
  refine OpsA.pre 2 (by simp (maxSteps := 2000000) (disch := omega) only [go_sem, Nat.reduceAdd, Nat.reduceSub, Nat.reduceLeDiff, Nat.reduceMul, reduceIte, reduceCtorEq, Int.reduceNeg, Int.reduceToNat, Nat.reduceLT, Int.reduceLE, Int.reduceLT, Int.reduceAdd, Int.reduceSub, Int.reduceMul, maxLenI, wrap64, read1N, over1N, flat0N, shl1N, shl1M, List.length_set, List.length_replicate, Int.toNat_natCast_add_one, eq_self, and_self, decide_true, beq_self_eq_true, orN]; rfl) ?_
  refine OpsA.callQ rfl rfl rfl hb40 (c40 _ _ hk8) ?_
  refine OpsA.pre 2 (by simp (maxSteps := 2000000) (disch := omega) only [go_sem, Nat.reduceAdd, Nat.reduceSub, Nat.reduceLeDiff, Nat.reduceMul, reduceIte, reduceCtorEq, Int.reduceNeg, Int.reduceToNat, Nat.reduceLT, Int.reduceLE, Int.reduceLT, Int.reduceAdd, Int.reduceSub, Int.reduceMul, maxLenI, wrap64, read1N, over1N, flat0N, shl1N, shl1M, List.length_set, List.length_replicate, Int.toNat_natCast_add_one, eq_self, and_self, decide_true, beq_self_eq_true, orN]; rfl) ?_
  refine OpsA.callQ rfl rfl rfl hb40 (c40 _ _ hk8) ?_
  refine OpsA.pre 2 (by simp (maxSteps := 2000000) (disch := omega) only [go_sem, Nat.reduceAdd, Nat.reduceSub, Nat.reduceLeDiff, Nat.reduceMul, reduceIte, reduceCtorEq, Int.reduceNeg, Int.reduceToNat, Nat.reduceLT, Int.reduceLE, Int.reduceLT, Int.reduceAdd, Int.reduceSub, Int.reduceMul, maxLenI, wrap64, read1N, over1N, flat0N, shl1N, shl1M, List.length_set, List.length_replicate, Int.toNat_natCast_add_one, eq_self, and_self, decide_true, beq_self_eq_true, orN]; rfl) ?_
  refine OpsA.nil ?_
  change RunA _ _ _ _ _
  refine RunA.seq ?_
  refine RunA.region good ?_
  refine OpsA.pre 2 (by simp (maxSteps := 2000000) (disch := omega) only [go_sem, Nat.reduceAdd, Nat.reduceSub, Nat.reduceLeDiff, Nat.reduceMul, reduceIte, reduceCtorEq, Int.reduceNeg, Int.reduceToNat, Nat.reduceLT, Int.reduceLE, Int.reduceLT, Int.reduceAdd, Int.reduceSub, Int.reduceMul, maxLenI, wrap64, read1N, over1N, flat0N, shl1N, shl1M, List.length_set, List.length_replicate, Int.toNat_natCast_add_one, eq_self, and_self, decide_true, beq_self_eq_true, orN]; rfl) ?_
  refine OpsA.callQ rfl rfl rfl hb48 (c48 _ _ (by first | exact rel_lt _ hk8 | exact sh_lt hk8 | exact compose_lt (rel_lt _ hk8) | exact compose_lt (sh_lt hk8) | exact union_lt (rel_lt _ hk8) (rel_lt _ hk8) | exact compose_lt (union_lt (rel_lt _ hk8) (rel_lt _ hk8)) | exact union_lt (compose_lt (rel_lt _ hk8)) (compose_lt (rel_lt _ hk8)) | exact compose_lt (compose_lt (rel_lt _ hk8))) (by first | exact rel_lt _ hk8 | exact sh_lt hk8 | exact compose_lt (rel_lt _ hk8) | exact compose_lt (sh_lt hk8) | exact union_lt (rel_lt _ hk8) (rel_lt _ hk8) | exact compose_lt (union_lt (rel_lt _ hk8) (rel_lt _ hk8)) | exact union_lt (compose_lt (rel_lt _ hk8)) (compose_lt (rel_lt _ hk8)) | exact compose_lt (compose_lt (rel_lt _ hk8))) (by simp only [compose_len, union_len, rel_len, sh_len] <;> omega) (by simp only [compose_len, union_len, rel_len, sh_len] <;> omega)) ?_
  refine OpsA.pre 1 (by simp (maxSteps := 2000000) (disch := omega) only [go_sem, Nat.reduceAdd, Nat.reduceSub, Nat.reduceLeDiff, Nat.reduceMul, reduceIte, reduceCtorEq, Int.reduceNeg, Int.reduceToNat, Nat.reduceLT, Int.reduceLE, Int.reduceLT, Int.reduceAdd, Int.reduceSub, Int.reduceMul, maxLenI, wrap64, read1N, over1N, flat0N, shl1N, shl1M, List.length_set, List.length_replicate, Int.toNat_natCast_add_one, eq_self, and_self, decide_true, beq_self_eq_true, orN]; rfl) ?_
  refine OpsA.callQ rfl rfl rfl hb32 (c32 _ _ (by first | exact rel_lt _ hk8 | exact sh_lt hk8 | exact compose_lt (rel_lt _ hk8) | exact compose_lt (sh_lt hk8) | exact union_lt (rel_lt _ hk8) (rel_lt _ hk8) | exact compose_lt (union_lt (rel_lt _ hk8) (rel_lt _ hk8)) | exact union_lt (compose_lt (rel_lt _ hk8)) (compose_lt (rel_lt _ hk8)) | exact compose_lt (compose_lt (rel_lt _ hk8))) (by simp only [compose_len, union_len, rel_len, sh_len] <;> omega) (by first | exact rel_lt _ hk8 | exact sh_lt hk8 | exact compose_lt (rel_lt _ hk8) | exact compose_lt (sh_lt hk8) | exact union_lt (rel_lt _ hk8) (rel_lt _ hk8) | exact compose_lt (union_lt (rel_lt _ hk8) (rel_lt _ hk8)) | exact union_lt (compose_lt (rel_lt _ hk8)) (compose_lt (rel_lt _ hk8)) | exact compose_lt (compose_lt (rel_lt _ hk8))) (by simp only [compose_len, union_len, rel_len, sh_len] <;> omega)) ?_
  refine OpsA.pre 2 (by simp (maxSteps := 2000000) (disch := omega) only [go_sem, Nat.reduceAdd, Nat.reduceSub, Nat.reduceLeDiff, Nat.reduceMul, reduceIte, reduceCtorEq, Int.reduceNeg, Int.reduceToNat, Nat.reduceLT, Int.reduceLE, Int.reduceLT, Int.reduceAdd, Int.reduceSub, Int.reduceMul, maxLenI, wrap64, read1N, over1N, flat0N, shl1N, shl1M, List.length_set, List.length_replicate, Int.toNat_natCast_add_one, eq_self, and_self, decide_true, beq_self_eq_true, orN]; rfl) ?_
  refine OpsA.callQ rfl rfl rfl hb32 (c32 _ _ (by first | exact rel_lt _ hk8 | exact sh_lt hk8 | exact compose_lt (rel_lt _ hk8) | exact compose_lt (sh_lt hk8) | exact union_lt (rel_lt _ hk8) (rel_lt _ hk8) | exact compose_lt (union_lt (rel_lt _ hk8) (rel_lt _ hk8)) | exact union_lt (compose_lt (rel_lt _ hk8)) (compose_lt (rel_lt _ hk8)) | exact compose_lt (compose_lt (rel_lt _ hk8))) (by simp only [compose_len, union_len, rel_len, sh_len] <;> omega) (by first | exact rel_lt _ hk8 | exact sh_lt hk8 | exact compose_lt (rel_lt _ hk8) | exact compose_lt (sh_lt hk8) | exact union_lt (rel_lt _ hk8) (rel_lt _ hk8) | exact compose_lt (union_lt (rel_lt _ hk8) (rel_lt _ hk8)) | exact union_lt (compose_lt (rel_lt _ hk8)) (compose_lt (rel_lt _ hk8)) | exact compose_lt (compose_lt (rel_lt _ hk8))) (by simp only [compose_len, union_len, rel_len, sh_len] <;> omega)) ?_
  refine OpsA.pre 2 (by simp (maxSteps := 2000000) (disch := omega) only [go_sem, Nat.reduceAdd, Nat.reduceSub, Nat.reduceLeDiff, Nat.reduceMul, reduceIte, reduceCtorEq, Int.reduceNeg, Int.reduceToNat, Nat.reduceLT, Int.reduceLE, Int.reduceLT, Int.reduceAdd, Int.reduceSub, Int.reduceMul, maxLenI, wrap64, read1N, over1N, flat0N, shl1N, shl1M, List.length_set, List.length_replicate, Int.toNat_natCast_add_one, eq_self, and_self, decide_true, beq_self_eq_true, orN]; rfl) ?_
  refine OpsA.callQ rfl rfl rfl hb32 (c32 _ _ (by first | exact rel_lt _ hk8 | exact sh_lt hk8 | exact compose_lt (rel_lt _ hk8) | exact compose_lt (sh_lt hk8) | exact union_lt (rel_lt _ hk8) (rel_lt _ hk8) | exact compose_lt (union_lt (rel_lt _ hk8) (rel_lt _ hk8)) | exact union_lt (compose_lt (rel_lt _ hk8)) (compose_lt (rel_lt _ hk8)) | exact compose_lt (compose_lt (rel_lt _ hk8))) (by simp only [compose_len, union_len, rel_len, sh_len] <;> omega) (by first | exact rel_lt _ hk8 | exact sh_lt hk8 | exact compose_lt (rel_lt _ hk8) | exact compose_lt (sh_lt hk8) | exact union_lt (rel_lt _ hk8) (rel_lt _ hk8) | exact compose_lt (union_lt (rel_lt _ hk8) (rel_lt _ hk8)) | exact union_lt (compose_lt (rel_lt _ hk8)) (compose_lt (rel_lt _ hk8)) | exact compose_lt (compose_lt (rel_lt _ hk8))) (by simp only [compose_len, union_len, rel_len, sh_len] <;> omega)) ?_
  refine OpsA.callQ rfl rfl rfl hb48 (c48 _ _ (by first | exact rel_lt _ hk8 | exact sh_lt hk8 | exact compose_lt (rel_lt _ hk8) | exact compose_lt (sh_lt hk8) | exact union_lt (rel_lt _ hk8) (rel_lt _ hk8) | exact compose_lt (union_lt (rel_lt _ hk8) (rel_lt _ hk8)) | exact union_lt (compose_lt (rel_lt _ hk8)) (compose_lt (rel_lt _ hk8)) | exact compose_lt (compose_lt (rel_lt _ hk8))) (by first | exact rel_lt _ hk8 | exact sh_lt hk8 | exact compose_lt (rel_lt _ hk8) | exact compose_lt (sh_lt hk8) | exact union_lt (rel_lt _ hk8) (rel_lt _ hk8) | exact compose_lt (union_lt (rel_lt _ hk8) (rel_lt _ hk8)) | exact union_lt (compose_lt (rel_lt _ hk8)) (compose_lt (rel_lt _ hk8)) | exact compose_lt (compose_lt (rel_lt _ hk8))) (by simp only [compose_len, union_len, rel_len, sh_len] <;> omega) (by simp only [compose_len, union_len, rel_len, sh_len] <;> omega)) ?_
  refine OpsA.callQ rfl rfl rfl hb36 (c36N _ _ (by simp only [compose_len, union_len, rel_len, sh_len] <;> omega)) ?_
  refine OpsA.pre 1 (by simp (maxSteps := 2000000) (disch := omega) only [go_sem, Nat.reduceAdd, Nat.reduceSub, Nat.reduceLeDiff, Nat.reduceMul, reduceIte, reduceCtorEq, Int.reduceNeg, Int.reduceToNat, Nat.reduceLT, Int.reduceLE, Int.reduceLT, Int.reduceAdd, Int.reduceSub, Int.reduceMul, maxLenI, wrap64, read1N, over1N, flat0N, shl1N, shl1M, List.length_set, List.length_replicate, Int.toNat_natCast_add_one, eq_self, and_self, decide_true, beq_self_eq_true, orN]; rfl) ?_
  refine OpsA.nil ?_
  change RunA _ _ _ _ _
  refine RunA.seq ?_
  refine RunA.region good ?_
  refine OpsA.pre 3 (by simp (maxSteps := 2000000) (disch := omega) only [go_sem, Nat.reduceAdd, Nat.reduceSub, Nat.reduceLeDiff, Nat.reduceMul, reduceIte, reduceCtorEq, Int.reduceNeg, Int.reduceToNat, Nat.reduceLT, Int.reduceLE, Int.reduceLT, Int.reduceAdd, Int.reduceSub, Int.reduceMul, maxLenI, wrap64, read1N, over1N, flat0N, shl1N, shl1M, List.length_set, List.length_replicate, Int.toNat_natCast_add_one, eq_self, and_self, decide_true, beq_self_eq_true, orN]; rfl) ?_
  refine OpsA.callQ rfl rfl rfl hb48 (c48 _ _ (by first | exact rel_lt _ hk8 | exact sh_lt hk8 | exact compose_lt (rel_lt _ hk8) | exact compose_lt (sh_lt hk8) | exact union_lt (rel_lt _ hk8) (rel_lt _ hk8) | exact compose_lt (union_lt (rel_lt _ hk8) (rel_lt _ hk8)) | exact union_lt (compose_lt (rel_lt _ hk8)) (compose_lt (rel_lt _ hk8)) | exact compose_lt (compose_lt (rel_lt _ hk8))) (by first | exact rel_lt _ hk8 | exact sh_lt hk8 | exact compose_lt (rel_lt _ hk8) | exact compose_lt (sh_lt hk8) | exact union_lt (rel_lt _ hk8) (rel_lt _ hk8) | exact compose_lt (union_lt (rel_lt _ hk8) (rel_lt _ hk8)) | exact union_lt (compose_lt (rel_lt _ hk8)) (compose_lt (rel_lt _ hk8)) | exact compose_lt (compose_lt (rel_lt _ hk8))) (by simp only [compose_len, union_len, rel_len, sh_len] <;> omega) (by simp only [compose_len, union_len, rel_len, sh_len] <;> omega)) ?_
  refine OpsA.callQ rfl rfl rfl hb32 (c32 _ _ (by first | exact rel_lt _ hk8 | exact sh_lt hk8 | exact compose_lt (rel_lt _ hk8) | exact compose_lt (sh_lt hk8) | exact union_lt (rel_lt _ hk8) (rel_lt _ hk8) | exact compose_lt (union_lt (rel_lt _ hk8) (rel_lt _ hk8)) | exact union_lt (compose_lt (rel_lt _ hk8)) (compose_lt (rel_lt _ hk8)) | exact compose_lt (compose_lt (rel_lt _ hk8))) (by simp only [compose_len, union_len, rel_len, sh_len] <;> omega) (by first | exact rel_lt _ hk8 | exact sh_lt hk8 | exact compose_lt (rel_lt _ hk8) | exact compose_lt (sh_lt hk8) | exact union_lt (rel_lt _ hk8) (rel_lt _ hk8) | exact compose_lt (union_lt (rel_lt _ hk8) (rel_lt _ hk8)) | exact union_lt (compose_lt (rel_lt _ hk8)) (compose_lt (rel_lt _ hk8)) | exact compose_lt (compose_lt (rel_lt _ hk8))) (by simp only [compose_len, union_len, rel_len, sh_len] <;> omega)) ?_
  refine OpsA.pre 2 (by simp (maxSteps := 2000000) (disch := omega) only [go_sem, Nat.reduceAdd, Nat.reduceSub, Nat.reduceLeDiff, Nat.reduceMul, reduceIte, reduceCtorEq, Int.reduceNeg, Int.reduceToNat, Nat.reduceLT, Int.reduceLE, Int.reduceLT, Int.reduceAdd, Int.reduceSub, Int.reduceMul, maxLenI, wrap64, read1N, over1N, flat0N, shl1N, shl1M, List.length_set, List.length_replicate, Int.toNat_natCast_add_one, eq_self, and_self, decide_true, beq_self_eq_true, orN]; rfl) ?_
  refine OpsA.callQ rfl rfl rfl hb32 (c32 _ _ (by first | exact rel_lt _ hk8 | exact sh_lt hk8 | exact compose_lt (rel_lt _ hk8) | exact compose_lt (sh_lt hk8) | exact union_lt (rel_lt _ hk8) (rel_lt _ hk8) | exact compose_lt (union_lt (rel_lt _ hk8) (rel_lt _ hk8)) | exact union_lt (compose_lt (rel_lt _ hk8)) (compose_lt (rel_lt _ hk8)) | exact compose_lt (compose_lt (rel_lt _ hk8))) (by simp only [compose_len, union_len, rel_len, sh_len] <;> omega) (by first | exact rel_lt _ hk8 | exact sh_lt hk8 | exact compose_lt (rel_lt _ hk8) | exact compose_lt (sh_lt hk8) | exact union_lt (rel_lt _ hk8) (rel_lt _ hk8) | exact compose_lt (union_lt (rel_lt _ hk8) (rel_lt _ hk8)) | exact union_lt (compose_lt (rel_lt _ hk8)) (compose_lt (rel_lt _ hk8)) | exact compose_lt (compose_lt (rel_lt _ hk8))) (by simp only [compose_len, union_len, rel_len, sh_len] <;> omega)) ?_
  refine OpsA.pre 2 (by simp (maxSteps := 2000000) (disch := omega) only [go_sem, Nat.reduceAdd, Nat.reduceSub, Nat.reduceLeDiff, Nat.reduceMul, reduceIte, reduceCtorEq, Int.reduceNeg, Int.reduceToNat, Nat.reduceLT, Int.reduceLE, Int.reduceLT, Int.reduceAdd, Int.reduceSub, Int.reduceMul, maxLenI, wrap64, read1N, over1N, flat0N, shl1N, shl1M, List.length_set, List.length_replicate, Int.toNat_natCast_add_one, eq_self, and_self, decide_true, beq_self_eq_true, orN]; rfl) ?_
  refine OpsA.callQ rfl rfl rfl hb32 (c32 _ _ (by first | exact rel_lt _ hk8 | exact sh_lt hk8 | exact compose_lt (rel_lt _ hk8) | exact compose_lt (sh_lt hk8) | exact union_lt (rel_lt _ hk8) (rel_lt _ hk8) | exact compose_lt (union_lt (rel_lt _ hk8) (rel_lt _ hk8)) | exact union_lt (compose_lt (rel_lt _ hk8)) (compose_lt (rel_lt _ hk8)) | exact compose_lt (compose_lt (rel_lt _ hk8))) (by simp only [compose_len, union_len, rel_len, sh_len] <;> omega) (by first | exact rel_lt _ hk8 | exact sh_lt hk8 | exact compose_lt (rel_lt _ hk8) | exact compose_lt (sh_lt hk8) | exact union_lt (rel_lt _ hk8) (rel_lt _ hk8) | exact compose_lt (union_lt (rel_lt _ hk8) (rel_lt _ hk8)) | exact union_lt (compose_lt (rel_lt _ hk8)) (compose_lt (rel_lt _ hk8)) | exact compose_lt (compose_lt (rel_lt _ hk8))) (by simp only [compose_len, union_len, rel_len, sh_len] <;> omega)) ?_
  refine OpsA.callQ rfl rfl rfl hb48 (c48 _ _ (by first | exact rel_lt _ hk8 | exact sh_lt hk8 | exact compose_lt (rel_lt _ hk8) | exact compose_lt (sh_lt hk8) | exact union_lt (rel_lt _ hk8) (rel_lt _ hk8) | exact compose_lt (union_lt (rel_lt _ hk8) (rel_lt _ hk8)) | exact union_lt (compose_lt (rel_lt _ hk8)) (compose_lt (rel_lt _ hk8)) | exact compose_lt (compose_lt (rel_lt _ hk8))) (by first | exact rel_lt _ hk8 | exact sh_lt hk8 | exact compose_lt (rel_lt _ hk8) | exact compose_lt (sh_lt hk8) | exact union_lt (rel_lt _ hk8) (rel_lt _ hk8) | exact compose_lt (union_lt (rel_lt _ hk8) (rel_lt _ hk8)) | exact union_lt (compose_lt (rel_lt _ hk8)) (compose_lt (rel_lt _ hk8)) | exact compose_lt (compose_lt (rel_lt _ hk8))) (by simp only [compose_len, union_len, rel_len, sh_len] <;> omega) (by simp only [compose_len, union_len, rel_len, sh_len] <;> omega)) ?_
  refine OpsA.callQ rfl rfl rfl hb36 (c36N _ _ (by simp only [compose_len, union_len, rel_len, sh_len] <;> omega)) ?_
  refine OpsA.pre 1 (by simp (maxSteps := 2000000) (disch := omega) only [go_sem, Nat.reduceAdd, Nat.reduceSub, Nat.reduceLeDiff, Nat.reduceMul, reduceIte, reduceCtorEq, Int.reduceNeg, Int.reduceToNat, Nat.reduceLT, Int.reduceLE, Int.reduceLT, Int.reduceAdd, Int.reduceSub, Int.reduceMul, maxLenI, wrap64, read1N, over1N, flat0N, shl1N, shl1M, List.length_set, List.length_replicate, Int.toNat_natCast_add_one, eq_self, and_self, decide_true, beq_self_eq_true, orN]; rfl) ?_
  refine OpsA.nil ?_
  change RunA _ _ _ _ _
  refine RunA.seq ?_
  refine RunA.region good ?_
  refine OpsA.pre 2 (by simp (maxSteps := 2000000) (disch := omega) only [go_sem, Nat.reduceAdd, Nat.reduceSub, Nat.reduceLeDiff, Nat.reduceMul, reduceIte, reduceCtorEq, Int.reduceNeg, Int.reduceToNat, Nat.reduceLT, Int.reduceLE, Int.reduceLT, Int.reduceAdd, Int.reduceSub, Int.reduceMul, maxLenI, wrap64, read1N, over1N, flat0N, shl1N, shl1M, List.length_set, List.length_replicate, Int.toNat_natCast_add_one, eq_self, and_self, decide_true, beq_self_eq_true, orN]; rfl) ?_
  refine OpsA.split 63 rfl (fun e1 => ?_) (fun e1 => ?_)
  · try simp only [e1]
    have qe1 := e1; try simp only [decide_eq_true_eq, decide_eq_false_iff_not, Bool.not_eq_true', Bool.not_eq_false', Bool.not_eq_eq_eq_not, Bool.not_true, Bool.not_false, Int.not_le, Int.not_lt, beq_iff_eq, bne_iff_ne, ge_iff_le, gt_iff_lt, beq_eq_false_iff_ne, ne_eq, bne_eq_false_iff_eq] at qe1
    refine OpsA.pre 3 (by simp (maxSteps := 2000000) (disch := omega) only [go_sem, Nat.reduceAdd, Nat.reduceSub, Nat.reduceLeDiff, Nat.reduceMul, reduceIte, reduceCtorEq, Int.reduceNeg, Int.reduceToNat, Nat.reduceLT, Int.reduceLE, Int.reduceLT, Int.reduceAdd, Int.reduceSub, Int.reduceMul, maxLenI, wrap64, read1N, over1N, flat0N, shl1N, shl1M, List.length_set, List.length_replicate, Int.toNat_natCast_add_one, eq_self, and_self, decide_true, beq_self_eq_true, orN]; rfl) ?_
    refine OpsA.split 66 rfl (fun e2 => ?_) (fun e2 => ?_)
    · try simp only [e2]
      have qe2 := e2; try simp only [decide_eq_true_eq, decide_eq_false_iff_not, Bool.not_eq_true', Bool.not_eq_false', Bool.not_eq_eq_eq_not, Bool.not_true, Bool.not_false, Int.not_le, Int.not_lt, beq_iff_eq, bne_iff_ne, ge_iff_le, gt_iff_lt, beq_eq_false_iff_ne, ne_eq, bne_eq_false_iff_eq] at qe2
      refine OpsA.pre 4 (by simp (maxSteps := 2000000) (disch := omega) only [go_sem, Nat.reduceAdd, Nat.reduceSub, Nat.reduceLeDiff, Nat.reduceMul, reduceIte, reduceCtorEq, Int.reduceNeg, Int.reduceToNat, Nat.reduceLT, Int.reduceLE, Int.reduceLT, Int.reduceAdd, Int.reduceSub, Int.reduceMul, maxLenI, wrap64, read1N, over1N, flat0N, shl1N, shl1M, List.length_set, List.length_replicate, Int.toNat_natCast_add_one, eq_self, and_self, decide_true, beq_self_eq_true, orN]; rfl) ?_
      refine OpsA.callQ rfl rfl rfl hb41 (c41 _ _ (by first | exact rel_lt _ hk8 | exact sh_lt hk8 | exact compose_lt (rel_lt _ hk8) | exact compose_lt (sh_lt hk8) | exact union_lt (rel_lt _ hk8) (rel_lt _ hk8) | exact compose_lt (union_lt (rel_lt _ hk8) (rel_lt _ hk8)) | exact union_lt (compose_lt (rel_lt _ hk8)) (compose_lt (rel_lt _ hk8)) | exact compose_lt (compose_lt (rel_lt _ hk8))) (by first | exact set_lt _ hk8 | exact applyTo_lt (rel_lt _ hk8) _ _ | exact or_lt (set_lt _ hk8) (set_lt _ hk8)) (by simp only [compose_len, union_len, rel_len, sh_len] <;> omega)) ?_
      refine OpsA.pre 2 (by simp (maxSteps := 2000000) (disch := omega) only [go_sem, Nat.reduceAdd, Nat.reduceSub, Nat.reduceLeDiff, Nat.reduceMul, reduceIte, reduceCtorEq, Int.reduceNeg, Int.reduceToNat, Nat.reduceLT, Int.reduceLE, Int.reduceLT, Int.reduceAdd, Int.reduceSub, Int.reduceMul, maxLenI, wrap64, read1N, over1N, flat0N, shl1N, shl1M, List.length_set, List.length_replicate, Int.toNat_natCast_add_one, eq_self, and_self, decide_true, beq_self_eq_true, orN]; rfl) ?_
      refine OpsA.callQ rfl rfl rfl hb41 (c41 _ _ (by first | exact rel_lt _ hk8 | exact sh_lt hk8 | exact compose_lt (rel_lt _ hk8) | exact compose_lt (sh_lt hk8) | exact union_lt (rel_lt _ hk8) (rel_lt _ hk8) | exact compose_lt (union_lt (rel_lt _ hk8) (rel_lt _ hk8)) | exact union_lt (compose_lt (rel_lt _ hk8)) (compose_lt (rel_lt _ hk8)) | exact compose_lt (compose_lt (rel_lt _ hk8))) (by first | exact set_lt _ hk8 | exact applyTo_lt (rel_lt _ hk8) _ _ | exact or_lt (set_lt _ hk8) (set_lt _ hk8)) (by simp only [compose_len, union_len, rel_len, sh_len] <;> omega)) ?_
      refine OpsA.pre 2 (by simp (maxSteps := 2000000) (disch := omega) only [go_sem, Nat.reduceAdd, Nat.reduceSub, Nat.reduceLeDiff, Nat.reduceMul, reduceIte, reduceCtorEq, Int.reduceNeg, Int.reduceToNat, Nat.reduceLT, Int.reduceLE, Int.reduceLT, Int.reduceAdd, Int.reduceSub, Int.reduceMul, maxLenI, wrap64, read1N, over1N, flat0N, shl1N, shl1M, List.length_set, List.length_replicate, Int.toNat_natCast_add_one, eq_self, and_self, decide_true, beq_self_eq_true, orN]; rfl) ?_
      refine OpsA.callQ rfl rfl rfl hb41 (c41 _ _ (by first | exact rel_lt _ hk8 | exact sh_lt hk8 | exact compose_lt (rel_lt _ hk8) | exact compose_lt (sh_lt hk8) | exact union_lt (rel_lt _ hk8) (rel_lt _ hk8) | exact compose_lt (union_lt (rel_lt _ hk8) (rel_lt _ hk8)) | exact union_lt (compose_lt (rel_lt _ hk8)) (compose_lt (rel_lt _ hk8)) | exact compose_lt (compose_lt (rel_lt _ hk8))) (by first | exact set_lt _ hk8 | exact applyTo_lt (rel_lt _ hk8) _ _ | exact or_lt (set_lt _ hk8) (set_lt _ hk8)) (by simp only [compose_len, union_len, rel_len, sh_len] <;> omega)) ?_
      refine OpsA.pre 4 (by simp (maxSteps := 2000000) (disch := omega) only [go_sem, Nat.reduceAdd, Nat.reduceSub, Nat.reduceLeDiff, Nat.reduceMul, reduceIte, reduceCtorEq, Int.reduceNeg, Int.reduceToNat, Nat.reduceLT, Int.reduceLE, Int.reduceLT, Int.reduceAdd, Int.reduceSub, Int.reduceMul, maxLenI, wrap64, read1N, over1N, flat0N, shl1N, shl1M, List.length_set, List.length_replicate, Int.toNat_natCast_add_one, eq_self, and_self, decide_true, beq_self_eq_true, orN]; rfl) ?_
      refine OpsA.split 81 rfl (fun e3 => ?_) (fun e3 => ?_)
      · try simp only [e3]
        have qe3 := e3; try simp only [decide_eq_true_eq, decide_eq_false_iff_not, Bool.not_eq_true', Bool.not_eq_false', Bool.not_eq_eq_eq_not, Bool.not_true, Bool.not_false, Int.not_le, Int.not_lt, beq_iff_eq, bne_iff_ne, ge_iff_le, gt_iff_lt, beq_eq_false_iff_ne, ne_eq, bne_eq_false_iff_eq] at qe3
        refine OpsA.pre 2 (by simp (maxSteps := 2000000) (disch := omega) only [go_sem, Nat.reduceAdd, Nat.reduceSub, Nat.reduceLeDiff, Nat.reduceMul, reduceIte, reduceCtorEq, Int.reduceNeg, Int.reduceToNat, Nat.reduceLT, Int.reduceLE, Int.reduceLT, Int.reduceAdd, Int.reduceSub, Int.reduceMul, maxLenI, wrap64, read1N, over1N, flat0N, shl1N, shl1M, List.length_set, List.length_replicate, Int.toNat_natCast_add_one, eq_self, and_self, decide_true, beq_self_eq_true, orN]; rfl) ?_
        refine OpsA.callQ rfl rfl rfl hb48 (c48 _ _ (by first | exact rel_lt _ hk8 | exact sh_lt hk8 | exact compose_lt (rel_lt _ hk8) | exact compose_lt (sh_lt hk8) | exact union_lt (rel_lt _ hk8) (rel_lt _ hk8) | exact compose_lt (union_lt (rel_lt _ hk8) (rel_lt _ hk8)) | exact union_lt (compose_lt (rel_lt _ hk8)) (compose_lt (rel_lt _ hk8)) | exact compose_lt (compose_lt (rel_lt _ hk8))) (by first | exact rel_lt _ hk8 | exact sh_lt hk8 | exact compose_lt (rel_lt _ hk8) | exact compose_lt (sh_lt hk8) | exact union_lt (rel_lt _ hk8) (rel_lt _ hk8) | exact compose_lt (union_lt (rel_lt _ hk8) (rel_lt _ hk8)) | exact union_lt (compose_lt (rel_lt _ hk8)) (compose_lt (rel_lt _ hk8)) | exact compose_lt (compose_lt (rel_lt _ hk8))) (by simp only [compose_len, union_len, rel_len, sh_len] <;> omega) (by simp only [compose_len, union_len, rel_len, sh_len] <;> omega)) ?_
        refine OpsA.pre 1 (by simp (maxSteps := 2000000) (disch := omega) only [go_sem, Nat.reduceAdd, Nat.reduceSub, Nat.reduceLeDiff, Nat.reduceMul, reduceIte, reduceCtorEq, Int.reduceNeg, Int.reduceToNat, Nat.reduceLT, Int.reduceLE, Int.reduceLT, Int.reduceAdd, Int.reduceSub, Int.reduceMul, maxLenI, wrap64, read1N, over1N, flat0N, shl1N, shl1M, List.length_set, List.length_replicate, Int.toNat_natCast_add_one, eq_self, and_self, decide_true, beq_self_eq_true, orN]; rfl) ?_
        refine OpsA.callQ rfl rfl rfl hb41 (c41 _ _ (by first | exact rel_lt _ hk8 | exact sh_lt hk8 | exact compose_lt (rel_lt _ hk8) | exact compose_lt (sh_lt hk8) | exact union_lt (rel_lt _ hk8) (rel_lt _ hk8) | exact compose_lt (union_lt (rel_lt _ hk8) (rel_lt _ hk8)) | exact union_lt (compose_lt (rel_lt _ hk8)) (compose_lt (rel_lt _ hk8)) | exact compose_lt (compose_lt (rel_lt _ hk8))) (by first | exact set_lt _ hk8 | exact applyTo_lt (rel_lt _ hk8) _ _ | exact or_lt (set_lt _ hk8) (set_lt _ hk8)) (by simp only [compose_len, union_len, rel_len, sh_len] <;> omega)) ?_
        refine OpsA.pre 2 (by simp (maxSteps := 2000000) (disch := omega) only [go_sem, Nat.reduceAdd, Nat.reduceSub, Nat.reduceLeDiff, Nat.reduceMul, reduceIte, reduceCtorEq, Int.reduceNeg, Int.reduceToNat, Nat.reduceLT, Int.reduceLE, Int.reduceLT, Int.reduceAdd, Int.reduceSub, Int.reduceMul, maxLenI, wrap64, read1N, over1N, flat0N, shl1N, shl1M, List.length_set, List.length_replicate, Int.toNat_natCast_add_one, eq_self, and_self, decide_true, beq_self_eq_true, orN]; rfl) ?_
        refine OpsA.callQ rfl rfl rfl hb41 (c41 _ _ (by first | exact rel_lt _ hk8 | exact sh_lt hk8 | exact compose_lt (rel_lt _ hk8) | exact compose_lt (sh_lt hk8) | exact union_lt (rel_lt _ hk8) (rel_lt _ hk8) | exact compose_lt (union_lt (rel_lt _ hk8) (rel_lt _ hk8)) | exact union_lt (compose_lt (rel_lt _ hk8)) (compose_lt (rel_lt _ hk8)) | exact compose_lt (compose_lt (rel_lt _ hk8))) (by first | exact set_lt _ hk8 | exact applyTo_lt (rel_lt _ hk8) _ _ | exact or_lt (set_lt _ hk8) (set_lt _ hk8)) (by simp only [compose_len, union_len, rel_len, sh_len] <;> omega)) ?_
        refine OpsA.pre 2 (by simp (maxSteps := 2000000) (disch := omega) only [go_sem, Nat.reduceAdd, Nat.reduceSub, Nat.reduceLeDiff, Nat.reduceMul, reduceIte, reduceCtorEq, Int.reduceNeg, Int.reduceToNat, Nat.reduceLT, Int.reduceLE, Int.reduceLT, Int.reduceAdd, Int.reduceSub, Int.reduceMul, maxLenI, wrap64, read1N, over1N, flat0N, shl1N, shl1M, List.length_set, List.length_replicate, Int.toNat_natCast_add_one, eq_self, and_self, decide_true, beq_self_eq_true, orN]; rfl) ?_
        refine OpsA.callQ rfl rfl rfl hb41 (c41 _ _ (by first | exact rel_lt _ hk8 | exact sh_lt hk8 | exact compose_lt (rel_lt _ hk8) | exact compose_lt (sh_lt hk8) | exact union_lt (rel_lt _ hk8) (rel_lt _ hk8) | exact compose_lt (union_lt (rel_lt _ hk8) (rel_lt _ hk8)) | exact union_lt (compose_lt (rel_lt _ hk8)) (compose_lt (rel_lt _ hk8)) | exact compose_lt (compose_lt (rel_lt _ hk8))) (by first | exact set_lt _ hk8 | exact applyTo_lt (rel_lt _ hk8) _ _ | exact or_lt (set_lt _ hk8) (set_lt _ hk8)) (by simp only [compose_len, union_len, rel_len, sh_len] <;> omega)) ?_
        refine OpsA.pre 4 (by simp (maxSteps := 2000000) (disch := omega) only [go_sem, Nat.reduceAdd, Nat.reduceSub, Nat.reduceLeDiff, Nat.reduceMul, reduceIte, reduceCtorEq, Int.reduceNeg, Int.reduceToNat, Nat.reduceLT, Int.reduceLE, Int.reduceLT, Int.reduceAdd, Int.reduceSub, Int.reduceMul, maxLenI, wrap64, read1N, over1N, flat0N, shl1N, shl1M, List.length_set, List.length_replicate, Int.toNat_natCast_add_one, eq_self, and_self, decide_true, beq_self_eq_true, orN]; rfl) ?_
        refine OpsA.split 96 rfl (fun e4 => ?_) (fun e4 => ?_)
        · try simp only [e4]
          have qe4 := e4; try simp only [decide_eq_true_eq, decide_eq_false_iff_not, Bool.not_eq_true', Bool.not_eq_false', Bool.not_eq_eq_eq_not, Bool.not_true, Bool.not_false, Int.not_le, Int.not_lt, beq_iff_eq, bne_iff_ne, ge_iff_le, gt_iff_lt, beq_eq_false_iff_ne, ne_eq, bne_eq_false_iff_eq] at qe4
          refine OpsA.callQ rfl rfl rfl hb38 (c38) ?_
          refine OpsA.pre 2 (by simp (maxSteps := 2000000) (disch := omega) only [go_sem, Nat.reduceAdd, Nat.reduceSub, Nat.reduceLeDiff, Nat.reduceMul, reduceIte, reduceCtorEq, Int.reduceNeg, Int.reduceToNat, Nat.reduceLT, Int.reduceLE, Int.reduceLT, Int.reduceAdd, Int.reduceSub, Int.reduceMul, maxLenI, wrap64, read1N, over1N, flat0N, shl1N, shl1M, List.length_set, List.length_replicate, Int.toNat_natCast_add_one, eq_self, and_self, decide_true, beq_self_eq_true, orN]; rfl) ?_
          refine OpsA.nil ?_
          change RunA _ _ _ _ _
          refine RunA.ret ?_
          refine Ends.mk (by simp only [res12, resA, resAs, resA1]; first | rfl | (simp (maxSteps := 2000000) (disch := omega) only [go_sem, Nat.reduceAdd, Nat.reduceSub, Nat.reduceLeDiff, Nat.reduceMul, reduceIte, reduceCtorEq, Int.reduceNeg, Int.reduceToNat, Nat.reduceLT, Int.reduceLE, Int.reduceLT, Int.reduceAdd, Int.reduceSub, Int.reduceMul, maxLenI, wrap64, read1N, over1N, flat0N, shl1N, shl1M, List.length_set, List.length_replicate, Int.toNat_natCast_add_one, eq_self, and_self, decide_true, beq_self_eq_true, orN]; rfl)) ?_
          exact ⟨[], _, (List.append_nil _).symm, by first | rfl | rfl, by rfl⟩
        · exfalso; first | (simp [apply_or, apply_union, compose_union_l, compose_union_r, rel_len] at e4; done) | cases e4
      · exfalso; first | (simp [apply_or, apply_union, compose_union_l, compose_union_r, rel_len] at e3; done) | cases e3
    · exfalso; first | (simp [apply_or, apply_union, compose_union_l, compose_union_r, rel_len] at e2; done) | cases e2
  · exfalso; first | (simp [apply_or, apply_union, compose_union_l, compose_union_r, rel_len] at e1; done) | cases e1

theorem c14 {h : Heap} (a b c : List Int) (n : Int) (ha : a.length < 9223372036854775808) (hb : b.length < 9223372036854775808) (hc : c.length < 9223372036854775808) : CallA Try.prog cfg 14 [vecI a, vecI b, vecI c, .int .i64 n] h (fun y' h' => y' = .bool true ∧ h' = h) := by
  obtain ⟨k, hk⟩ := Int.eq_ofNat_of_zero_le (@within_lo n 9 (by omega))
  have hk8 : k ≤ 8 := by have := @within_hi n 9 (by omega); omega
  refine CallA.body (Q := fun y' => y' = .bool true) good fn14 rfl ?_
  simp only [ntm14, List.length_cons, List.length_nil, Nat.reduceAdd, Nat.reduceSub, List.replicate, List.cons_append, List.nil_append]
  refine RunA.seq ?_
  refine RunA.region good ?_
  refine OpsA.pre 1 (by simp (maxSteps := 2000000) (disch := omega) only [go_sem, Nat.reduceAdd, Nat.reduceSub, Nat.reduceLeDiff, Nat.reduceMul, reduceIte, reduceCtorEq, Int.reduceNeg, Int.reduceToNat, Nat.reduceLT, Int.reduceLE, Int.reduceLT, Int.reduceAdd, Int.reduceSub, Int.reduceMul, maxLenI, wrap64, read1N, over1N, flat0N, shl1N, shl1M, List.length_set, List.length_replicate, Int.toNat_natCast_add_one, eq_self, and_self, decide_true, beq_self_eq_true]; rfl) ?_
  refine OpsA.nil ?_
  change RunA _ _ _ _ _
  refine RunA.seq ?_
  refine RunA.region good ?_
  refine OpsA.pre 1 (by simp (maxSteps := 2000000) (disch := omega) only [go_sem, Nat.reduceAdd, Nat.reduceSub, Nat.reduceLeDiff, Nat.reduceMul, reduceIte, reduceCtorEq, Int.reduceNeg, Int.reduceToNat, Nat.reduceLT, Int.reduceLE, Int.reduceLT, Int.reduceAdd, Int.reduceSub, Int.reduceMul, maxLenI, wrap64, read1N, over1N, flat0N, shl1N, shl1M, List.length_set, List.length_replicate, Int.toNat_natCast_add_one, eq_self, and_self, decide_true, beq_self_eq_true]; rfl) ?_
  refine OpsA.callQ rfl rfl rfl hb31 (c31 n k hk) ?_
  refine OpsA.pre 1 (by simp (maxSteps := 2000000) (disch := omega) only [go_sem, Nat.reduceAdd, Nat.reduceSub, Nat.reduceLeDiff, Nat.reduceMul, reduceIte, reduceCtorEq, Int.reduceNeg, Int.reduceToNat, Nat.reduceLT, Int.reduceLE, Int.reduceLT, Int.reduceAdd, Int.reduceSub, Int.reduceMul, maxLenI, wrap64, read1N, over1N, flat0N, shl1N, shl1M, List.length_set, List.length_replicate, Int.toNat_natCast_add_one, eq_self, and_self, decide_true, beq_self_eq_true]; rfl) ?_
  refine OpsA.nil ?_
  change RunA _ _ _ _ _
  refine RunA.seq ?_
  refine RunA.region good ?_
  refine OpsA.pre 2 (by simp (maxSteps := 2000000) (disch := omega) only [go_sem, Nat.reduceAdd, Nat.reduceSub, Nat.reduceLeDiff, Nat.reduceMul, reduceIte, reduceCtorEq, Int.reduceNeg, Int.reduceToNat, Nat.reduceLT, Int.reduceLE, Int.reduceLT, Int.reduceAdd, Int.reduceSub, Int.reduceMul, maxLenI, wrap64, read1N, over1N, flat0N, shl1N, shl1M, List.length_set, List.length_replicate, Int.toNat_natCast_add_one, eq_self, and_self, decide_true, beq_self_eq_true]; rfl) ?_
  refine OpsA.callQ rfl rfl rfl hb39 (c39 _ _ hk8 (by assumption)) ?_
  refine OpsA.pre 2 (by simp (maxSteps := 2000000) (disch := omega) only [go_sem, Nat.reduceAdd, Nat.reduceSub, Nat.reduceLeDiff, Nat.reduceMul, reduceIte, reduceCtorEq, Int.reduceNeg, Int.reduceToNat, Nat.reduceLT, Int.reduceLE, Int.reduceLT, Int.reduceAdd, Int.reduceSub, Int.reduceMul, maxLenI, wrap64, read1N, over1N, flat0N, shl1N, shl1M, List.length_set, List.length_replicate, Int.toNat_natCast_add_one, eq_self, and_self, decide_true, beq_self_eq_true]; rfl) ?_
  refine OpsA.callQ rfl rfl rfl hb39 (c39 _ _ hk8 (by assumption)) ?_
  refine OpsA.pre 2 (by simp (maxSteps := 2000000) (disch := omega) only [go_sem, Nat.reduceAdd, Nat.reduceSub, Nat.reduceLeDiff, Nat.reduceMul, reduceIte, reduceCtorEq, Int.reduceNeg, Int.reduceToNat, Nat.reduceLT, Int.reduceLE, Int.reduceLT, Int.reduceAdd, Int.reduceSub, Int.reduceMul, maxLenI, wrap64, read1N, over1N, flat0N, shl1N, shl1M, List.length_set, List.length_replicate, Int.toNat_natCast_add_one, eq_self, and_self, decide_true, beq_self_eq_true]; rfl) ?_
  refine OpsA.nil ?_
  change RunA _ _ _ _ _
  refine RunA.seq ?_
  refine RunA.region good ?_
  refine OpsA.pre 3 (by simp (maxSteps := 2000000) (disch := omega) only [go_sem, Nat.reduceAdd, Nat.reduceSub, Nat.reduceLeDiff, Nat.reduceMul, reduceIte, reduceCtorEq, Int.reduceNeg, Int.reduceToNat, Nat.reduceLT, Int.reduceLE, Int.reduceLT, Int.reduceAdd, Int.reduceSub, Int.reduceMul, maxLenI, wrap64, read1N, over1N, flat0N, shl1N, shl1M, List.length_set, List.length_replicate, Int.toNat_natCast_add_one, eq_self, and_self, decide_true, beq_self_eq_true]; rfl) ?_
  refine OpsA.callQ rfl rfl rfl hb39 (c39 _ _ hk8 (by assumption)) ?_
  refine OpsA.callQ rfl rfl rfl hb48 (c48 _ _ (by first | exact rel_lt _ hk8 | exact sh_lt hk8 | exact compose_lt (rel_lt _ hk8) | exact compose_lt (sh_lt hk8) | exact union_lt (rel_lt _ hk8) (rel_lt _ hk8) | exact compose_lt (union_lt (rel_lt _ hk8) (rel_lt _ hk8)) | exact union_lt (compose_lt (rel_lt _ hk8)) (compose_lt (rel_lt _ hk8)) | exact compose_lt (compose_lt (rel_lt _ hk8))) (by first | exact rel_lt _ hk8 | exact sh_lt hk8 | exact compose_lt (rel_lt _ hk8) | exact compose_lt (sh_lt hk8) | exact union_lt (rel_lt _ hk8) (rel_lt _ hk8) | exact compose_lt (union_lt (rel_lt _ hk8) (rel_lt _ hk8)) | exact union_lt (compose_lt (rel_lt _ hk8)) (compose_lt (rel_lt _ hk8)) | exact compose_lt (compose_lt (rel_lt _ hk8))) (by simp only [compose_len, union_len, rel_len, sh_len] <;> omega) (by simp only [compose_len, union_len, rel_len, sh_len] <;> omega)) ?_
  refine OpsA.pre 1 (by simp (maxSteps := 2000000) (disch := omega) only [go_sem, Nat.reduceAdd, Nat.reduceSub, Nat.reduceLeDiff, Nat.reduceMul, reduceIte, reduceCtorEq, Int.reduceNeg, Int.reduceToNat, Nat.reduceLT, Int.reduceLE, Int.reduceLT, Int.reduceAdd, Int.reduceSub, Int.reduceMul, maxLenI, wrap64, read1N, over1N, flat0N, shl1N, shl1M, List.length_set, List.length_replicate, Int.toNat_natCast_add_one, eq_self, and_self, decide_true, beq_self_eq_true]; rfl) ?_
  refine OpsA.nil ?_
  change RunA _ _ _ _ _
  refine RunA.seq ?_
  refine RunA.seq ?_
  refine RunA.region good ?_
  refine OpsA.pre 2 (by simp (maxSteps := 2000000) (disch := omega) only [go_sem, Nat.reduceAdd, Nat.reduceSub, Nat.reduceLeDiff, Nat.reduceMul, reduceIte, reduceCtorEq, Int.reduceNeg, Int.reduceToNat, Nat.reduceLT, Int.reduceLE, Int.reduceLT, Int.reduceAdd, Int.reduceSub, Int.reduceMul, maxLenI, wrap64, read1N, over1N, flat0N, shl1N, shl1M, List.length_set, List.length_replicate, Int.toNat_natCast_add_one, eq_self, and_self, decide_true, beq_self_eq_true]; rfl) ?_
  refine OpsA.callQ rfl rfl rfl hb52 (c52 _ _ (by simp only [compose_len, union_len, rel_len, sh_len] <;> omega) (by simp only [compose_len, union_len, rel_len, sh_len] <;> omega)) ?_
  refine OpsA.pre 2 (by simp (maxSteps := 2000000) (disch := omega) only [go_sem, Nat.reduceAdd, Nat.reduceSub, Nat.reduceLeDiff, Nat.reduceMul, reduceIte, reduceCtorEq, Int.reduceNeg, Int.reduceToNat, Nat.reduceLT, Int.reduceLE, Int.reduceLT, Int.reduceAdd, Int.reduceSub, Int.reduceMul, maxLenI, wrap64, read1N, over1N, flat0N, shl1N, shl1M, List.length_set, List.length_replicate, Int.toNat_natCast_add_one, eq_self, and_self, decide_true, beq_self_eq_true]; rfl) ?_
  refine OpsA.split 31 rfl (fun e1 => ?_) (fun e1 => ?_)
  · exfalso; have t := within_union (rel_lt a hk8) (rel_lt b hk8); simp [t] at e1
  · try simp only [e1]
    have qe1 := e1; try simp only [decide_eq_true_eq, decide_eq_false_iff_not, Bool.not_eq_true', Bool.not_eq_false', Bool.not_eq_eq_eq_not, Bool.not_true, Bool.not_false, Int.not_le, Int.not_lt, beq_iff_eq, bne_iff_ne, ge_iff_le, gt_iff_lt, beq_eq_false_iff_ne, ne_eq, bne_eq_false_iff_eq] at qe1
    refine OpsA.pre 2 (by simp (maxSteps := 2000000) (disch := omega) only [go_sem, Nat.reduceAdd, Nat.reduceSub, Nat.reduceLeDiff, Nat.reduceMul, reduceIte, reduceCtorEq, Int.reduceNeg, Int.reduceToNat, Nat.reduceLT, Int.reduceLE, Int.reduceLT, Int.reduceAdd, Int.reduceSub, Int.reduceMul, maxLenI, wrap64, read1N, over1N, flat0N, shl1N, shl1M, List.length_set, List.length_replicate, Int.toNat_natCast_add_one, eq_self, and_self, decide_true, beq_self_eq_true]; rfl) ?_
    refine OpsA.callQ rfl rfl rfl hb32 (c32 _ _ (by first | exact rel_lt _ hk8 | exact sh_lt hk8 | exact compose_lt (rel_lt _ hk8) | exact compose_lt (sh_lt hk8) | exact union_lt (rel_lt _ hk8) (rel_lt _ hk8) | exact compose_lt (union_lt (rel_lt _ hk8) (rel_lt _ hk8)) | exact union_lt (compose_lt (rel_lt _ hk8)) (compose_lt (rel_lt _ hk8)) | exact compose_lt (compose_lt (rel_lt _ hk8))) (by simp only [compose_len, union_len, rel_len, sh_len] <;> omega) (by first | exact rel_lt _ hk8 | exact sh_lt hk8 | exact compose_lt (rel_lt _ hk8) | exact compose_lt (sh_lt hk8) | exact union_lt (rel_lt _ hk8) (rel_lt _ hk8) | exact compose_lt (union_lt (rel_lt _ hk8) (rel_lt _ hk8)) | exact union_lt (compose_lt (rel_lt _ hk8)) (compose_lt (rel_lt _ hk8)) | exact compose_lt (compose_lt (rel_lt _ hk8))) (by simp only [compose_len, union_len, rel_len, sh_len] <;> omega)) ?_
    refine OpsA.pre 2 (by simp (maxSteps := 2000000) (disch := omega) only [go_sem, Nat.reduceAdd, Nat.reduceSub, Nat.reduceLeDiff, Nat.reduceMul, reduceIte, reduceCtorEq, Int.reduceNeg, Int.reduceToNat, Nat.reduceLT, Int.reduceLE, Int.reduceLT, Int.reduceAdd, Int.reduceSub, Int.reduceMul, maxLenI, wrap64, read1N, over1N, flat0N, shl1N, shl1M, List.length_set, List.length_replicate, Int.toNat_natCast_add_one, eq_self, and_self, decide_true, beq_self_eq_true]; rfl) ?_
    refine OpsA.callQ rfl rfl rfl hb32 (c32 _ _ (by first | exact rel_lt _ hk8 | exact sh_lt hk8 | exact compose_lt (rel_lt _ hk8) | exact compose_lt (sh_lt hk8) | exact union_lt (rel_lt _ hk8) (rel_lt _ hk8) | exact compose_lt (union_lt (rel_lt _ hk8) (rel_lt _ hk8)) | exact union_lt (compose_lt (rel_lt _ hk8)) (compose_lt (rel_lt _ hk8)) | exact compose_lt (compose_lt (rel_lt _ hk8))) (by simp only [compose_len, union_len, rel_len, sh_len] <;> omega) (by first | exact rel_lt _ hk8 | exact sh_lt hk8 | exact compose_lt (rel_lt _ hk8) | exact compose_lt (sh_lt hk8) | exact union_lt (rel_lt _ hk8) (rel_lt _ hk8) | exact compose_lt (union_lt (rel_lt _ hk8) (rel_lt _ hk8)) | exact union_lt (compose_lt (rel_lt _ hk8)) (compose_lt (rel_lt _ hk8)) | exact compose_lt (compose_lt (rel_lt _ hk8))) (by simp only [compose_len, union_len, rel_len, sh_len] <;> omega)) ?_
    refine OpsA.callQ rfl rfl rfl hb52 (c52 _ _ (by simp only [compose_len, union_len, rel_len, sh_len] <;> omega) (by simp only [compose_len, union_len, rel_len, sh_len] <;> omega)) ?_
    refine OpsA.pre 3 (by simp (maxSteps := 2000000) (disch := omega) only [go_sem, Nat.reduceAdd, Nat.reduceSub, Nat.reduceLeDiff, Nat.reduceMul, reduceIte, reduceCtorEq, Int.reduceNeg, Int.reduceToNat, Nat.reduceLT, Int.reduceLE, Int.reduceLT, Int.reduceAdd, Int.reduceSub, Int.reduceMul, maxLenI, wrap64, read1N, over1N, flat0N, shl1N, shl1M, List.length_set, List.length_replicate, Int.toNat_natCast_add_one, eq_self, and_self, decide_true, beq_self_eq_true]; rfl) ?_
    refine OpsA.split 41 rfl (fun e2 => ?_) (fun e2 => ?_)
    · exfalso; have t := within_compose_l (z := relN c k) (by simp [union_len, rel_len]) (rel_lt a hk8) (union_lt (rel_lt a hk8) (rel_lt b hk8)) (rel_lt c hk8) (within_union (rel_lt a hk8) (rel_lt b hk8)); simp [t] at e2
    · try simp only [e2]
      have qe2 := e2; try simp only [decide_eq_true_eq, decide_eq_false_iff_not, Bool.not_eq_true', Bool.not_eq_false', Bool.not_eq_eq_eq_not, Bool.not_true, Bool.not_false, Int.not_le, Int.not_lt, beq_iff_eq, bne_iff_ne, ge_iff_le, gt_iff_lt, beq_eq_false_iff_ne, ne_eq, bne_eq_false_iff_eq] at qe2
      refine OpsA.pre 2 (by simp (maxSteps := 2000000) (disch := omega) only [go_sem, Nat.reduceAdd, Nat.reduceSub, Nat.reduceLeDiff, Nat.reduceMul, reduceIte, reduceCtorEq, Int.reduceNeg, Int.reduceToNat, Nat.reduceLT, Int.reduceLE, Int.reduceLT, Int.reduceAdd, Int.reduceSub, Int.reduceMul, maxLenI, wrap64, read1N, over1N, flat0N, shl1N, shl1M, List.length_set, List.length_replicate, Int.toNat_natCast_add_one, eq_self, and_self, decide_true, beq_self_eq_true]; rfl) ?_
      refine OpsA.callQ rfl rfl rfl hb32 (c32 _ _ (by first | exact rel_lt _ hk8 | exact sh_lt hk8 | exact compose_lt (rel_lt _ hk8) | exact compose_lt (sh_lt hk8) | exact union_lt (rel_lt _ hk8) (rel_lt _ hk8) | exact compose_lt (union_lt (rel_lt _ hk8) (rel_lt _ hk8)) | exact union_lt (compose_lt (rel_lt _ hk8)) (compose_lt (rel_lt _ hk8)) | exact compose_lt (compose_lt (rel_lt _ hk8))) (by simp only [compose_len, union_len, rel_len, sh_len] <;> omega) (by first | exact rel_lt _ hk8 | exact sh_lt hk8 | exact compose_lt (rel_lt _ hk8) | exact compose_lt (sh_lt hk8) | exact union_lt (rel_lt _ hk8) (rel_lt _ hk8) | exact compose_lt (union_lt (rel_lt _ hk8) (rel_lt _ hk8)) | exact union_lt (compose_lt (rel_lt _ hk8)) (compose_lt (rel_lt _ hk8)) | exact compose_lt (compose_lt (rel_lt _ hk8))) (by simp only [compose_len, union_len, rel_len, sh_len] <;> omega)) ?_
      refine OpsA.pre 2 (by simp (maxSteps := 2000000) (disch := omega) only [go_sem, Nat.reduceAdd, Nat.reduceSub, Nat.reduceLeDiff, Nat.reduceMul, reduceIte, reduceCtorEq, Int.reduceNeg, Int.reduceToNat, Nat.reduceLT, Int.reduceLE, Int.reduceLT, Int.reduceAdd, Int.reduceSub, Int.reduceMul, maxLenI, wrap64, read1N, over1N, flat0N, shl1N, shl1M, List.length_set, List.length_replicate, Int.toNat_natCast_add_one, eq_self, and_self, decide_true, beq_self_eq_true]; rfl) ?_
      refine OpsA.callQ rfl rfl rfl hb32 (c32 _ _ (by first | exact rel_lt _ hk8 | exact sh_lt hk8 | exact compose_lt (rel_lt _ hk8) | exact compose_lt (sh_lt hk8) | exact union_lt (rel_lt _ hk8) (rel_lt _ hk8) | exact compose_lt (union_lt (rel_lt _ hk8) (rel_lt _ hk8)) | exact union_lt (compose_lt (rel_lt _ hk8)) (compose_lt (rel_lt _ hk8)) | exact compose_lt (compose_lt (rel_lt _ hk8))) (by simp only [compose_len, union_len, rel_len, sh_len] <;> omega) (by first | exact rel_lt _ hk8 | exact sh_lt hk8 | exact compose_lt (rel_lt _ hk8) | exact compose_lt (sh_lt hk8) | exact union_lt (rel_lt _ hk8) (rel_lt _ hk8) | exact compose_lt (union_lt (rel_lt _ hk8) (rel_lt _ hk8)) | exact union_lt (compose_lt (rel_lt _ hk8)) (compose_lt (rel_lt _ hk8)) | exact compose_lt (compose_lt (rel_lt _ hk8))) (by simp only [compose_len, union_len, rel_len, sh_len] <;> omega)) ?_
      refine OpsA.callQ rfl rfl rfl hb52 (c52 _ _ (by simp only [compose_len, union_len, rel_len, sh_len] <;> omega) (by simp only [compose_len, union_len, rel_len, sh_len] <;> omega)) ?_
      refine OpsA.pre 2 (by simp (maxSteps := 2000000) (disch := omega) only [go_sem, Nat.reduceAdd, Nat.reduceSub, Nat.reduceLeDiff, Nat.reduceMul, reduceIte, reduceCtorEq, Int.reduceNeg, Int.reduceToNat, Nat.reduceLT, Int.reduceLE, Int.reduceLT, Int.reduceAdd, Int.reduceSub, Int.reduceMul, maxLenI, wrap64, read1N, over1N, flat0N, shl1N, shl1M, List.length_set, List.length_replicate, Int.toNat_natCast_add_one, eq_self, and_self, decide_true, beq_self_eq_true]; rfl) ?_
      refine OpsA.nil ?_
      change RunA _ _ _ _ _
      refine RunA.split 50 rfl (fun e3 => ?_) (fun e3 => ?_)
      · exfalso; have t := within_compose_r (z := relN c k) (by simp [union_len, rel_len]) (rel_lt a hk8) (union_lt (rel_lt a hk8) (rel_lt b hk8)) (within_union (rel_lt a hk8) (rel_lt b hk8)); simp [t] at e3
      · try simp only [e3]
        have qe3 := e3; try simp only [decide_eq_true_eq, decide_eq_false_iff_not, Bool.not_eq_true', Bool.not_eq_false', Bool.not_eq_eq_eq_not, Bool.not_true, Bool.not_false, Int.not_le, Int.not_lt, beq_iff_eq, bne_iff_ne, ge_iff_le, gt_iff_lt, beq_eq_false_iff_ne, ne_eq, bne_eq_false_iff_eq] at qe3
        refine RunA.condF rfl ?_
        refine RunA.skip ?_
        change RunA _ _ _ _ _
        refine RunA.seq ?_
        refine RunA.region good ?_
        refine OpsA.pre 2 (by simp (maxSteps := 2000000) (disch := omega) only [go_sem, Nat.reduceAdd, Nat.reduceSub, Nat.reduceLeDiff, Nat.reduceMul, reduceIte, reduceCtorEq, Int.reduceNeg, Int.reduceToNat, Nat.reduceLT, Int.reduceLE, Int.reduceLT, Int.reduceAdd, Int.reduceSub, Int.reduceMul, maxLenI, wrap64, read1N, over1N, flat0N, shl1N, shl1M, List.length_set, List.length_replicate, Int.toNat_natCast_add_one, eq_self, and_self, decide_true, beq_self_eq_true]; rfl) ?_
        refine OpsA.callQ rfl rfl rfl hb52 (c52 _ _ (by simp only [compose_len, union_len, rel_len, sh_len] <;> omega) (by simp only [compose_len, union_len, rel_len, sh_len] <;> omega)) ?_
        refine OpsA.pre 1 (by simp (maxSteps := 2000000) (disch := omega) only [go_sem, Nat.reduceAdd, Nat.reduceSub, Nat.reduceLeDiff, Nat.reduceMul, reduceIte, reduceCtorEq, Int.reduceNeg, Int.reduceToNat, Nat.reduceLT, Int.reduceLE, Int.reduceLT, Int.reduceAdd, Int.reduceSub, Int.reduceMul, maxLenI, wrap64, read1N, over1N, flat0N, shl1N, shl1M, List.length_set, List.length_replicate, Int.toNat_natCast_add_one, eq_self, and_self, decide_true, beq_self_eq_true]; rfl) ?_
        refine OpsA.split 54 rfl (fun e4 => ?_) (fun e4 => ?_)
        · try simp only [e4]
          have qe4 := e4; try simp only [decide_eq_true_eq, decide_eq_false_iff_not, Bool.not_eq_true', Bool.not_eq_false', Bool.not_eq_eq_eq_not, Bool.not_true, Bool.not_false, Int.not_le, Int.not_lt, beq_iff_eq, bne_iff_ne, ge_iff_le, gt_iff_lt, beq_eq_false_iff_ne, ne_eq, bne_eq_false_iff_eq] at qe4
          refine OpsA.pre 2 (by simp (maxSteps := 2000000) (disch := omega) only [go_sem, Nat.reduceAdd, Nat.reduceSub, Nat.reduceLeDiff, Nat.reduceMul, reduceIte, reduceCtorEq, Int.reduceNeg, Int.reduceToNat, Nat.reduceLT, Int.reduceLE, Int.reduceLT, Int.reduceAdd, Int.reduceSub, Int.reduceMul, maxLenI, wrap64, read1N, over1N, flat0N, shl1N, shl1M, List.length_set, List.length_replicate, Int.toNat_natCast_add_one, eq_self, and_self, decide_true, beq_self_eq_true]; rfl) ?_
          refine OpsA.callQ rfl rfl rfl hb52 (c52 _ _ (by simp only [compose_len, union_len, rel_len, sh_len] <;> omega) (by simp only [compose_len, union_len, rel_len, sh_len] <;> omega)) ?_
          refine OpsA.pre 2 (by simp (maxSteps := 2000000) (disch := omega) only [go_sem, Nat.reduceAdd, Nat.reduceSub, Nat.reduceLeDiff, Nat.reduceMul, reduceIte, reduceCtorEq, Int.reduceNeg, Int.reduceToNat, Nat.reduceLT, Int.reduceLE, Int.reduceLT, Int.reduceAdd, Int.reduceSub, Int.reduceMul, maxLenI, wrap64, read1N, over1N, flat0N, shl1N, shl1M, List.length_set, List.length_replicate, Int.toNat_natCast_add_one, eq_self, and_self, decide_true, beq_self_eq_true]; rfl) ?_
          refine OpsA.nil ?_
          change RunA _ _ _ _ _
          refine RunA.seq ?_
          refine RunA.region good ?_
          refine OpsA.pre 3 (by simp (maxSteps := 2000000) (disch := omega) only [go_sem, Nat.reduceAdd, Nat.reduceSub, Nat.reduceLeDiff, Nat.reduceMul, reduceIte, reduceCtorEq, Int.reduceNeg, Int.reduceToNat, Nat.reduceLT, Int.reduceLE, Int.reduceLT, Int.reduceAdd, Int.reduceSub, Int.reduceMul, maxLenI, wrap64, read1N, over1N, flat0N, shl1N, shl1M, List.length_set, List.length_replicate, Int.toNat_natCast_add_one, eq_self, and_self, decide_true, beq_self_eq_true]; rfl) ?_
          refine OpsA.callQ rfl rfl rfl hb48 (c48 _ _ (by first | exact rel_lt _ hk8 | exact sh_lt hk8 | exact compose_lt (rel_lt _ hk8) | exact compose_lt (sh_lt hk8) | exact union_lt (rel_lt _ hk8) (rel_lt _ hk8) | exact compose_lt (union_lt (rel_lt _ hk8) (rel_lt _ hk8)) | exact union_lt (compose_lt (rel_lt _ hk8)) (compose_lt (rel_lt _ hk8)) | exact compose_lt (compose_lt (rel_lt _ hk8))) (by first | exact rel_lt _ hk8 | exact sh_lt hk8 | exact compose_lt (rel_lt _ hk8) | exact compose_lt (sh_lt hk8) | exact union_lt (rel_lt _ hk8) (rel_lt _ hk8) | exact compose_lt (union_lt (rel_lt _ hk8) (rel_lt _ hk8)) | exact union_lt (compose_lt (rel_lt _ hk8)) (compose_lt (rel_lt _ hk8)) | exact compose_lt (compose_lt (rel_lt _ hk8))) (by simp only [compose_len, union_len, rel_len, sh_len] <;> omega) (by simp only [compose_len, union_len, rel_len, sh_len] <;> omega)) ?_
          refine OpsA.pre 1 (by simp (maxSteps := 2000000) (disch := omega) only [go_sem, Nat.reduceAdd, Nat.reduceSub, Nat.reduceLeDiff, Nat.reduceMul, reduceIte, reduceCtorEq, Int.reduceNeg, Int.reduceToNat, Nat.reduceLT, Int.reduceLE, Int.reduceLT, Int.reduceAdd, Int.reduceSub, Int.reduceMul, maxLenI, wrap64, read1N, over1N, flat0N, shl1N, shl1M, List.length_set, List.length_replicate, Int.toNat_natCast_add_one, eq_self, and_self, decide_true, beq_self_eq_true]; rfl) ?_
          refine OpsA.callQ rfl rfl rfl hb52 (c52 _ _ (by simp only [compose_len, union_len, rel_len, sh_len] <;> omega) (by simp only [compose_len, union_len, rel_len, sh_len] <;> omega)) ?_
          refine OpsA.pre 2 (by simp (maxSteps := 2000000) (disch := omega) only [go_sem, Nat.reduceAdd, Nat.reduceSub, Nat.reduceLeDiff, Nat.reduceMul, reduceIte, reduceCtorEq, Int.reduceNeg, Int.reduceToNat, Nat.reduceLT, Int.reduceLE, Int.reduceLT, Int.reduceAdd, Int.reduceSub, Int.reduceMul, maxLenI, wrap64, read1N, over1N, flat0N, shl1N, shl1M, List.length_set, List.length_replicate, Int.toNat_natCast_add_one, eq_self, and_self, decide_true, beq_self_eq_true]; rfl) ?_
          refine OpsA.split 66 rfl (fun e5 => ?_) (fun e5 => ?_)
          · try simp only [e5]
            have qe5 := e5; try simp only [decide_eq_true_eq, decide_eq_false_iff_not, Bool.not_eq_true', Bool.not_eq_false', Bool.not_eq_eq_eq_not, Bool.not_true, Bool.not_false, Int.not_le, Int.not_lt, beq_iff_eq, bne_iff_ne, ge_iff_le, gt_iff_lt, beq_eq_false_iff_ne, ne_eq, bne_eq_false_iff_eq] at qe5
            refine OpsA.pre 2 (by simp (maxSteps := 2000000) (disch := omega) only [go_sem, Nat.reduceAdd, Nat.reduceSub, Nat.reduceLeDiff, Nat.reduceMul, reduceIte, reduceCtorEq, Int.reduceNeg, Int.reduceToNat, Nat.reduceLT, Int.reduceLE, Int.reduceLT, Int.reduceAdd, Int.reduceSub, Int.reduceMul, maxLenI, wrap64, read1N, over1N, flat0N, shl1N, shl1M, List.length_set, List.length_replicate, Int.toNat_natCast_add_one, eq_self, and_self, decide_true, beq_self_eq_true]; rfl) ?_
            refine OpsA.callQ rfl rfl rfl hb52 (c52 _ _ (by simp only [compose_len, union_len, rel_len, sh_len] <;> omega) (by simp only [compose_len, union_len, rel_len, sh_len] <;> omega)) ?_
            refine OpsA.pre 2 (by simp (maxSteps := 2000000) (disch := omega) only [go_sem, Nat.reduceAdd, Nat.reduceSub, Nat.reduceLeDiff, Nat.reduceMul, reduceIte, reduceCtorEq, Int.reduceNeg, Int.reduceToNat, Nat.reduceLT, Int.reduceLE, Int.reduceLT, Int.reduceAdd, Int.reduceSub, Int.reduceMul, maxLenI, wrap64, read1N, over1N, flat0N, shl1N, shl1M, List.length_set, List.length_replicate, Int.toNat_natCast_add_one, eq_self, and_self, decide_true, beq_self_eq_true]; rfl) ?_
            refine OpsA.split 71 rfl (fun e6 => ?_) (fun e6 => ?_)
            · try simp only [e6]
              have qe6 := e6; try simp only [decide_eq_true_eq, decide_eq_false_iff_not, Bool.not_eq_true', Bool.not_eq_false', Bool.not_eq_eq_eq_not, Bool.not_true, Bool.not_false, Int.not_le, Int.not_lt, beq_iff_eq, bne_iff_ne, ge_iff_le, gt_iff_lt, beq_eq_false_iff_ne, ne_eq, bne_eq_false_iff_eq] at qe6
              refine OpsA.pre 6 (by simp (maxSteps := 2000000) (disch := omega) only [go_sem, Nat.reduceAdd, Nat.reduceSub, Nat.reduceLeDiff, Nat.reduceMul, reduceIte, reduceCtorEq, Int.reduceNeg, Int.reduceToNat, Nat.reduceLT, Int.reduceLE, Int.reduceLT, Int.reduceAdd, Int.reduceSub, Int.reduceMul, maxLenI, wrap64, read1N, over1N, flat0N, shl1N, shl1M, List.length_set, List.length_replicate, Int.toNat_natCast_add_one, eq_self, and_self, decide_true, beq_self_eq_true]; rfl) ?_
              refine OpsA.callQ rfl rfl rfl hb38 (c38) ?_
              refine OpsA.pre 2 (by simp (maxSteps := 2000000) (disch := omega) only [go_sem, Nat.reduceAdd, Nat.reduceSub, Nat.reduceLeDiff, Nat.reduceMul, reduceIte, reduceCtorEq, Int.reduceNeg, Int.reduceToNat, Nat.reduceLT, Int.reduceLE, Int.reduceLT, Int.reduceAdd, Int.reduceSub, Int.reduceMul, maxLenI, wrap64, read1N, over1N, flat0N, shl1N, shl1M, List.length_set, List.length_replicate, Int.toNat_natCast_add_one, eq_self, and_self, decide_true, beq_self_eq_true]; rfl) ?_
              refine OpsA.nil ?_
              change RunA _ _ _ _ _
              refine RunA.ret ?_
              refine Ends.mk (by simp only [res14, resA, resAs, resA1]; first | rfl | (simp (maxSteps := 2000000) (disch := omega) only [go_sem, Nat.reduceAdd, Nat.reduceSub, Nat.reduceLeDiff, Nat.reduceMul, reduceIte, reduceCtorEq, Int.reduceNeg, Int.reduceToNat, Nat.reduceLT, Int.reduceLE, Int.reduceLT, Int.reduceAdd, Int.reduceSub, Int.reduceMul, maxLenI, wrap64, read1N, over1N, flat0N, shl1N, shl1M, List.length_set, List.length_replicate, Int.toNat_natCast_add_one, eq_self, and_self, decide_true, beq_self_eq_true]; rfl)) ?_
              exact ⟨[], _, (List.append_nil _).symm, by first | rfl | rfl, by rfl⟩
            · try simp only [e6]
              have qe6 := e6; try simp only [decide_eq_true_eq, decide_eq_false_iff_not, Bool.not_eq_true', Bool.not_eq_false', Bool.not_eq_eq_eq_not, Bool.not_true, Bool.not_false, Int.not_le, Int.not_lt, beq_iff_eq, bne_iff_ne, ge_iff_le, gt_iff_lt, beq_eq_false_iff_ne, ne_eq, bne_eq_false_iff_eq] at qe6
              refine OpsA.pre 2 (by simp (maxSteps := 2000000) (disch := omega) only [go_sem, Nat.reduceAdd, Nat.reduceSub, Nat.reduceLeDiff, Nat.reduceMul, reduceIte, reduceCtorEq, Int.reduceNeg, Int.reduceToNat, Nat.reduceLT, Int.reduceLE, Int.reduceLT, Int.reduceAdd, Int.reduceSub, Int.reduceMul, maxLenI, wrap64, read1N, over1N, flat0N, shl1N, shl1M, List.length_set, List.length_replicate, Int.toNat_natCast_add_one, eq_self, and_self, decide_true, beq_self_eq_true]; rfl) ?_
              refine OpsA.callQ rfl rfl rfl hb36 (c36N _ _ (by simp only [compose_len, union_len, rel_len, sh_len] <;> omega)) ?_
              refine OpsA.pre 3 (by simp (maxSteps := 2000000) (disch := omega) only [go_sem, Nat.reduceAdd, Nat.reduceSub, Nat.reduceLeDiff, Nat.reduceMul, reduceIte, reduceCtorEq, Int.reduceNeg, Int.reduceToNat, Nat.reduceLT, Int.reduceLE, Int.reduceLT, Int.reduceAdd, Int.reduceSub, Int.reduceMul, maxLenI, wrap64, read1N, over1N, flat0N, shl1N, shl1M, List.length_set, List.length_replicate, Int.toNat_natCast_add_one, eq_self, and_self, decide_true, beq_self_eq_true]; rfl) ?_
              refine OpsA.split 77 rfl (fun e7 => ?_) (fun e7 => ?_)
              · try simp only [e7]
                have qe7 := e7; try simp only [decide_eq_true_eq, decide_eq_false_iff_not, Bool.not_eq_true', Bool.not_eq_false', Bool.not_eq_eq_eq_not, Bool.not_true, Bool.not_false, Int.not_le, Int.not_lt, beq_iff_eq, bne_iff_ne, ge_iff_le, gt_iff_lt, beq_eq_false_iff_ne, ne_eq, bne_eq_false_iff_eq] at qe7
                refine OpsA.callQ rfl rfl rfl hb38 (c38) ?_
                refine OpsA.pre 2 (by simp (maxSteps := 2000000) (disch := omega) only [go_sem, Nat.reduceAdd, Nat.reduceSub, Nat.reduceLeDiff, Nat.reduceMul, reduceIte, reduceCtorEq, Int.reduceNeg, Int.reduceToNat, Nat.reduceLT, Int.reduceLE, Int.reduceLT, Int.reduceAdd, Int.reduceSub, Int.reduceMul, maxLenI, wrap64, read1N, over1N, flat0N, shl1N, shl1M, List.length_set, List.length_replicate, Int.toNat_natCast_add_one, eq_self, and_self, decide_true, beq_self_eq_true]; rfl) ?_
                refine OpsA.nil ?_
                change RunA _ _ _ _ _
                refine RunA.ret ?_
                refine Ends.mk (by simp only [res14, resA, resAs, resA1]; first | rfl | (simp (maxSteps := 2000000) (disch := omega) only [go_sem, Nat.reduceAdd, Nat.reduceSub, Nat.reduceLeDiff, Nat.reduceMul, reduceIte, reduceCtorEq, Int.reduceNeg, Int.reduceToNat, Nat.reduceLT, Int.reduceLE, Int.reduceLT, Int.reduceAdd, Int.reduceSub, Int.reduceMul, maxLenI, wrap64, read1N, over1N, flat0N, shl1N, shl1M, List.length_set, List.length_replicate, Int.toNat_natCast_add_one, eq_self, and_self, decide_true, beq_self_eq_true]; rfl)) ?_
                exact ⟨[], _, (List.append_nil _).symm, by first | rfl | rfl, by rfl⟩
              · exfalso; have t := within_anti (by simp [union_len, rel_len]) (rel_lt a hk8) (union_lt (rel_lt a hk8) (rel_lt b hk8)) (within_union (rel_lt a hk8) (rel_lt b hk8)) (by assumption); simp [← t] at e7
          · exfalso; have t := within_lub (x := relN a k) (y := unionN (relN a k) (relN b k)) (z := relN c k) (by simp [union_len, rel_len]) (rel_lt a hk8) (union_lt (rel_lt a hk8) (rel_lt b hk8)) (rel_lt c hk8); simp_all
        · try simp only [e4]
          have qe4 := e4; try simp only [decide_eq_true_eq, decide_eq_false_iff_not, Bool.not_eq_true', Bool.not_eq_false', Bool.not_eq_eq_eq_not, Bool.not_true, Bool.not_false, Int.not_le, Int.not_lt, beq_iff_eq, bne_iff_ne, ge_iff_le, gt_iff_lt, beq_eq_false_iff_ne, ne_eq, bne_eq_false_iff_eq] at qe4
          refine OpsA.pre 5 (by simp (maxSteps := 2000000) (disch := omega) only [go_sem, Nat.reduceAdd, Nat.reduceSub, Nat.reduceLeDiff, Nat.reduceMul, reduceIte, reduceCtorEq, Int.reduceNeg, Int.reduceToNat, Nat.reduceLT, Int.reduceLE, Int.reduceLT, Int.reduceAdd, Int.reduceSub, Int.reduceMul, maxLenI, wrap64, read1N, over1N, flat0N, shl1N, shl1M, List.length_set, List.length_replicate, Int.toNat_natCast_add_one, eq_self, and_self, decide_true, beq_self_eq_true]; rfl) ?_
          refine OpsA.nil ?_
          change RunA _ _ _ _ _
          refine RunA.seq ?_
          refine RunA.region good ?_
          refine OpsA.pre 3 (by simp (maxSteps := 2000000) (disch := omega) only [go_sem, Nat.reduceAdd, Nat.reduceSub, Nat.reduceLeDiff, Nat.reduceMul, reduceIte, reduceCtorEq, Int.reduceNeg, Int.reduceToNat, Nat.reduceLT, Int.reduceLE, Int.reduceLT, Int.reduceAdd, Int.reduceSub, Int.reduceMul, maxLenI, wrap64, read1N, over1N, flat0N, shl1N, shl1M, List.length_set, List.length_replicate, Int.toNat_natCast_add_one, eq_self, and_self, decide_true, beq_self_eq_true]; rfl) ?_
          refine OpsA.callQ rfl rfl rfl hb48 (c48 _ _ (by first | exact rel_lt _ hk8 | exact sh_lt hk8 | exact compose_lt (rel_lt _ hk8) | exact compose_lt (sh_lt hk8) | exact union_lt (rel_lt _ hk8) (rel_lt _ hk8) | exact compose_lt (union_lt (rel_lt _ hk8) (rel_lt _ hk8)) | exact union_lt (compose_lt (rel_lt _ hk8)) (compose_lt (rel_lt _ hk8)) | exact compose_lt (compose_lt (rel_lt _ hk8))) (by first | exact rel_lt _ hk8 | exact sh_lt hk8 | exact compose_lt (rel_lt _ hk8) | exact compose_lt (sh_lt hk8) | exact union_lt (rel_lt _ hk8) (rel_lt _ hk8) | exact compose_lt (union_lt (rel_lt _ hk8) (rel_lt _ hk8)) | exact union_lt (compose_lt (rel_lt _ hk8)) (compose_lt (rel_lt _ hk8)) | exact compose_lt (compose_lt (rel_lt _ hk8))) (by simp only [compose_len, union_len, rel_len, sh_len] <;> omega) (by simp only [compose_len, union_len, rel_len, sh_len] <;> omega)) ?_
          refine OpsA.pre 1 (by simp (maxSteps := 2000000) (disch := omega) only [go_sem, Nat.reduceAdd, Nat.reduceSub, Nat.reduceLeDiff, Nat.reduceMul, reduceIte, reduceCtorEq, Int.reduceNeg, Int.reduceToNat, Nat.reduceLT, Int.reduceLE, Int.reduceLT, Int.reduceAdd, Int.reduceSub, Int.reduceMul, maxLenI, wrap64, read1N, over1N, flat0N, shl1N, shl1M, List.length_set, List.length_replicate, Int.toNat_natCast_add_one, eq_self, and_self, decide_true, beq_self_eq_true]; rfl) ?_
          refine OpsA.callQ rfl rfl rfl hb52 (c52 _ _ (by simp only [compose_len, union_len, rel_len, sh_len] <;> omega) (by simp only [compose_len, union_len, rel_len, sh_len] <;> omega)) ?_
          refine OpsA.pre 2 (by simp (maxSteps := 2000000) (disch := omega) only [go_sem, Nat.reduceAdd, Nat.reduceSub, Nat.reduceLeDiff, Nat.reduceMul, reduceIte, reduceCtorEq, Int.reduceNeg, Int.reduceToNat, Nat.reduceLT, Int.reduceLE, Int.reduceLT, Int.reduceAdd, Int.reduceSub, Int.reduceMul, maxLenI, wrap64, read1N, over1N, flat0N, shl1N, shl1M, List.length_set, List.length_replicate, Int.toNat_natCast_add_one, eq_self, and_self, decide_true, beq_self_eq_true]; rfl) ?_
          refine OpsA.split 66 rfl (fun e8 => ?_) (fun e8 => ?_)
          · try simp only [e8]
            have qe8 := e8; try simp only [decide_eq_true_eq, decide_eq_false_iff_not, Bool.not_eq_true', Bool.not_eq_false', Bool.not_eq_eq_eq_not, Bool.not_true, Bool.not_false, Int.not_le, Int.not_lt, beq_iff_eq, bne_iff_ne, ge_iff_le, gt_iff_lt, beq_eq_false_iff_ne, ne_eq, bne_eq_false_iff_eq] at qe8
            refine OpsA.pre 2 (by simp (maxSteps := 2000000) (disch := omega) only [go_sem, Nat.reduceAdd, Nat.reduceSub, Nat.reduceLeDiff, Nat.reduceMul, reduceIte, reduceCtorEq, Int.reduceNeg, Int.reduceToNat, Nat.reduceLT, Int.reduceLE, Int.reduceLT, Int.reduceAdd, Int.reduceSub, Int.reduceMul, maxLenI, wrap64, read1N, over1N, flat0N, shl1N, shl1M, List.length_set, List.length_replicate, Int.toNat_natCast_add_one, eq_self, and_self, decide_true, beq_self_eq_true]; rfl) ?_
            refine OpsA.callQ rfl rfl rfl hb52 (c52 _ _ (by simp only [compose_len, union_len, rel_len, sh_len] <;> omega) (by simp only [compose_len, union_len, rel_len, sh_len] <;> omega)) ?_
            refine OpsA.pre 2 (by simp (maxSteps := 2000000) (disch := omega) only [go_sem, Nat.reduceAdd, Nat.reduceSub, Nat.reduceLeDiff, Nat.reduceMul, reduceIte, reduceCtorEq, Int.reduceNeg, Int.reduceToNat, Nat.reduceLT, Int.reduceLE, Int.reduceLT, Int.reduceAdd, Int.reduceSub, Int.reduceMul, maxLenI, wrap64, read1N, over1N, flat0N, shl1N, shl1M, List.length_set, List.length_replicate, Int.toNat_natCast_add_one, eq_self, and_self, decide_true, beq_self_eq_true]; rfl) ?_
            refine OpsA.split 71 rfl (fun e9 => ?_) (fun e9 => ?_)
            · try simp only [e9]
              have qe9 := e9; try simp only [decide_eq_true_eq, decide_eq_false_iff_not, Bool.not_eq_true', Bool.not_eq_false', Bool.not_eq_eq_eq_not, Bool.not_true, Bool.not_false, Int.not_le, Int.not_lt, beq_iff_eq, bne_iff_ne, ge_iff_le, gt_iff_lt, beq_eq_false_iff_ne, ne_eq, bne_eq_false_iff_eq] at qe9
              refine OpsA.pre 6 (by simp (maxSteps := 2000000) (disch := omega) only [go_sem, Nat.reduceAdd, Nat.reduceSub, Nat.reduceLeDiff, Nat.reduceMul, reduceIte, reduceCtorEq, Int.reduceNeg, Int.reduceToNat, Nat.reduceLT, Int.reduceLE, Int.reduceLT, Int.reduceAdd, Int.reduceSub, Int.reduceMul, maxLenI, wrap64, read1N, over1N, flat0N, shl1N, shl1M, List.length_set, List.length_replicate, Int.toNat_natCast_add_one, eq_self, and_self, decide_true, beq_self_eq_true]; rfl) ?_
              refine OpsA.callQ rfl rfl rfl hb38 (c38) ?_
              refine OpsA.pre 2 (by simp (maxSteps := 2000000) (disch := omega) only [go_sem, Nat.reduceAdd, Nat.reduceSub, Nat.reduceLeDiff, Nat.reduceMul, reduceIte, reduceCtorEq, Int.reduceNeg, Int.reduceToNat, Nat.reduceLT, Int.reduceLE, Int.reduceLT, Int.reduceAdd, Int.reduceSub, Int.reduceMul, maxLenI, wrap64, read1N, over1N, flat0N, shl1N, shl1M, List.length_set, List.length_replicate, Int.toNat_natCast_add_one, eq_self, and_self, decide_true, beq_self_eq_true]; rfl) ?_
              refine OpsA.nil ?_
              change RunA _ _ _ _ _
              refine RunA.ret ?_
              refine Ends.mk (by simp only [res14, resA, resAs, resA1]; first | rfl | (simp (maxSteps := 2000000) (disch := omega) only [go_sem, Nat.reduceAdd, Nat.reduceSub, Nat.reduceLeDiff, Nat.reduceMul, reduceIte, reduceCtorEq, Int.reduceNeg, Int.reduceToNat, Nat.reduceLT, Int.reduceLE, Int.reduceLT, Int.reduceAdd, Int.reduceSub, Int.reduceMul, maxLenI, wrap64, read1N, over1N, flat0N, shl1N, shl1M, List.length_set, List.length_replicate, Int.toNat_natCast_add_one, eq_self, and_self, decide_true, beq_self_eq_true]; rfl)) ?_
              exact ⟨[], _, (List.append_nil _).symm, by first | rfl | rfl, by rfl⟩
            · try simp only [e9]
              have qe9 := e9; try simp only [decide_eq_true_eq, decide_eq_false_iff_not, Bool.not_eq_true', Bool.not_eq_false', Bool.not_eq_eq_eq_not, Bool.not_true, Bool.not_false, Int.not_le, Int.not_lt, beq_iff_eq, bne_iff_ne, ge_iff_le, gt_iff_lt, beq_eq_false_iff_ne, ne_eq, bne_eq_false_iff_eq] at qe9
              refine OpsA.pre 2 (by simp (maxSteps := 2000000) (disch := omega) only [go_sem, Nat.reduceAdd, Nat.reduceSub, Nat.reduceLeDiff, Nat.reduceMul, reduceIte, reduceCtorEq, Int.reduceNeg, Int.reduceToNat, Nat.reduceLT, Int.reduceLE, Int.reduceLT, Int.reduceAdd, Int.reduceSub, Int.reduceMul, maxLenI, wrap64, read1N, over1N, flat0N, shl1N, shl1M, List.length_set, List.length_replicate, Int.toNat_natCast_add_one, eq_self, and_self, decide_true, beq_self_eq_true]; rfl) ?_
              refine OpsA.callQ rfl rfl rfl hb36 (c36N _ _ (by simp only [compose_len, union_len, rel_len, sh_len] <;> omega)) ?_
              refine OpsA.pre 3 (by simp (maxSteps := 2000000) (disch := omega) only [go_sem, Nat.reduceAdd, Nat.reduceSub, Nat.reduceLeDiff, Nat.reduceMul, reduceIte, reduceCtorEq, Int.reduceNeg, Int.reduceToNat, Nat.reduceLT, Int.reduceLE, Int.reduceLT, Int.reduceAdd, Int.reduceSub, Int.reduceMul, maxLenI, wrap64, read1N, over1N, flat0N, shl1N, shl1M, List.length_set, List.length_replicate, Int.toNat_natCast_add_one, eq_self, and_self, decide_true, beq_self_eq_true]; rfl) ?_
              refine OpsA.split 77 rfl (fun e10 => ?_) (fun e10 => ?_)
              · try simp only [e10]
                have qe10 := e10; try simp only [decide_eq_true_eq, decide_eq_false_iff_not, Bool.not_eq_true', Bool.not_eq_false', Bool.not_eq_eq_eq_not, Bool.not_true, Bool.not_false, Int.not_le, Int.not_lt, beq_iff_eq, bne_iff_ne, ge_iff_le, gt_iff_lt, beq_eq_false_iff_ne, ne_eq, bne_eq_false_iff_eq] at qe10
                refine OpsA.callQ rfl rfl rfl hb38 (c38) ?_
                refine OpsA.pre 2 (by simp (maxSteps := 2000000) (disch := omega) only [go_sem, Nat.reduceAdd, Nat.reduceSub, Nat.reduceLeDiff, Nat.reduceMul, reduceIte, reduceCtorEq, Int.reduceNeg, Int.reduceToNat, Nat.reduceLT, Int.reduceLE, Int.reduceLT, Int.reduceAdd, Int.reduceSub, Int.reduceMul, maxLenI, wrap64, read1N, over1N, flat0N, shl1N, shl1M, List.length_set, List.length_replicate, Int.toNat_natCast_add_one, eq_self, and_self, decide_true, beq_self_eq_true]; rfl) ?_
                refine OpsA.nil ?_
                change RunA _ _ _ _ _
                refine RunA.ret ?_
                refine Ends.mk (by simp only [res14, resA, resAs, resA1]; first | rfl | (simp (maxSteps := 2000000) (disch := omega) only [go_sem, Nat.reduceAdd, Nat.reduceSub, Nat.reduceLeDiff, Nat.reduceMul, reduceIte, reduceCtorEq, Int.reduceNeg, Int.reduceToNat, Nat.reduceLT, Int.reduceLE, Int.reduceLT, Int.reduceAdd, Int.reduceSub, Int.reduceMul, maxLenI, wrap64, read1N, over1N, flat0N, shl1N, shl1M, List.length_set, List.length_replicate, Int.toNat_natCast_add_one, eq_self, and_self, decide_true, beq_self_eq_true]; rfl)) ?_
                exact ⟨[], _, (List.append_nil _).symm, by first | rfl | rfl, by rfl⟩
              · exfalso; have t := within_anti (by simp [union_len, rel_len]) (rel_lt a hk8) (union_lt (rel_lt a hk8) (rel_lt b hk8)) (within_union (rel_lt a hk8) (rel_lt b hk8)) (by assumption); simp [← t] at e10
          · exfalso; have t := within_lub (x := relN a k) (y := unionN (relN a k) (relN b k)) (z := relN c k) (by simp [union_len, rel_len]) (rel_lt a hk8) (union_lt (rel_lt a hk8) (rel_lt b hk8)) (rel_lt c hk8); simp_all

end Go.Proofs.Ytlmclkamedhmhaa
