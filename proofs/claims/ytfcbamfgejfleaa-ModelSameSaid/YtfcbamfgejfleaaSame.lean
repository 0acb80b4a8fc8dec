/-
  THE LAW ModelSame: what its functions compute. Written in part by a program of mine (gen18.py, walk.py). Conditions: none.
-/
import Derived.Test.YtfcbamfgejfleaaPlans
import Derived.Test.YtfcbamfgejfleaaAbsFreeze
import Derived.Test.YtfcbamfgejfleaaAbsView
import Derived.Test.YtfcbamfgejfleaaAbsOpsG
namespace Go.Proofs.Ytfcbamfgejfleaa
open Go.Ab
set_option linter.unusedSimpArgs false
set_option linter.unusedVariables false
set_option maxRecDepth 100000
set_option maxHeartbeats 4000000
/-- The points of a stack. -/
def ptA (l : List (Int × Int)) : List AV := l.flatMap fun p => [.int .i64 p.1, .int .i64 p.2]
def vecP (l : List (Int × Int)) : AV := .vec l.length (ptA l)
theorem ptA_len (l : List (Int × Int)) : (ptA l).length = 2 * l.length := by
  induction l with
  | nil => rfl
  | cons p l ih => simp only [ptA, List.flatMap_cons, List.length_append, List.length_cons, List.length_nil] at *; omega
theorem ptA_cons (p : Int × Int) (l : List (Int × Int)) : ptA (p :: l) = .int .i64 p.1 :: .int .i64 p.2 :: ptA l := rfl
theorem read2 : ∀ {l : List (Int × Int)} {i : Nat}, i < l.length → List.take 2 (List.drop (i * 2) (ptA l)) = [AV.int .i64 (l.getD i (0, 0)).1, AV.int .i64 (l.getD i (0, 0)).2]
  | p :: l, 0, _ => rfl
  | p :: l, i + 1, h => by
    rw [ptA_cons, show (i + 1) * 2 = i * 2 + 1 + 1 from by omega, List.drop_succ_cons, List.drop_succ_cons, read2 (by simpa using h)]
    rfl
theorem read2b : ∀ {l : List (Int × Int)} {i : Nat}, i < l.length → List.take 1 (List.drop (i * 2 + 1) (ptA l)) = [AV.int .i64 (l.getD i (0, 0)).2]
  | p :: l, 0, _ => rfl
  | p :: l, i + 1, h => by
    rw [ptA_cons, show (i + 1) * 2 + 1 = (i * 2 + 1) + 1 + 1 from by omega, List.drop_succ_cons, List.drop_succ_cons, read2b (by simpa using h)]
    rfl
theorem over2b : ∀ {l : List (Int × Int)} {i : Nat} {v : Int}, i < l.length → List.take (i * 2 + 1) (ptA l) ++ AV.int .i64 v :: List.drop (i * 2 + 1 + 1) (ptA l) = ptA (l.set i ((l.getD i (0, 0)).1, v))
  | p :: l, 0, v, _ => rfl
  | p :: l, i + 1, v, h => by
    rw [ptA_cons, show (i + 1) * 2 + 1 + 1 = (i * 2 + 1 + 1) + 1 + 1 from by omega, show (i + 1) * 2 + 1 = (i * 2 + 1) + 1 + 1 from by omega]
    simp only [List.drop_succ_cons, List.take_succ_cons, List.cons_append, List.set_cons_succ, ptA_cons]
    rw [over2b (by simpa using h)]
    rfl
theorem pt_snoc (l : List (Int × Int)) : ptA l ++ [.int .i64 0, .int .i64 0] = ptA (l ++ [(0, 0)]) := by
  simp [ptA]
theorem eq67 {a b x y : Int} : eqA cfg 4 67 (.agg [.int .i64 a, .int .i64 b]) (.agg [.int .i64 x, .int .i64 y]) = some (decide (a = x ∧ b = y)) := by
  have e : eqA cfg 4 67 (.agg [.int .i64 a, .int .i64 b]) (.agg [.int .i64 x, .int .i64 y]) = (match some (a == x) with
    | some true => (match some (b == y) with
      | some true => some true
      | some false => some false
      | none => none)
    | some false => some false
    | none => none) := rfl
  rw [e]
  rcases Bool.eq_false_or_eq_true (a == x) with h1 | h1 <;> rcases Bool.eq_false_or_eq_true (b == y) with h2 | h2 <;> simp only [h1, h2] <;> simp_all
def gP (l : List (Int × Int)) (g : Nat) : Nat := if l = [] then g else g + 1
theorem app_0 {H : Heap} {β g : Nat} {l : List (Int × Int)} (hb : H[β]? = some ⟨g, false, 67, 2, [], 0⟩) (hl : l.length * 16 ≤ 140737488351232) :
    appendA cfg 67 H (.own β g 0 0) (.vec l.length (ptA l)) = some (.own β (gP l g) 0 l.length, H.set β ⟨gP l g, false, 67, 2, ptA l, 0⟩) := by
  have e1 : cfg.sz 67 = 2 := rfl
  have e2 : (cfg.ti 67).bytes = 16 := rfl
  have hm : l.length ≤ maxLen := by simp only [maxLen]; omega
  cases l with
  | nil =>
    have hs : H.set β ⟨g, false, 67, 2, [], 0⟩ = H := by
      refine List.ext_getElem? fun j => ?_
      rw [List.getElem?_set]
      split
      · rename_i h; subst h; rw [hb]; split <;> simp_all
      · rfl
    simp [appendA, rd, lenOf, e1, e2, hb, gP, ptA, hs]
  | cons p l =>
    have h16 : (l.length + 1) * 16 ≤ 140737488355328 := by simp at hl; omega
    have hm' : l.length + 1 ≤ maxLen := hm
    simp [appendA, rd, lenOf, e1, e2, hb, gP, ptA_len, h16, hm', Nat.mul_comm]
theorem app_1 {H : Heap} {β γ g g' : Nat} {l : List (Int × Int)} (hb : H[β]? = some ⟨g, false, 67, 2, ptA l, 0⟩) (hc : H[γ]? = some ⟨g', false, 67, 2, [.int .i64 0, .int .i64 0], 0⟩) (hl : l.length * 16 ≤ 140737488351232) :
    appendA cfg 67 H (.own β g 0 l.length) (.own γ g' 0 1) = some (.own β (g + 1) 0 (l.length + 1), H.set β ⟨g + 1, false, 67, 2, ptA (l ++ [(0, 0)]), 0⟩) := by
  have e1 : cfg.sz 67 = 2 := rfl
  have e2 : (cfg.ti 67).bytes = 16 := rfl
  have hm : l.length + 1 ≤ maxLen := by simp only [maxLen]; omega
  have h16 : (l.length + 1) * 16 ≤ 140737488355328 := by omega
  have ht : List.take (l.length * 2) (ptA l) = ptA l := List.take_of_length_le (by rw [ptA_len]; omega)
  have hn : ¬ (l.length + 1) * 2 ≤ 2 * l.length := by omega
  have hn2 : l.length * 2 ≤ 2 * l.length := by omega
  simp [appendA, rd, lenOf, e1, e2, hb, hc, ptA_len, h16, hm, hn, hn2, ht, pt_snoc]
theorem opt_pt {f : AV → Option AV} (hf : ∀ k i, f (.int k i) = some (.int k i)) : ∀ l, optMap f (ptA l) = some (ptA l)
  | [] => rfl
  | p :: l => by simp only [ptA_cons, optMap, hf, opt_pt hf l]
theorem frz_pt {h : Heap} {β g : Nat} {l : List (Int × Int)} {n : Nat} (hb : h[β]? = some ⟨g, false, 67, 2, ptA l, 0⟩) (hn : n = l.length) : frzP 0 h 6 (.own β g 0 n) = some (vecP l) := by
  subst hn
  have e : List.take (l.length * 2) (ptA l) = ptA l := List.take_of_length_le (by rw [ptA_len]; omega)
  have h2 : l.length * 2 ≤ 2 * l.length := by omega
  rw [show frzP 0 h 6 (.own β g 0 l.length) = (match h[β]? with
      | some b => if b.gen = g ∧ 0 ≤ β then (if b.virt then (if l.length = 0 then some (.vec 0 []) else none)
        else if 0 + l.length * b.esz ≤ b.cells.length then (match optMap (frzP 0 h 5) ((b.cells.drop 0).take (l.length * b.esz)) with
          | some cs => some (.vec l.length cs)
          | none => none) else none) else none
      | none => none) from rfl, hb]
  simp only [Nat.zero_le, and_self, if_true, Bool.false_eq_true, if_false, Nat.zero_add, ptA_len, h2, List.drop_zero, e]
  rw [opt_pt (f := frzP 0 h 5) (fun k i => rfl)]
  rfl
def cfA (d : Int) (l : List (Int × Int)) : AV := .agg [.int .i64 d, vecP l]
theorem frz_cf {h : Heap} {β g : Nat} {l : List (Int × Int)} {d : Int} {n : Nat} (hb : h[β]? = some ⟨g, false, 67, 2, ptA l, 0⟩) (hn : n = l.length) : frzS 0 h (.agg [.int .i64 d, .own β g 0 n]) = some (cfA d l) := by
  simp only [frzS, optMap, frz_pt hb hn]
  rfl
theorem frz_cv {h : Heap} {l : List (Int × Int)} {d : Int} : frzS 0 h (.agg [.int .i64 d, .vec l.length (ptA l)]) = some (cfA d l) := rfl
theorem same_nextP {a b : List (Int × Int)} {i : Nat} (h : ∀ d, d < i → a.getD d (0, 0) = b.getD d (0, 0)) (e : (a.getD i (0, 0)).1 = (b.getD i (0, 0)).1 ∧ (a.getD i (0, 0)).2 = (b.getD i (0, 0)).2) : ∀ d, d < i + 1 → a.getD d (0, 0) = b.getD d (0, 0) := by
  intro d hd
  by_cases hdi : d = i
  · rw [hdi]; exact Prod.ext e.1 e.2
  · exact h d (by omega)
theorem same_endP {a b : List (Int × Int)} {i : Nat} (hl : a.length = b.length) (hi : a.length ≤ i) (h : ∀ d, d < i → a.getD d (0, 0) = b.getD d (0, 0)) : a = b := by
  refine List.ext_getElem hl fun d h1 h2 => ?_
  have := h d (by omega)
  simpa [List.getD, h1, h2] using this

attribute [local go_sem] opsE opsSE opsME List.contains_cons List.contains_nil Bool.or_true Bool.true_or Bool.or_false Bool.false_or stepS quietA wantA plainA pureA readA effA callPureA lenA minA maxA rho embT emb putA List.set List.getD_cons_zero List.getD_cons_succ List.getD_nil binA intBin isShift unA buildA fillA over partA loadA readAt writeAt newVarA virts addOff AV.cellsOf AV.storable AV.one UD.isAgg UD.known lenOf sliceA boundA virtNone get_app get_app0 set_app set_app0 Array.toList List.take_succ_cons List.take_zero List.drop_succ_cons List.drop_zero List.getElem?_cons_succ List.getElem?_cons_zero List.getElem?_toArray Option.bind_some Option.map_some Option.map_none List.map_cons List.map_nil List.length_cons List.length_nil List.length_append Nat.zero_add Nat.add_zero Nat.le_refl Nat.one_mul Nat.mul_one List.append_assoc List.cons_append List.nil_append List.append_nil and_self and_true true_and true_or or_true if_true if_false Bool.false_eq_true not_false_eq_true bTT bTF bFT bFF Bool.not_true Bool.not_false decide_true decide_false Int.toNat_zero Int.toNat_one Int.toNat_natCast List.size_toArray ut3 sz3 ti3 ut4 sz4 ti4 ut62 sz62 ti62 ut64 sz64 ti64 ut67 sz67 ti67 vecP ptA_len Int.natCast_nonneg Int.natCast_inj eq67

def within (x n : Int) : Int := (x.tmod n + n).tmod n

theorem within_lo {x n : Int} (hn : 0 < n) : 0 ≤ within x n := by
  have h1 := Int.lt_tmod_of_pos x hn
  exact Int.tmod_nonneg _ (by omega)
theorem within_hi {x n : Int} (hn : 0 < n) : within x n < n := Int.tmod_lt_of_pos _ hn
theorem within_wrap {x n : Int} (hn : 0 < n) (hm : n < 4611686018427387904) : -9223372036854775808 ≤ x.tmod n + n ∧ x.tmod n + n < 9223372036854775808 := by
  have h1 := Int.lt_tmod_of_pos x hn
  have h2 := Int.tmod_lt_of_pos x hn
  omega

theorem c11 {h : Heap} (x n : Int) (hn : 0 < n) (hm : n < 4611686018427387904) : CallA Try.prog cfg 11 [.int .i64 x, .int .i64 n] h (fun y' h' => y' = .int .i64 (within x n) ∧ h' = h) := by
  refine CallA.body (Q := fun y' => y' = .int .i64 (within x n)) good fn11 rfl ?_
  simp only [ntm11, List.length_cons, List.length_nil, Nat.reduceAdd, Nat.reduceSub, List.replicate, List.cons_append, List.nil_append]
  refine RunA.seq ?_
  refine RunA.region good ?_
  refine OpsA.pre 1 (by simp +decide (maxSteps := 2000000) (disch := omega) only [go_sem, Nat.reduceBEq, Nat.reduceAdd, Nat.reduceSub, Nat.reduceLeDiff, Nat.reduceMul, reduceIte, reduceCtorEq, Int.reduceNeg, Int.reduceToNat, Nat.reduceLT, Int.reduceLE, Int.reduceLT, Int.reduceAdd, Int.reduceSub, Int.reduceMul, wrap64 (within_wrap hn hm).1 (within_wrap hn hm).2, show n ≠ 0 from by omega, show (n = 0) = False from by simp; omega]; rfl) ?_
  refine OpsA.nil ?_
  change RunA _ _ _ _ _
  refine RunA.seq ?_
  refine RunA.region good ?_
  refine OpsA.pre 6 (by simp +decide (maxSteps := 2000000) (disch := omega) only [go_sem, Nat.reduceBEq, Nat.reduceAdd, Nat.reduceSub, Nat.reduceLeDiff, Nat.reduceMul, reduceIte, reduceCtorEq, Int.reduceNeg, Int.reduceToNat, Nat.reduceLT, Int.reduceLE, Int.reduceLT, Int.reduceAdd, Int.reduceSub, Int.reduceMul, wrap64 (within_wrap hn hm).1 (within_wrap hn hm).2, show n ≠ 0 from by omega, show (n = 0) = False from by simp; omega]; rfl) ?_
  refine OpsA.pre 2 (by simp +decide (maxSteps := 2000000) (disch := omega) only [go_sem, Nat.reduceBEq, Nat.reduceAdd, Nat.reduceSub, Nat.reduceLeDiff, Nat.reduceMul, reduceIte, reduceCtorEq, Int.reduceNeg, Int.reduceToNat, Nat.reduceLT, Int.reduceLE, Int.reduceLT, Int.reduceAdd, Int.reduceSub, Int.reduceMul, wrap64 (within_wrap hn hm).1 (within_wrap hn hm).2, show n ≠ 0 from by omega, show (n = 0) = False from by simp; omega]; rfl) ?_
  refine OpsA.nil ?_
  change RunA _ _ _ _ _
  refine RunA.ret ?_
  refine Ends.mk (by simp only [res11, resA, resAs, resA1]; first | rfl | (simp +decide (maxSteps := 2000000) (disch := omega) only [go_sem, Nat.reduceBEq, Nat.reduceAdd, Nat.reduceSub, Nat.reduceLeDiff, Nat.reduceMul, reduceIte, reduceCtorEq, Int.reduceNeg, Int.reduceToNat, Nat.reduceLT, Int.reduceLE, Int.reduceLT, Int.reduceAdd, Int.reduceSub, Int.reduceMul, wrap64 (within_wrap hn hm).1 (within_wrap hn hm).2, show n ≠ 0 from by omega, show (n = 0) = False from by simp; omega]; rfl)) ?_
  exact ⟨[], _, (List.append_nil _).symm, by first | rfl | rfl, by rfl⟩

def plan38_6 : Plan := ⟨[[], [], [0, 1], [0, 1, 2], [], [], [4, 5], [4, 5, 6], [0, 1, 2, 3, 4, 5, 6, 7]], [false, false, false, false, false, false, false, false, false]⟩
theorem plan38_6E (i : Nat) : plan38_6.isE i = [false, false, false, false, false, false, false, false, false].getD i false := rfl

theorem c38 {h : Heap} (a b : List (Int × Int)) (ha : a.length < 9223372036854775807) : CallA Try.prog cfg 38 [vecP a, vecP b] h (fun y' h' => y' = .bool (decide (a = b)) ∧ h' = h) := by
  refine CallA.body (Q := fun y' => y' = .bool (decide (a = b))) good fn38 rfl ?_
  simp only [ntm38, List.length_cons, List.length_nil, Nat.reduceAdd, Nat.reduceSub, List.replicate, List.cons_append, List.nil_append]
  refine RunA.seq ?_
  refine RunA.region good ?_
  refine OpsA.pre 1 (by simp (maxSteps := 2000000) (disch := omega) only [go_sem, Nat.reduceBEq, Nat.reduceAdd, Nat.reduceSub, Nat.reduceLeDiff, Nat.reduceMul, reduceIte, reduceCtorEq, Int.reduceNeg, Int.reduceToNat, Nat.reduceLT, Int.reduceLE, Int.reduceLT, Int.reduceAdd, Int.reduceSub, Int.reduceMul, wrap64, read2, if_pos, if_neg]; rfl) ?_
  refine OpsA.nil ?_
  change RunA _ _ _ _ _
  refine RunA.seq ?_
  refine RunA.seq ?_
  refine RunA.region good ?_
  refine OpsA.pre 5 (by simp (maxSteps := 2000000) (disch := omega) only [go_sem, Nat.reduceBEq, Nat.reduceAdd, Nat.reduceSub, Nat.reduceLeDiff, Nat.reduceMul, reduceIte, reduceCtorEq, Int.reduceNeg, Int.reduceToNat, Nat.reduceLT, Int.reduceLE, Int.reduceLT, Int.reduceAdd, Int.reduceSub, Int.reduceMul, wrap64, read2, if_pos, if_neg]; rfl) ?_
  refine OpsA.nil ?_
  change RunA _ _ _ _ _
  refine RunA.split 10 rfl (fun e1 => ?_) (fun e1 => ?_)
  · try simp only [e1]
    have qe1 := e1; try simp only [decide_eq_true_eq, decide_eq_false_iff_not, Bool.not_eq_true', Bool.not_eq_false', Bool.not_eq_eq_eq_not, Bool.not_true, Bool.not_false, Int.not_le, Int.not_lt, beq_iff_eq, bne_iff_ne, ge_iff_le, gt_iff_lt, beq_eq_false_iff_ne, ne_eq, bne_eq_false_iff_eq] at qe1
    refine RunA.condT rfl ?_
    refine RunA.seq ?_
    refine RunA.region good ?_
    refine OpsA.pre 1 (by simp (maxSteps := 2000000) (disch := omega) only [go_sem, Nat.reduceBEq, Nat.reduceAdd, Nat.reduceSub, Nat.reduceLeDiff, Nat.reduceMul, reduceIte, reduceCtorEq, Int.reduceNeg, Int.reduceToNat, Nat.reduceLT, Int.reduceLE, Int.reduceLT, Int.reduceAdd, Int.reduceSub, Int.reduceMul, wrap64, read2, if_pos, if_neg]; rfl) ?_
    refine OpsA.nil ?_
    change RunA _ _ _ _ _
    refine RunA.ret ?_
    refine Ends.mk (by simp only [res38, resA, resAs, resA1]; first | rfl | (simp (maxSteps := 2000000) (disch := omega) only [go_sem, Nat.reduceBEq, Nat.reduceAdd, Nat.reduceSub, Nat.reduceLeDiff, Nat.reduceMul, reduceIte, reduceCtorEq, Int.reduceNeg, Int.reduceToNat, Nat.reduceLT, Int.reduceLE, Int.reduceLT, Int.reduceAdd, Int.reduceSub, Int.reduceMul, wrap64, read2, if_pos, if_neg]; rfl)) ?_
    exact ⟨[], _, (List.append_nil _).symm, by first | rfl | rfl, by (first | exact congrArg AV.bool (decide_eq_true (same_endP hl (by omega) hI)).symm | exact congrArg AV.bool (decide_eq_false (fun e => by subst e; simp_all)).symm)⟩
  · try simp only [e1]
    have qe1 := e1; try simp only [decide_eq_true_eq, decide_eq_false_iff_not, Bool.not_eq_true', Bool.not_eq_false', Bool.not_eq_eq_eq_not, Bool.not_true, Bool.not_false, Int.not_le, Int.not_lt, beq_iff_eq, bne_iff_ne, ge_iff_le, gt_iff_lt, beq_eq_false_iff_ne, ne_eq, bne_eq_false_iff_eq] at qe1
    refine RunA.condF rfl ?_
    refine RunA.skip ?_
    change RunA _ _ _ _ _
    refine RunA.seq ?_
    refine RunA.seq ?_
    refine RunA.region good ?_
    refine OpsA.pre 3 (by simp (maxSteps := 2000000) (disch := omega) only [go_sem, Nat.reduceBEq, Nat.reduceAdd, Nat.reduceSub, Nat.reduceLeDiff, Nat.reduceMul, reduceIte, reduceCtorEq, Int.reduceNeg, Int.reduceToNat, Nat.reduceLT, Int.reduceLE, Int.reduceLT, Int.reduceAdd, Int.reduceSub, Int.reduceMul, wrap64, read2, if_pos, if_neg]; rfl) ?_
    refine OpsA.nil ?_
    change RunA _ _ _ _ _
    refine RunA.block ?_
    refine RunA.loopL (fun m st => ∃ (i : Nat), (m = a.length - i ∧ (∀ d, d < i → a.getD d (0, 0) = b.getD d (0, 0)) ∧ i ≤ a.length) ∧ st = ⟨[vecP a, vecP b, .any, .any, .bool false, .any, .any, .any, .any, .any, .any, .any, .int .i64 ((a.length : Nat) : Int), .int .i64 ((i : Nat) : Int), .any, .any, .any, .any, .any, .any, .any, .any, .any, .any, .any, .any], h⟩) _ ⟨[vecP a, vecP b, .any, .any, .bool false, .any, .any, .any, .any, .any, .any, .any, .int .i64 ((a.length : Nat) : Int), .int .i64 ((0 : Nat) : Int), .any, .any, .any, .any, .any, .any, .any, .any, .any, .any, .any, .any], ⟨(.inl (by first | rfl | (congr 1; omega))), (.inl (by first | rfl | (congr 1; omega))), (.inr rfl), (.inr rfl), (.inl (by first | rfl | (congr 1; omega))), (.inr rfl), (.inr rfl), (.inr rfl), (.inr rfl), (.inr rfl), (.inr rfl), (.inr rfl), (.inl (by first | rfl | (congr 1; omega))), (.inl (by first | rfl | (congr 1; omega))), (.inr rfl), (.inr rfl), (.inr rfl), (.inr rfl), (.inr rfl), (.inr rfl), (.inr rfl), (.inr rfl), (.inr rfl), (.inr rfl), (.inr rfl), (.inr rfl), trivial⟩, 0, ⟨rfl, by intro d hd; omega, by omega⟩, rfl⟩ ?_
    rintro m sl h' ⟨i, ⟨hm, hI, hi⟩, hst⟩
    obtain ⟨rfl, rfl⟩ := St.mk.inj hst
    have hl : a.length = b.length := by omega
    refine RunA.seq ?_
    refine RunA.region good ?_
    refine OpsA.pre 1 (by simp (maxSteps := 2000000) (disch := omega) only [go_sem, Nat.reduceBEq, Nat.reduceAdd, Nat.reduceSub, Nat.reduceLeDiff, Nat.reduceMul, reduceIte, reduceCtorEq, Int.reduceNeg, Int.reduceToNat, Nat.reduceLT, Int.reduceLE, Int.reduceLT, Int.reduceAdd, Int.reduceSub, Int.reduceMul, wrap64, read2, if_pos, if_neg]; rfl) ?_
    refine OpsA.nil ?_
    change RunA _ _ _ _ _
    refine RunA.seq ?_
    refine RunA.split 14 rfl (fun e2 => ?_) (fun e2 => ?_)
    · try simp only [e2]
      have qe2 := e2; try simp only [decide_eq_true_eq, decide_eq_false_iff_not, Bool.not_eq_true', Bool.not_eq_false', Bool.not_eq_eq_eq_not, Bool.not_true, Bool.not_false, Int.not_le, Int.not_lt, beq_iff_eq, bne_iff_ne, ge_iff_le, gt_iff_lt, beq_eq_false_iff_ne, ne_eq, bne_eq_false_iff_eq] at qe2
      refine RunA.condT rfl ?_
      refine RunA.skip ?_
      change RunA _ _ _ _ _
      refine RunA.seq ?_
      refine RunA.block ?_
      refine RunA.seq ?_
      refine RunA.region good ?_
      refine OpsA.pre 2 (by simp (maxSteps := 2000000) (disch := omega) only [go_sem, Nat.reduceBEq, Nat.reduceAdd, Nat.reduceSub, Nat.reduceLeDiff, Nat.reduceMul, reduceIte, reduceCtorEq, Int.reduceNeg, Int.reduceToNat, Nat.reduceLT, Int.reduceLE, Int.reduceLT, Int.reduceAdd, Int.reduceSub, Int.reduceMul, wrap64, read2, if_pos, if_neg]; rfl) ?_
      refine OpsA.nil ?_
      change RunA _ _ _ _ _
      refine RunA.seq ?_
      refine RunA.solo good plan38_6 (by kernel_rfl) (by kernel_rfl) ?_
      refine OpsS.pre 6 (by simp (maxSteps := 2000000) (disch := omega) only [go_sem, Nat.reduceBEq, Nat.reduceAdd, Nat.reduceSub, Nat.reduceLeDiff, Nat.reduceMul, reduceIte, reduceCtorEq, Int.reduceNeg, Int.reduceToNat, Nat.reduceLT, Int.reduceLE, Int.reduceLT, Int.reduceAdd, Int.reduceSub, Int.reduceMul, wrap64, read2, if_pos, if_neg, plan38_6E]; rfl) ?_
      refine OpsS.pre 3 (by simp (maxSteps := 2000000) (disch := omega) only [go_sem, Nat.reduceBEq, Nat.reduceAdd, Nat.reduceSub, Nat.reduceLeDiff, Nat.reduceMul, reduceIte, reduceCtorEq, Int.reduceNeg, Int.reduceToNat, Nat.reduceLT, Int.reduceLE, Int.reduceLT, Int.reduceAdd, Int.reduceSub, Int.reduceMul, wrap64, read2, if_pos, if_neg, plan38_6E]; rfl) ?_
      show _
      change RunA _ _ _ _ _
      refine RunA.split 24 rfl (fun e3 => ?_) (fun e3 => ?_)
      · try simp only [e3]
        have qe3 := e3; try simp only [decide_eq_true_eq, decide_eq_false_iff_not, Bool.not_eq_true', Bool.not_eq_false', Bool.not_eq_eq_eq_not, Bool.not_true, Bool.not_false, Int.not_le, Int.not_lt, beq_iff_eq, bne_iff_ne, ge_iff_le, gt_iff_lt, beq_eq_false_iff_ne, ne_eq, bne_eq_false_iff_eq] at qe3
        refine RunA.condT rfl ?_
        refine RunA.seq ?_
        refine RunA.region good ?_
        refine OpsA.pre 1 (by simp (maxSteps := 2000000) (disch := omega) only [go_sem, Nat.reduceBEq, Nat.reduceAdd, Nat.reduceSub, Nat.reduceLeDiff, Nat.reduceMul, reduceIte, reduceCtorEq, Int.reduceNeg, Int.reduceToNat, Nat.reduceLT, Int.reduceLE, Int.reduceLT, Int.reduceAdd, Int.reduceSub, Int.reduceMul, wrap64, read2, if_pos, if_neg]; rfl) ?_
        refine OpsA.nil ?_
        change RunA _ _ _ _ _
        refine RunA.ret ?_
        refine Ends.mk (by simp only [res38, resA, resAs, resA1]; first | rfl | (simp (maxSteps := 2000000) (disch := omega) only [go_sem, Nat.reduceBEq, Nat.reduceAdd, Nat.reduceSub, Nat.reduceLeDiff, Nat.reduceMul, reduceIte, reduceCtorEq, Int.reduceNeg, Int.reduceToNat, Nat.reduceLT, Int.reduceLE, Int.reduceLT, Int.reduceAdd, Int.reduceSub, Int.reduceMul, wrap64, read2, if_pos, if_neg]; rfl)) ?_
        exact ⟨[], _, (List.append_nil _).symm, by first | rfl | rfl, by (first | exact congrArg AV.bool (decide_eq_true (same_endP hl (by omega) hI)).symm | exact congrArg AV.bool (decide_eq_false (fun e => by subst e; simp_all)).symm)⟩
      · try simp only [e3]
        have qe3 := e3; try simp only [decide_eq_true_eq, decide_eq_false_iff_not, Bool.not_eq_true', Bool.not_eq_false', Bool.not_eq_eq_eq_not, Bool.not_true, Bool.not_false, Int.not_le, Int.not_lt, beq_iff_eq, bne_iff_ne, ge_iff_le, gt_iff_lt, beq_eq_false_iff_ne, ne_eq, bne_eq_false_iff_eq] at qe3
        refine RunA.condF rfl ?_
        refine RunA.skip ?_
        change RunA _ _ _ _ _
        refine RunA.region good ?_
        refine OpsA.pre 2 (by simp (maxSteps := 2000000) (disch := omega) only [go_sem, Nat.reduceBEq, Nat.reduceAdd, Nat.reduceSub, Nat.reduceLeDiff, Nat.reduceMul, reduceIte, reduceCtorEq, Int.reduceNeg, Int.reduceToNat, Nat.reduceLT, Int.reduceLE, Int.reduceLT, Int.reduceAdd, Int.reduceSub, Int.reduceMul, wrap64, read2, if_pos, if_neg]; rfl) ?_
        refine OpsA.nil ?_
        exact ⟨a.length - (i + 1), by omega, [vecP a, vecP b, .any, .any, .bool false, .any, .any, .any, .any, .any, .any, .any, .int .i64 ((a.length : Nat) : Int), .int .i64 (((i + 1) : Nat) : Int), .any, .any, .any, .any, .any, .any, .any, .any, .any, .any, .any, .any], ⟨(.inl (by first | rfl | (congr 1; omega))), (.inl (by first | rfl | (congr 1; omega))), (.inr rfl), (.inr rfl), (.inl (by first | rfl | (congr 1; omega))), (.inr rfl), (.inr rfl), (.inr rfl), (.inr rfl), (.inr rfl), (.inr rfl), (.inr rfl), (.inl (by first | rfl | (congr 1; omega))), (.inl (by first | rfl | (congr 1; omega))), (.inr rfl), (.inr rfl), (.inr rfl), (.inr rfl), (.inr rfl), (.inr rfl), (.inr rfl), (.inr rfl), (.inr rfl), (.inr rfl), (.inr rfl), (.inr rfl), trivial⟩, (i + 1), ⟨rfl, same_nextP hI (by assumption), by omega⟩, rfl⟩
    · try simp only [e2]
      have qe2 := e2; try simp only [decide_eq_true_eq, decide_eq_false_iff_not, Bool.not_eq_true', Bool.not_eq_false', Bool.not_eq_eq_eq_not, Bool.not_true, Bool.not_false, Int.not_le, Int.not_lt, beq_iff_eq, bne_iff_ne, ge_iff_le, gt_iff_lt, beq_eq_false_iff_ne, ne_eq, bne_eq_false_iff_eq] at qe2
      refine RunA.condF rfl ?_
      refine RunA.exit ?_
      change RunA _ _ _ _ _
      refine RunA.seq ?_
      refine RunA.region good ?_
      refine OpsA.pre 1 (by simp (maxSteps := 2000000) (disch := omega) only [go_sem, Nat.reduceBEq, Nat.reduceAdd, Nat.reduceSub, Nat.reduceLeDiff, Nat.reduceMul, reduceIte, reduceCtorEq, Int.reduceNeg, Int.reduceToNat, Nat.reduceLT, Int.reduceLE, Int.reduceLT, Int.reduceAdd, Int.reduceSub, Int.reduceMul, wrap64, read2, if_pos, if_neg]; rfl) ?_
      refine OpsA.nil ?_
      change RunA _ _ _ _ _
      refine RunA.ret ?_
      refine Ends.mk (by simp only [res38, resA, resAs, resA1]; first | rfl | (simp (maxSteps := 2000000) (disch := omega) only [go_sem, Nat.reduceBEq, Nat.reduceAdd, Nat.reduceSub, Nat.reduceLeDiff, Nat.reduceMul, reduceIte, reduceCtorEq, Int.reduceNeg, Int.reduceToNat, Nat.reduceLT, Int.reduceLE, Int.reduceLT, Int.reduceAdd, Int.reduceSub, Int.reduceMul, wrap64, read2, if_pos, if_neg]; rfl)) ?_
      exact ⟨[], _, (List.append_nil _).symm, by first | rfl | rfl, by (first | exact congrArg AV.bool (decide_eq_true (same_endP hl (by omega) hI)).symm | exact congrArg AV.bool (decide_eq_false (fun e => by subst e; simp_all)).symm)⟩

theorem c21 {h : Heap} (d e : Int) (a b : List (Int × Int)) (ha : a.length < 9223372036854775807) : CallA Try.prog cfg 21 [cfA d a, cfA e b] h (fun y' h' => y' = .bool (decide (d = e ∧ a = b)) ∧ h' = h) := by
  refine CallA.body (Q := fun y' => y' = .bool (decide (d = e ∧ a = b))) good fn21 rfl ?_
  simp only [ntm21, List.length_cons, List.length_nil, Nat.reduceAdd, Nat.reduceSub, List.replicate, List.cons_append, List.nil_append]
  refine RunA.seq ?_
  refine RunA.region good ?_
  refine OpsA.pre 3 (by simp (maxSteps := 2000000) (disch := omega) only [go_sem, Nat.reduceBEq, Nat.reduceAdd, Nat.reduceSub, Nat.reduceLeDiff, Nat.reduceMul, reduceIte, reduceCtorEq, Int.reduceNeg, Int.reduceToNat, Nat.reduceLT, Int.reduceLE, Int.reduceLT, Int.reduceAdd, Int.reduceSub, Int.reduceMul, wrap64, read2, cfA, if_pos, if_neg]; rfl) ?_
  refine OpsA.nil ?_
  change RunA _ _ _ _ _
  refine RunA.seq ?_
  refine RunA.region good ?_
  refine OpsA.pre 6 (by simp (maxSteps := 2000000) (disch := omega) only [go_sem, Nat.reduceBEq, Nat.reduceAdd, Nat.reduceSub, Nat.reduceLeDiff, Nat.reduceMul, reduceIte, reduceCtorEq, Int.reduceNeg, Int.reduceToNat, Nat.reduceLT, Int.reduceLE, Int.reduceLT, Int.reduceAdd, Int.reduceSub, Int.reduceMul, wrap64, read2, cfA, if_pos, if_neg]; rfl) ?_
  refine OpsA.split 10 rfl (fun e1 => ?_) (fun e1 => ?_)
  · try simp only [e1]
    have qe1 := e1; try simp only [decide_eq_true_eq, decide_eq_false_iff_not, Bool.not_eq_true', Bool.not_eq_false', Bool.not_eq_eq_eq_not, Bool.not_true, Bool.not_false, Int.not_le, Int.not_lt, beq_iff_eq, bne_iff_ne, ge_iff_le, gt_iff_lt, beq_eq_false_iff_ne, ne_eq, bne_eq_false_iff_eq] at qe1
    refine OpsA.pre 4 (by simp (maxSteps := 2000000) (disch := omega) only [go_sem, Nat.reduceBEq, Nat.reduceAdd, Nat.reduceSub, Nat.reduceLeDiff, Nat.reduceMul, reduceIte, reduceCtorEq, Int.reduceNeg, Int.reduceToNat, Nat.reduceLT, Int.reduceLE, Int.reduceLT, Int.reduceAdd, Int.reduceSub, Int.reduceMul, wrap64, read2, cfA, if_pos, if_neg]; rfl) ?_
    refine OpsA.callQ rfl rfl rfl hb38 (c38 _ _ ha) ?_
    refine OpsA.pre 2 (by simp (maxSteps := 2000000) (disch := omega) only [go_sem, Nat.reduceBEq, Nat.reduceAdd, Nat.reduceSub, Nat.reduceLeDiff, Nat.reduceMul, reduceIte, reduceCtorEq, Int.reduceNeg, Int.reduceToNat, Nat.reduceLT, Int.reduceLE, Int.reduceLT, Int.reduceAdd, Int.reduceSub, Int.reduceMul, wrap64, read2, cfA, if_pos, if_neg]; rfl) ?_
    refine OpsA.nil ?_
    change RunA _ _ _ _ _
    refine RunA.ret ?_
    refine Ends.mk (by simp only [res21, resA, resAs, resA1]; first | rfl | (simp (maxSteps := 2000000) (disch := omega) only [go_sem, Nat.reduceBEq, Nat.reduceAdd, Nat.reduceSub, Nat.reduceLeDiff, Nat.reduceMul, reduceIte, reduceCtorEq, Int.reduceNeg, Int.reduceToNat, Nat.reduceLT, Int.reduceLE, Int.reduceLT, Int.reduceAdd, Int.reduceSub, Int.reduceMul, wrap64, read2, cfA, if_pos, if_neg]; rfl)) ?_
    exact ⟨_, _, rfl, by first | rfl | (simp only [frzT, frzP, optMap, get_app, get_app0]; rfl), by (first | (exact congrArg AV.bool (by simp_all)) | simp_all)⟩
  · try simp only [e1]
    have qe1 := e1; try simp only [decide_eq_true_eq, decide_eq_false_iff_not, Bool.not_eq_true', Bool.not_eq_false', Bool.not_eq_eq_eq_not, Bool.not_true, Bool.not_false, Int.not_le, Int.not_lt, beq_iff_eq, bne_iff_ne, ge_iff_le, gt_iff_lt, beq_eq_false_iff_ne, ne_eq, bne_eq_false_iff_eq] at qe1
    refine OpsA.pre 6 (by simp (maxSteps := 2000000) (disch := omega) only [go_sem, Nat.reduceBEq, Nat.reduceAdd, Nat.reduceSub, Nat.reduceLeDiff, Nat.reduceMul, reduceIte, reduceCtorEq, Int.reduceNeg, Int.reduceToNat, Nat.reduceLT, Int.reduceLE, Int.reduceLT, Int.reduceAdd, Int.reduceSub, Int.reduceMul, wrap64, read2, cfA, if_pos, if_neg]; rfl) ?_
    refine OpsA.pre 1 (by simp (maxSteps := 2000000) (disch := omega) only [go_sem, Nat.reduceBEq, Nat.reduceAdd, Nat.reduceSub, Nat.reduceLeDiff, Nat.reduceMul, reduceIte, reduceCtorEq, Int.reduceNeg, Int.reduceToNat, Nat.reduceLT, Int.reduceLE, Int.reduceLT, Int.reduceAdd, Int.reduceSub, Int.reduceMul, wrap64, read2, cfA, if_pos, if_neg]; rfl) ?_
    refine OpsA.nil ?_
    change RunA _ _ _ _ _
    refine RunA.ret ?_
    refine Ends.mk (by simp only [res21, resA, resAs, resA1]; first | rfl | (simp (maxSteps := 2000000) (disch := omega) only [go_sem, Nat.reduceBEq, Nat.reduceAdd, Nat.reduceSub, Nat.reduceLeDiff, Nat.reduceMul, reduceIte, reduceCtorEq, Int.reduceNeg, Int.reduceToNat, Nat.reduceLT, Int.reduceLE, Int.reduceLT, Int.reduceAdd, Int.reduceSub, Int.reduceMul, wrap64, read2, cfA, if_pos, if_neg]; rfl)) ?_
    exact ⟨_, _, rfl, by first | rfl | (simp only [frzT, frzP, optMap, get_app, get_app0]; rfl), by (first | (exact congrArg AV.bool (by simp_all)) | simp_all)⟩

def plan22_6 : Plan := ⟨[[], [0], [], [0, 1, 2], [0, 1, 2, 3], [], [5], [], [5, 6, 7], [5, 6, 7, 8], [0, 1, 2, 3, 4, 5, 6, 7, 8, 9]], [false, false, false, false, false, false, false, false, false, false, false]⟩
theorem plan22_6E (i : Nat) : plan22_6.isE i = [false, false, false, false, false, false, false, false, false, false, false].getD i false := rfl

theorem c22 {h : Heap} (d e : Int) (a b : List (Int × Int)) (ha : a.length < 9223372036854775807) : CallA Try.prog cfg 22 [cfA d a, cfA e b] h (fun y' h' => y' = .bool (decide (d = e ∧ a = b)) ∧ h' = h) := by
  refine CallA.body (Q := fun y' => y' = .bool (decide (d = e ∧ a = b))) good fn22 rfl ?_
  simp only [ntm22, List.length_cons, List.length_nil, Nat.reduceAdd, Nat.reduceSub, List.replicate, List.cons_append, List.nil_append]
  refine RunA.seq ?_
  refine RunA.region good ?_
  refine OpsA.pre 3 (by simp (maxSteps := 2000000) (disch := omega) only [go_sem, Nat.reduceBEq, Nat.reduceAdd, Nat.reduceSub, Nat.reduceLeDiff, Nat.reduceMul, reduceIte, reduceCtorEq, Int.reduceNeg, Int.reduceToNat, Nat.reduceLT, Int.reduceLE, Int.reduceLT, Int.reduceAdd, Int.reduceSub, Int.reduceMul, wrap64, read2, cfA, if_pos, if_neg]; rfl) ?_
  refine OpsA.nil ?_
  change RunA _ _ _ _ _
  refine RunA.seq ?_
  refine RunA.seq ?_
  refine RunA.region good ?_
  refine OpsA.pre 6 (by simp (maxSteps := 2000000) (disch := omega) only [go_sem, Nat.reduceBEq, Nat.reduceAdd, Nat.reduceSub, Nat.reduceLeDiff, Nat.reduceMul, reduceIte, reduceCtorEq, Int.reduceNeg, Int.reduceToNat, Nat.reduceLT, Int.reduceLE, Int.reduceLT, Int.reduceAdd, Int.reduceSub, Int.reduceMul, wrap64, read2, cfA, if_pos, if_neg]; rfl) ?_
  refine OpsA.split 11 rfl (fun e1 => ?_) (fun e1 => ?_)
  · try simp only [e1]
    have qe1 := e1; try simp only [decide_eq_true_eq, decide_eq_false_iff_not, Bool.not_eq_true', Bool.not_eq_false', Bool.not_eq_eq_eq_not, Bool.not_true, Bool.not_false, Int.not_le, Int.not_lt, beq_iff_eq, bne_iff_ne, ge_iff_le, gt_iff_lt, beq_eq_false_iff_ne, ne_eq, bne_eq_false_iff_eq] at qe1
    refine OpsA.pre 6 (by simp (maxSteps := 2000000) (disch := omega) only [go_sem, Nat.reduceBEq, Nat.reduceAdd, Nat.reduceSub, Nat.reduceLeDiff, Nat.reduceMul, reduceIte, reduceCtorEq, Int.reduceNeg, Int.reduceToNat, Nat.reduceLT, Int.reduceLE, Int.reduceLT, Int.reduceAdd, Int.reduceSub, Int.reduceMul, wrap64, read2, cfA, if_pos, if_neg]; rfl) ?_
    refine OpsA.pre 2 (by simp (maxSteps := 2000000) (disch := omega) only [go_sem, Nat.reduceBEq, Nat.reduceAdd, Nat.reduceSub, Nat.reduceLeDiff, Nat.reduceMul, reduceIte, reduceCtorEq, Int.reduceNeg, Int.reduceToNat, Nat.reduceLT, Int.reduceLE, Int.reduceLT, Int.reduceAdd, Int.reduceSub, Int.reduceMul, wrap64, read2, cfA, if_pos, if_neg]; rfl) ?_
    refine OpsA.nil ?_
    change RunA _ _ _ _ _
    refine RunA.condT rfl ?_
    refine RunA.seq ?_
    refine RunA.region good ?_
    refine OpsA.pre 1 (by simp (maxSteps := 2000000) (disch := omega) only [go_sem, Nat.reduceBEq, Nat.reduceAdd, Nat.reduceSub, Nat.reduceLeDiff, Nat.reduceMul, reduceIte, reduceCtorEq, Int.reduceNeg, Int.reduceToNat, Nat.reduceLT, Int.reduceLE, Int.reduceLT, Int.reduceAdd, Int.reduceSub, Int.reduceMul, wrap64, read2, cfA, if_pos, if_neg]; rfl) ?_
    refine OpsA.nil ?_
    change RunA _ _ _ _ _
    refine RunA.ret ?_
    refine Ends.mk (by simp only [res22, resA, resAs, resA1]; first | rfl | (simp (maxSteps := 2000000) (disch := omega) only [go_sem, Nat.reduceBEq, Nat.reduceAdd, Nat.reduceSub, Nat.reduceLeDiff, Nat.reduceMul, reduceIte, reduceCtorEq, Int.reduceNeg, Int.reduceToNat, Nat.reduceLT, Int.reduceLE, Int.reduceLT, Int.reduceAdd, Int.reduceSub, Int.reduceMul, wrap64, read2, cfA, if_pos, if_neg]; rfl)) ?_
    exact ⟨_, _, rfl, by first | rfl | (simp only [frzT, frzP, optMap, get_app, get_app0]; rfl), by (first | exact congrArg AV.bool (decide_eq_true ⟨by omega, same_endP hl (by omega) hI⟩).symm | exact congrArg AV.bool (decide_eq_false (fun e => by obtain ⟨rfl, rfl⟩ := e; simp_all)).symm)⟩
  · try simp only [e1]
    have qe1 := e1; try simp only [decide_eq_true_eq, decide_eq_false_iff_not, Bool.not_eq_true', Bool.not_eq_false', Bool.not_eq_eq_eq_not, Bool.not_true, Bool.not_false, Int.not_le, Int.not_lt, beq_iff_eq, bne_iff_ne, ge_iff_le, gt_iff_lt, beq_eq_false_iff_ne, ne_eq, bne_eq_false_iff_eq] at qe1
    refine OpsA.pre 6 (by simp (maxSteps := 2000000) (disch := omega) only [go_sem, Nat.reduceBEq, Nat.reduceAdd, Nat.reduceSub, Nat.reduceLeDiff, Nat.reduceMul, reduceIte, reduceCtorEq, Int.reduceNeg, Int.reduceToNat, Nat.reduceLT, Int.reduceLE, Int.reduceLT, Int.reduceAdd, Int.reduceSub, Int.reduceMul, wrap64, read2, cfA, if_pos, if_neg]; rfl) ?_
    refine OpsA.pre 2 (by simp (maxSteps := 2000000) (disch := omega) only [go_sem, Nat.reduceBEq, Nat.reduceAdd, Nat.reduceSub, Nat.reduceLeDiff, Nat.reduceMul, reduceIte, reduceCtorEq, Int.reduceNeg, Int.reduceToNat, Nat.reduceLT, Int.reduceLE, Int.reduceLT, Int.reduceAdd, Int.reduceSub, Int.reduceMul, wrap64, read2, cfA, if_pos, if_neg]; rfl) ?_
    refine OpsA.nil ?_
    change RunA _ _ _ _ _
    refine RunA.split 19 rfl (fun e2 => ?_) (fun e2 => ?_)
    · try simp only [e2]
      have qe2 := e2; try simp only [decide_eq_true_eq, decide_eq_false_iff_not, Bool.not_eq_true', Bool.not_eq_false', Bool.not_eq_eq_eq_not, Bool.not_true, Bool.not_false, Int.not_le, Int.not_lt, beq_iff_eq, bne_iff_ne, ge_iff_le, gt_iff_lt, beq_eq_false_iff_ne, ne_eq, bne_eq_false_iff_eq] at qe2
      refine RunA.condT rfl ?_
      refine RunA.seq ?_
      refine RunA.region good ?_
      refine OpsA.pre 1 (by simp (maxSteps := 2000000) (disch := omega) only [go_sem, Nat.reduceBEq, Nat.reduceAdd, Nat.reduceSub, Nat.reduceLeDiff, Nat.reduceMul, reduceIte, reduceCtorEq, Int.reduceNeg, Int.reduceToNat, Nat.reduceLT, Int.reduceLE, Int.reduceLT, Int.reduceAdd, Int.reduceSub, Int.reduceMul, wrap64, read2, cfA, if_pos, if_neg]; rfl) ?_
      refine OpsA.nil ?_
      change RunA _ _ _ _ _
      refine RunA.ret ?_
      refine Ends.mk (by simp only [res22, resA, resAs, resA1]; first | rfl | (simp (maxSteps := 2000000) (disch := omega) only [go_sem, Nat.reduceBEq, Nat.reduceAdd, Nat.reduceSub, Nat.reduceLeDiff, Nat.reduceMul, reduceIte, reduceCtorEq, Int.reduceNeg, Int.reduceToNat, Nat.reduceLT, Int.reduceLE, Int.reduceLT, Int.reduceAdd, Int.reduceSub, Int.reduceMul, wrap64, read2, cfA, if_pos, if_neg]; rfl)) ?_
      exact ⟨_, _, rfl, by first | rfl | (simp only [frzT, frzP, optMap, get_app, get_app0]; rfl), by (first | exact congrArg AV.bool (decide_eq_true ⟨by omega, same_endP hl (by omega) hI⟩).symm | exact congrArg AV.bool (decide_eq_false (fun e => by obtain ⟨rfl, rfl⟩ := e; simp_all)).symm)⟩
    · try simp only [e2]
      have qe2 := e2; try simp only [decide_eq_true_eq, decide_eq_false_iff_not, Bool.not_eq_true', Bool.not_eq_false', Bool.not_eq_eq_eq_not, Bool.not_true, Bool.not_false, Int.not_le, Int.not_lt, beq_iff_eq, bne_iff_ne, ge_iff_le, gt_iff_lt, beq_eq_false_iff_ne, ne_eq, bne_eq_false_iff_eq] at qe2
      refine RunA.condF rfl ?_
      refine RunA.skip ?_
      change RunA _ _ _ _ _
      refine RunA.seq ?_
      refine RunA.seq ?_
      refine RunA.region good ?_
      refine OpsA.pre 1 (by simp (maxSteps := 2000000) (disch := omega) only [go_sem, Nat.reduceBEq, Nat.reduceAdd, Nat.reduceSub, Nat.reduceLeDiff, Nat.reduceMul, reduceIte, reduceCtorEq, Int.reduceNeg, Int.reduceToNat, Nat.reduceLT, Int.reduceLE, Int.reduceLT, Int.reduceAdd, Int.reduceSub, Int.reduceMul, wrap64, read2, cfA, if_pos, if_neg]; rfl) ?_
      refine OpsA.nil ?_
      change RunA _ _ _ _ _
      refine RunA.block ?_
      refine RunA.loopL (fun m st => ∃ (i : Nat), (m = a.length - i ∧ (∀ d, d < i → a.getD d (0, 0) = b.getD d (0, 0)) ∧ i ≤ a.length) ∧ st = ⟨[.any, .any, .ptr h.length 0 0, .ptr (h.length + 1) 0 0, .bool false, .int .i64 ((i : Nat) : Int), .any, .any, .any, .any, .any, .any, .any, .any, .any, .any, .any, .any, .any, .any, .any, .any, .any, .any, .any, .any, .any, .any, .any, .any, .any, .any, .any, .any, .any, .any, .any, .any], h ++ [⟨0, false, 64, 2, [.int .i64 d, vecP a], 0⟩, ⟨0, false, 64, 2, [.int .i64 e, vecP b], 0⟩]⟩) _ ⟨[.any, .any, .ptr h.length 0 0, .ptr (h.length + 1) 0 0, .bool false, .int .i64 ((0 : Nat) : Int), .any, .any, .any, .any, .any, .any, .any, .any, .any, .any, .any, .any, .any, .any, .any, .any, .any, .any, .any, .any, .any, .any, .any, .any, .any, .any, .any, .any, .any, .any, .any, .any], ⟨(.inr rfl), (.inr rfl), (.inl (by first | rfl | (congr 1; omega))), (.inl (by first | rfl | (congr 1; omega))), (.inl (by first | rfl | (congr 1; omega))), (.inl (by first | rfl | (congr 1; omega))), (.inr rfl), (.inr rfl), (.inr rfl), (.inr rfl), (.inr rfl), (.inr rfl), (.inr rfl), (.inr rfl), (.inr rfl), (.inr rfl), (.inr rfl), (.inr rfl), (.inr rfl), (.inr rfl), (.inr rfl), (.inr rfl), (.inr rfl), (.inr rfl), (.inr rfl), (.inr rfl), (.inr rfl), (.inr rfl), (.inr rfl), (.inr rfl), (.inr rfl), (.inr rfl), (.inr rfl), (.inr rfl), (.inr rfl), (.inr rfl), (.inr rfl), (.inr rfl), trivial⟩, 0, ⟨rfl, by intro d hd; omega, by omega⟩, rfl⟩ ?_
      rintro m sl h' ⟨i, ⟨hm, hI, hi⟩, hst⟩
      obtain ⟨rfl, rfl⟩ := St.mk.inj hst
      have hl : a.length = b.length := by omega
      refine RunA.seq ?_
      refine RunA.seq ?_
      refine RunA.region good ?_
      refine OpsA.pre 5 (by simp (maxSteps := 2000000) (disch := omega) only [go_sem, Nat.reduceBEq, Nat.reduceAdd, Nat.reduceSub, Nat.reduceLeDiff, Nat.reduceMul, reduceIte, reduceCtorEq, Int.reduceNeg, Int.reduceToNat, Nat.reduceLT, Int.reduceLE, Int.reduceLT, Int.reduceAdd, Int.reduceSub, Int.reduceMul, wrap64, read2, cfA, if_pos, if_neg]; rfl) ?_
      refine OpsA.nil ?_
      change RunA _ _ _ _ _
      refine RunA.split 24 rfl (fun e3 => ?_) (fun e3 => ?_)
      · try simp only [e3]
        have qe3 := e3; try simp only [decide_eq_true_eq, decide_eq_false_iff_not, Bool.not_eq_true', Bool.not_eq_false', Bool.not_eq_eq_eq_not, Bool.not_true, Bool.not_false, Int.not_le, Int.not_lt, beq_iff_eq, bne_iff_ne, ge_iff_le, gt_iff_lt, beq_eq_false_iff_ne, ne_eq, bne_eq_false_iff_eq] at qe3
        refine RunA.condT rfl ?_
        refine RunA.skip ?_
        change RunA _ _ _ _ _
        refine RunA.seq ?_
        refine RunA.block ?_
        refine RunA.seq ?_
        refine RunA.solo good plan22_6 (by kernel_rfl) (by kernel_rfl) ?_
        refine OpsS.pre 6 (by simp (maxSteps := 2000000) (disch := omega) only [go_sem, Nat.reduceBEq, Nat.reduceAdd, Nat.reduceSub, Nat.reduceLeDiff, Nat.reduceMul, reduceIte, reduceCtorEq, Int.reduceNeg, Int.reduceToNat, Nat.reduceLT, Int.reduceLE, Int.reduceLT, Int.reduceAdd, Int.reduceSub, Int.reduceMul, wrap64, read2, cfA, if_pos, if_neg, plan22_6E]; rfl) ?_
        refine OpsS.pre 5 (by simp (maxSteps := 2000000) (disch := omega) only [go_sem, Nat.reduceBEq, Nat.reduceAdd, Nat.reduceSub, Nat.reduceLeDiff, Nat.reduceMul, reduceIte, reduceCtorEq, Int.reduceNeg, Int.reduceToNat, Nat.reduceLT, Int.reduceLE, Int.reduceLT, Int.reduceAdd, Int.reduceSub, Int.reduceMul, wrap64, read2, cfA, if_pos, if_neg, plan22_6E]; rfl) ?_
        show _
        change RunA _ _ _ _ _
        refine RunA.split 37 rfl (fun e4 => ?_) (fun e4 => ?_)
        · try simp only [e4]
          have qe4 := e4; try simp only [decide_eq_true_eq, decide_eq_false_iff_not, Bool.not_eq_true', Bool.not_eq_false', Bool.not_eq_eq_eq_not, Bool.not_true, Bool.not_false, Int.not_le, Int.not_lt, beq_iff_eq, bne_iff_ne, ge_iff_le, gt_iff_lt, beq_eq_false_iff_ne, ne_eq, bne_eq_false_iff_eq] at qe4
          refine RunA.condT rfl ?_
          refine RunA.seq ?_
          refine RunA.region good ?_
          refine OpsA.pre 1 (by simp (maxSteps := 2000000) (disch := omega) only [go_sem, Nat.reduceBEq, Nat.reduceAdd, Nat.reduceSub, Nat.reduceLeDiff, Nat.reduceMul, reduceIte, reduceCtorEq, Int.reduceNeg, Int.reduceToNat, Nat.reduceLT, Int.reduceLE, Int.reduceLT, Int.reduceAdd, Int.reduceSub, Int.reduceMul, wrap64, read2, cfA, if_pos, if_neg]; rfl) ?_
          refine OpsA.nil ?_
          change RunA _ _ _ _ _
          refine RunA.ret ?_
          refine Ends.mk (by simp only [res22, resA, resAs, resA1]; first | rfl | (simp (maxSteps := 2000000) (disch := omega) only [go_sem, Nat.reduceBEq, Nat.reduceAdd, Nat.reduceSub, Nat.reduceLeDiff, Nat.reduceMul, reduceIte, reduceCtorEq, Int.reduceNeg, Int.reduceToNat, Nat.reduceLT, Int.reduceLE, Int.reduceLT, Int.reduceAdd, Int.reduceSub, Int.reduceMul, wrap64, read2, cfA, if_pos, if_neg]; rfl)) ?_
          exact ⟨_, _, rfl, by first | rfl | (simp only [frzT, frzP, optMap, get_app, get_app0]; rfl), by (first | exact congrArg AV.bool (decide_eq_true ⟨by omega, same_endP hl (by omega) hI⟩).symm | exact congrArg AV.bool (decide_eq_false (fun e => by obtain ⟨rfl, rfl⟩ := e; simp_all)).symm)⟩
        · try simp only [e4]
          have qe4 := e4; try simp only [decide_eq_true_eq, decide_eq_false_iff_not, Bool.not_eq_true', Bool.not_eq_false', Bool.not_eq_eq_eq_not, Bool.not_true, Bool.not_false, Int.not_le, Int.not_lt, beq_iff_eq, bne_iff_ne, ge_iff_le, gt_iff_lt, beq_eq_false_iff_ne, ne_eq, bne_eq_false_iff_eq] at qe4
          refine RunA.condF rfl ?_
          refine RunA.skip ?_
          change RunA _ _ _ _ _
          refine RunA.region good ?_
          refine OpsA.pre 3 (by simp (maxSteps := 2000000) (disch := omega) only [go_sem, Nat.reduceBEq, Nat.reduceAdd, Nat.reduceSub, Nat.reduceLeDiff, Nat.reduceMul, reduceIte, reduceCtorEq, Int.reduceNeg, Int.reduceToNat, Nat.reduceLT, Int.reduceLE, Int.reduceLT, Int.reduceAdd, Int.reduceSub, Int.reduceMul, wrap64, read2, cfA, if_pos, if_neg]; rfl) ?_
          refine OpsA.nil ?_
          exact ⟨a.length - (i + 1), by omega, [.any, .any, .ptr h.length 0 0, .ptr (h.length + 1) 0 0, .bool false, .int .i64 (((i + 1) : Nat) : Int), .any, .any, .any, .any, .any, .any, .any, .any, .any, .any, .any, .any, .any, .any, .any, .any, .any, .any, .any, .any, .any, .any, .any, .any, .any, .any, .any, .any, .any, .any, .any, .any], ⟨(.inr rfl), (.inr rfl), (.inl (by first | rfl | (congr 1; omega))), (.inl (by first | rfl | (congr 1; omega))), (.inl (by first | rfl | (congr 1; omega))), (.inl (by first | rfl | (congr 1; omega))), (.inr rfl), (.inr rfl), (.inr rfl), (.inr rfl), (.inr rfl), (.inr rfl), (.inr rfl), (.inr rfl), (.inr rfl), (.inr rfl), (.inr rfl), (.inr rfl), (.inr rfl), (.inr rfl), (.inr rfl), (.inr rfl), (.inr rfl), (.inr rfl), (.inr rfl), (.inr rfl), (.inr rfl), (.inr rfl), (.inr rfl), (.inr rfl), (.inr rfl), (.inr rfl), (.inr rfl), (.inr rfl), (.inr rfl), (.inr rfl), (.inr rfl), (.inr rfl), trivial⟩, (i + 1), ⟨rfl, same_nextP hI (by assumption), by omega⟩, rfl⟩
      · try simp only [e3]
        have qe3 := e3; try simp only [decide_eq_true_eq, decide_eq_false_iff_not, Bool.not_eq_true', Bool.not_eq_false', Bool.not_eq_eq_eq_not, Bool.not_true, Bool.not_false, Int.not_le, Int.not_lt, beq_iff_eq, bne_iff_ne, ge_iff_le, gt_iff_lt, beq_eq_false_iff_ne, ne_eq, bne_eq_false_iff_eq] at qe3
        refine RunA.condF rfl ?_
        refine RunA.exit ?_
        change RunA _ _ _ _ _
        refine RunA.seq ?_
        refine RunA.region good ?_
        refine OpsA.pre 1 (by simp (maxSteps := 2000000) (disch := omega) only [go_sem, Nat.reduceBEq, Nat.reduceAdd, Nat.reduceSub, Nat.reduceLeDiff, Nat.reduceMul, reduceIte, reduceCtorEq, Int.reduceNeg, Int.reduceToNat, Nat.reduceLT, Int.reduceLE, Int.reduceLT, Int.reduceAdd, Int.reduceSub, Int.reduceMul, wrap64, read2, cfA, if_pos, if_neg]; rfl) ?_
        refine OpsA.nil ?_
        change RunA _ _ _ _ _
        refine RunA.ret ?_
        refine Ends.mk (by simp only [res22, resA, resAs, resA1]; first | rfl | (simp (maxSteps := 2000000) (disch := omega) only [go_sem, Nat.reduceBEq, Nat.reduceAdd, Nat.reduceSub, Nat.reduceLeDiff, Nat.reduceMul, reduceIte, reduceCtorEq, Int.reduceNeg, Int.reduceToNat, Nat.reduceLT, Int.reduceLE, Int.reduceLT, Int.reduceAdd, Int.reduceSub, Int.reduceMul, wrap64, read2, cfA, if_pos, if_neg]; rfl)) ?_
        exact ⟨_, _, rfl, by first | rfl | (simp only [frzT, frzP, optMap, get_app, get_app0]; rfl), by (first | exact congrArg AV.bool (decide_eq_true ⟨by omega, same_endP hl (by omega) hI⟩).symm | exact congrArg AV.bool (decide_eq_false (fun e => by obtain ⟨rfl, rfl⟩ := e; simp_all)).symm)⟩

end Go.Proofs.Ytfcbamfgejfleaa
