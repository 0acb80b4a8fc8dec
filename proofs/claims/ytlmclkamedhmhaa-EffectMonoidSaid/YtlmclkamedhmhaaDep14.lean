/-
  SETS AND RELATIONS OF DEPTHS: what the functions compute. Written in part by a program of mine (gen14.py, walk.py). Conditions: none.
-/
import Derived.Test.YtlmclkamedhmhaaEff24B
namespace Go.Proofs.Ytlmclkamedhmhaa
open Go.Ab
set_option linter.unusedSimpArgs false
set_option linter.unusedVariables false
set_option maxRecDepth 10000
attribute [local go_sem] opsE opsSE stepS quietA wantA plainA pureA readA effA callPureA lenA minA maxA rho embT emb putA List.set List.getD_cons_zero List.getD_cons_succ List.getD_nil binA intBin isShift unA buildA fillA over partA loadA readAt writeAt newVarA virts addOff AV.cellsOf AV.storable AV.one UD.isAgg UD.known rd lenOf appendA sliceA boundA virtNone get_app get_app0 set_app set_app0 Array.toList List.take_succ_cons List.take_zero List.drop_succ_cons List.drop_zero List.getElem?_cons_succ List.getElem?_cons_zero List.getElem?_toArray Option.bind_some Option.map_some Option.map_none List.map_cons List.map_nil List.length_cons List.length_nil List.length_append Nat.zero_add Nat.add_zero Nat.le_refl Nat.one_mul Nat.mul_one List.append_assoc List.cons_append List.nil_append List.append_nil and_self and_true true_and true_or or_true if_true if_false Bool.false_eq_true not_false_eq_true bTT bTF bFT bFF Bool.not_true Bool.not_false decide_true decide_false Int.toNat_zero Int.toNat_one Int.toNat_natCast List.size_toArray ut3 sz3 ti3 ut4 sz4 ti4 ut34 sz34 ti34 ut53 sz53 ti53 ut63 sz63 ti63 vecI List.length_map Int.natCast_nonneg List.map_nil

theorem read1 {k : IntKind} {l : List Int} {i : Nat} (h : i < l.length) : List.take 1 (List.drop i (l.map (AV.int k))) = [AV.int k (l.getD i 0)] := by
  rw [← List.map_drop, ← List.map_take, List.drop_eq_getElem_cons h, List.take_succ_cons, List.take_zero]
  simp [List.getD, h]

theorem over1 {k : IntKind} {l : List Int} {i : Nat} {v : Int} (h : i < l.length) : List.take i (l.map (AV.int k)) ++ AV.int k v :: List.drop (i + 1) (l.map (AV.int k)) = (l.set i v).map (AV.int k) := by
  rw [← List.map_drop, ← List.map_take, List.set_eq_take_append_cons_drop, if_pos h]
  simp

theorem flat0 (n : Nat) : (List.replicate n [AV.int .i64 0]).flatten = (List.replicate n (0 : Int)).map (AV.int .i64) := by
  induction n with
  | zero => rfl
  | succ n ih => simp [List.replicate_succ, ih]

theorem same_next {a b : List Int} {i : Nat} (h : ∀ d, d < i → a.getD d 0 = b.getD d 0) (e : a.getD i 0 = b.getD i 0) : ∀ d, d < i + 1 → a.getD d 0 = b.getD d 0 := by
  intro d hd
  by_cases hdi : d = i
  · rw [hdi, e]
  · exact h d (by omega)

theorem same_end {a b : List Int} {i : Nat} (hl : a.length = b.length) (hi : a.length ≤ i) (h : ∀ d, d < i → a.getD d 0 = b.getD d 0) : a = b := by
  refine List.ext_getElem hl fun d h1 h2 => ?_
  have := h d (by omega)
  simpa [List.getD, h1, h2] using this

def plan36_6 : Plan := ⟨[[], [], [0, 1], [0, 1, 2], [], [], [4, 5], [4, 5, 6], [0, 1, 2, 3, 4, 5, 6, 7]], [false, false, false, false, false, false, false, false, false]⟩
theorem plan36_6E (i : Nat) : plan36_6.isE i = [false, false, false, false, false, false, false, false, false].getD i false := rfl

theorem c36 {h : Heap} (a b : List Int) (ha : a.length < 9223372036854775808) : CallA Try.prog cfg 36 [vecI a, vecI b] h (fun y' h' => y' = .bool (decide (a = b)) ∧ h' = h) := by
  refine CallA.body (Q := fun y' => y' = .bool (decide (a = b))) good fn36 rfl ?_
  simp only [ntm36, List.length_cons, List.length_nil, Nat.reduceAdd, Nat.reduceSub, List.replicate, List.cons_append, List.nil_append]
  refine RunA.seq ?_
  refine RunA.region good ?_
  refine OpsA.pre 1 (by simp (maxSteps := 2000000) (disch := omega) only [go_sem, Nat.reduceAdd, Nat.reduceSub, Nat.reduceLeDiff, Nat.reduceMul, reduceIte, reduceCtorEq, Int.reduceNeg, Int.reduceToNat, Nat.reduceLT, Int.reduceLE, Int.reduceLT, Int.reduceAdd, Int.reduceSub, Int.reduceMul, wrap64, read1, over1, flat0, List.length_set, List.length_replicate, Int.natCast_inj, if_pos, if_neg]; rfl) ?_
  refine OpsA.nil ?_
  change RunA _ _ _ _ _
  refine RunA.seq ?_
  refine RunA.seq ?_
  refine RunA.region good ?_
  refine OpsA.pre 5 (by simp (maxSteps := 2000000) (disch := omega) only [go_sem, Nat.reduceAdd, Nat.reduceSub, Nat.reduceLeDiff, Nat.reduceMul, reduceIte, reduceCtorEq, Int.reduceNeg, Int.reduceToNat, Nat.reduceLT, Int.reduceLE, Int.reduceLT, Int.reduceAdd, Int.reduceSub, Int.reduceMul, wrap64, read1, over1, flat0, List.length_set, List.length_replicate, Int.natCast_inj, if_pos, if_neg]; rfl) ?_
  refine OpsA.nil ?_
  change RunA _ _ _ _ _
  refine RunA.split 10 rfl (fun e1 => ?_) (fun e1 => ?_)
  · try simp only [e1]
    have qe1 := e1; try simp only [decide_eq_true_eq, decide_eq_false_iff_not, Bool.not_eq_true', Bool.not_eq_false', Bool.not_eq_eq_eq_not, Bool.not_true, Bool.not_false, Int.not_le, Int.not_lt, beq_iff_eq, bne_iff_ne, ge_iff_le, gt_iff_lt, beq_eq_false_iff_ne, ne_eq, bne_eq_false_iff_eq] at qe1
    refine RunA.condT rfl ?_
    refine RunA.seq ?_
    refine RunA.region good ?_
    refine OpsA.pre 1 (by simp (maxSteps := 2000000) (disch := omega) only [go_sem, Nat.reduceAdd, Nat.reduceSub, Nat.reduceLeDiff, Nat.reduceMul, reduceIte, reduceCtorEq, Int.reduceNeg, Int.reduceToNat, Nat.reduceLT, Int.reduceLE, Int.reduceLT, Int.reduceAdd, Int.reduceSub, Int.reduceMul, wrap64, read1, over1, flat0, List.length_set, List.length_replicate, Int.natCast_inj, if_pos, if_neg]; rfl) ?_
    refine OpsA.nil ?_
    change RunA _ _ _ _ _
    refine RunA.ret ?_
    refine Ends.mk (by simp only [res36, resA, resAs, resA1]; first | rfl | (simp (maxSteps := 2000000) (disch := omega) only [go_sem, Nat.reduceAdd, Nat.reduceSub, Nat.reduceLeDiff, Nat.reduceMul, reduceIte, reduceCtorEq, Int.reduceNeg, Int.reduceToNat, Nat.reduceLT, Int.reduceLE, Int.reduceLT, Int.reduceAdd, Int.reduceSub, Int.reduceMul, wrap64, read1, over1, flat0, List.length_set, List.length_replicate, Int.natCast_inj, if_pos, if_neg]; rfl)) ?_
    exact ⟨[], _, (List.append_nil _).symm, by first | rfl | rfl, by (first | exact congrArg AV.bool (decide_eq_true (same_end hl (by omega) hI)).symm | exact congrArg AV.bool (decide_eq_false (fun e => by subst e; simp_all)).symm)⟩
  · try simp only [e1]
    have qe1 := e1; try simp only [decide_eq_true_eq, decide_eq_false_iff_not, Bool.not_eq_true', Bool.not_eq_false', Bool.not_eq_eq_eq_not, Bool.not_true, Bool.not_false, Int.not_le, Int.not_lt, beq_iff_eq, bne_iff_ne, ge_iff_le, gt_iff_lt, beq_eq_false_iff_ne, ne_eq, bne_eq_false_iff_eq] at qe1
    refine RunA.condF rfl ?_
    refine RunA.skip ?_
    change RunA _ _ _ _ _
    refine RunA.seq ?_
    refine RunA.seq ?_
    refine RunA.region good ?_
    refine OpsA.pre 1 (by simp (maxSteps := 2000000) (disch := omega) only [go_sem, Nat.reduceAdd, Nat.reduceSub, Nat.reduceLeDiff, Nat.reduceMul, reduceIte, reduceCtorEq, Int.reduceNeg, Int.reduceToNat, Nat.reduceLT, Int.reduceLE, Int.reduceLT, Int.reduceAdd, Int.reduceSub, Int.reduceMul, wrap64, read1, over1, flat0, List.length_set, List.length_replicate, Int.natCast_inj, if_pos, if_neg]; rfl) ?_
    refine OpsA.nil ?_
    change RunA _ _ _ _ _
    refine RunA.block ?_
    refine RunA.loopL (fun m st => ∃ (i : Nat), (m = a.length - i ∧ (∀ d, d < i → a.getD d 0 = b.getD d 0) ∧ i ≤ a.length) ∧ st = ⟨[vecI a, vecI b, .any, .any, .bool false, .int .i64 ((i : Nat) : Int), .any, .any, .any, .any, .any, .any, .any, .any, .any, .any, .any, .any, .any, .any, .any, .any, .any, .any, .any, .any], h⟩) _ ⟨[vecI a, vecI b, .any, .any, .bool false, .int .i64 ((0 : Nat) : Int), .any, .any, .any, .any, .any, .any, .any, .any, .any, .any, .any, .any, .any, .any, .any, .any, .any, .any, .any, .any], ⟨(.inl (by first | rfl | (congr 1; omega))), (.inl (by first | rfl | (congr 1; omega))), (.inr rfl), (.inr rfl), (.inl (by first | rfl | (congr 1; omega))), (.inl (by first | rfl | (congr 1; omega))), (.inr rfl), (.inr rfl), (.inr rfl), (.inr rfl), (.inr rfl), (.inr rfl), (.inr rfl), (.inr rfl), (.inr rfl), (.inr rfl), (.inr rfl), (.inr rfl), (.inr rfl), (.inr rfl), (.inr rfl), (.inr rfl), (.inr rfl), (.inr rfl), (.inr rfl), (.inr rfl), trivial⟩, 0, ⟨rfl, by intro d hd; omega, by omega⟩, rfl⟩ ?_
    rintro m sl h' ⟨i, ⟨hm, hI, hi⟩, hst⟩
    obtain ⟨rfl, rfl⟩ := St.mk.inj hst
    have hl : a.length = b.length := by omega
    refine RunA.seq ?_
    refine RunA.seq ?_
    refine RunA.region good ?_
    refine OpsA.pre 4 (by simp (maxSteps := 2000000) (disch := omega) only [go_sem, Nat.reduceAdd, Nat.reduceSub, Nat.reduceLeDiff, Nat.reduceMul, reduceIte, reduceCtorEq, Int.reduceNeg, Int.reduceToNat, Nat.reduceLT, Int.reduceLE, Int.reduceLT, Int.reduceAdd, Int.reduceSub, Int.reduceMul, wrap64, read1, over1, flat0, List.length_set, List.length_replicate, Int.natCast_inj, if_pos, if_neg]; rfl) ?_
    refine OpsA.nil ?_
    change RunA _ _ _ _ _
    refine RunA.split 14 rfl (fun e2 => ?_) (fun e2 => ?_)
    · try simp only [e2]
      have qe2 := e2; try simp only [decide_eq_true_eq, decide_eq_false_iff_not, Bool.not_eq_true', Bool.not_eq_false', Bool.not_eq_eq_eq_not, Bool.not_true, Bool.not_false, Int.not_le, Int.not_lt, beq_iff_eq, bne_iff_ne, ge_iff_le, gt_iff_lt, beq_eq_false_iff_ne, ne_eq, bne_eq_false_iff_eq] at qe2
      refine RunA.condT rfl ?_
      refine RunA.skip ?_
      change RunA _ _ _ _ _
      refine RunA.seq ?_
      refine RunA.block ?_
      refine RunA.seq ?_
      refine RunA.solo good plan36_6 (by kernel_rfl) (by kernel_rfl) ?_
      refine OpsS.pre 6 (by simp (maxSteps := 2000000) (disch := omega) only [go_sem, Nat.reduceAdd, Nat.reduceSub, Nat.reduceLeDiff, Nat.reduceMul, reduceIte, reduceCtorEq, Int.reduceNeg, Int.reduceToNat, Nat.reduceLT, Int.reduceLE, Int.reduceLT, Int.reduceAdd, Int.reduceSub, Int.reduceMul, wrap64, read1, over1, flat0, List.length_set, List.length_replicate, Int.natCast_inj, if_pos, if_neg, plan36_6E]; rfl) ?_
      refine OpsS.pre 3 (by simp (maxSteps := 2000000) (disch := omega) only [go_sem, Nat.reduceAdd, Nat.reduceSub, Nat.reduceLeDiff, Nat.reduceMul, reduceIte, reduceCtorEq, Int.reduceNeg, Int.reduceToNat, Nat.reduceLT, Int.reduceLE, Int.reduceLT, Int.reduceAdd, Int.reduceSub, Int.reduceMul, wrap64, read1, over1, flat0, List.length_set, List.length_replicate, Int.natCast_inj, if_pos, if_neg, plan36_6E]; rfl) ?_
      show _
      change RunA _ _ _ _ _
      refine RunA.split 25 rfl (fun e3 => ?_) (fun e3 => ?_)
      · try simp only [e3]
        have qe3 := e3; try simp only [decide_eq_true_eq, decide_eq_false_iff_not, Bool.not_eq_true', Bool.not_eq_false', Bool.not_eq_eq_eq_not, Bool.not_true, Bool.not_false, Int.not_le, Int.not_lt, beq_iff_eq, bne_iff_ne, ge_iff_le, gt_iff_lt, beq_eq_false_iff_ne, ne_eq, bne_eq_false_iff_eq] at qe3
        refine RunA.condT rfl ?_
        refine RunA.seq ?_
        refine RunA.region good ?_
        refine OpsA.pre 1 (by simp (maxSteps := 2000000) (disch := omega) only [go_sem, Nat.reduceAdd, Nat.reduceSub, Nat.reduceLeDiff, Nat.reduceMul, reduceIte, reduceCtorEq, Int.reduceNeg, Int.reduceToNat, Nat.reduceLT, Int.reduceLE, Int.reduceLT, Int.reduceAdd, Int.reduceSub, Int.reduceMul, wrap64, read1, over1, flat0, List.length_set, List.length_replicate, Int.natCast_inj, if_pos, if_neg]; rfl) ?_
        refine OpsA.nil ?_
        change RunA _ _ _ _ _
        refine RunA.ret ?_
        refine Ends.mk (by simp only [res36, resA, resAs, resA1]; first | rfl | (simp (maxSteps := 2000000) (disch := omega) only [go_sem, Nat.reduceAdd, Nat.reduceSub, Nat.reduceLeDiff, Nat.reduceMul, reduceIte, reduceCtorEq, Int.reduceNeg, Int.reduceToNat, Nat.reduceLT, Int.reduceLE, Int.reduceLT, Int.reduceAdd, Int.reduceSub, Int.reduceMul, wrap64, read1, over1, flat0, List.length_set, List.length_replicate, Int.natCast_inj, if_pos, if_neg]; rfl)) ?_
        exact ⟨[], _, (List.append_nil _).symm, by first | rfl | rfl, by (first | exact congrArg AV.bool (decide_eq_true (same_end hl (by omega) hI)).symm | exact congrArg AV.bool (decide_eq_false (fun e => by subst e; simp_all)).symm)⟩
      · try simp only [e3]
        have qe3 := e3; try simp only [decide_eq_true_eq, decide_eq_false_iff_not, Bool.not_eq_true', Bool.not_eq_false', Bool.not_eq_eq_eq_not, Bool.not_true, Bool.not_false, Int.not_le, Int.not_lt, beq_iff_eq, bne_iff_ne, ge_iff_le, gt_iff_lt, beq_eq_false_iff_ne, ne_eq, bne_eq_false_iff_eq] at qe3
        refine RunA.condF rfl ?_
        refine RunA.skip ?_
        change RunA _ _ _ _ _
        refine RunA.region good ?_
        refine OpsA.pre 3 (by simp (maxSteps := 2000000) (disch := omega) only [go_sem, Nat.reduceAdd, Nat.reduceSub, Nat.reduceLeDiff, Nat.reduceMul, reduceIte, reduceCtorEq, Int.reduceNeg, Int.reduceToNat, Nat.reduceLT, Int.reduceLE, Int.reduceLT, Int.reduceAdd, Int.reduceSub, Int.reduceMul, wrap64, read1, over1, flat0, List.length_set, List.length_replicate, Int.natCast_inj, if_pos, if_neg]; rfl) ?_
        refine OpsA.nil ?_
        exact ⟨a.length - (i + 1), by omega, [vecI a, vecI b, .any, .any, .bool false, .int .i64 (((i + 1) : Nat) : Int), .any, .any, .any, .any, .any, .any, .any, .any, .any, .any, .any, .any, .any, .any, .any, .any, .any, .any, .any, .any], ⟨(.inl (by first | rfl | (congr 1; omega))), (.inl (by first | rfl | (congr 1; omega))), (.inr rfl), (.inr rfl), (.inl (by first | rfl | (congr 1; omega))), (.inl (by first | rfl | (congr 1; omega))), (.inr rfl), (.inr rfl), (.inr rfl), (.inr rfl), (.inr rfl), (.inr rfl), (.inr rfl), (.inr rfl), (.inr rfl), (.inr rfl), (.inr rfl), (.inr rfl), (.inr rfl), (.inr rfl), (.inr rfl), (.inr rfl), (.inr rfl), (.inr rfl), (.inr rfl), (.inr rfl), trivial⟩, (i + 1), ⟨rfl, same_next hI (by assumption), by omega⟩, rfl⟩
    · try simp only [e2]
      have qe2 := e2; try simp only [decide_eq_true_eq, decide_eq_false_iff_not, Bool.not_eq_true', Bool.not_eq_false', Bool.not_eq_eq_eq_not, Bool.not_true, Bool.not_false, Int.not_le, Int.not_lt, beq_iff_eq, bne_iff_ne, ge_iff_le, gt_iff_lt, beq_eq_false_iff_ne, ne_eq, bne_eq_false_iff_eq] at qe2
      refine RunA.condF rfl ?_
      refine RunA.exit ?_
      change RunA _ _ _ _ _
      refine RunA.seq ?_
      refine RunA.region good ?_
      refine OpsA.pre 1 (by simp (maxSteps := 2000000) (disch := omega) only [go_sem, Nat.reduceAdd, Nat.reduceSub, Nat.reduceLeDiff, Nat.reduceMul, reduceIte, reduceCtorEq, Int.reduceNeg, Int.reduceToNat, Nat.reduceLT, Int.reduceLE, Int.reduceLT, Int.reduceAdd, Int.reduceSub, Int.reduceMul, wrap64, read1, over1, flat0, List.length_set, List.length_replicate, Int.natCast_inj, if_pos, if_neg]; rfl) ?_
      refine OpsA.nil ?_
      change RunA _ _ _ _ _
      refine RunA.ret ?_
      refine Ends.mk (by simp only [res36, resA, resAs, resA1]; first | rfl | (simp (maxSteps := 2000000) (disch := omega) only [go_sem, Nat.reduceAdd, Nat.reduceSub, Nat.reduceLeDiff, Nat.reduceMul, reduceIte, reduceCtorEq, Int.reduceNeg, Int.reduceToNat, Nat.reduceLT, Int.reduceLE, Int.reduceLT, Int.reduceAdd, Int.reduceSub, Int.reduceMul, wrap64, read1, over1, flat0, List.length_set, List.length_replicate, Int.natCast_inj, if_pos, if_neg]; rfl)) ?_
      exact ⟨[], _, (List.append_nil _).symm, by first | rfl | rfl, by (first | exact congrArg AV.bool (decide_eq_true (same_end hl (by omega) hI)).symm | exact congrArg AV.bool (decide_eq_false (fun e => by subst e; simp_all)).symm)⟩

end Go.Proofs.Ytlmclkamedhmhaa
