/-
  THE LAW EffectPath. Written in part by a program of mine (gen24d.py, walk.py). Conditions: none.
-/
import Derived.Test.YtlmclkamedhmhaaEff24F
import Derived.Test.YtlmclkamedhmhaaDep14B
import Derived.Test.YtlmclkamedhmhaaAbsLoopD
import Derived.Test.YtlmclkamedhmhaaAbsMulti
namespace Go.Proofs.Ytlmclkamedhmhaa
open Go.Ab
set_option linter.unusedSimpArgs false
set_option linter.unusedVariables false
set_option maxRecDepth 10000
set_option maxHeartbeats 2000000
attribute [local go_sem] opsE opsSE opsME List.contains_cons List.contains_nil Bool.or_true Bool.true_or Bool.or_false Bool.false_or stepS quietA wantA plainA pureA readA effA callPureA lenA minA maxA rho embT emb putA List.set List.getD_cons_zero List.getD_cons_succ List.getD_nil binA intBin isShift unA buildA fillA over partA loadA readAt writeAt newVarA virts addOff AV.cellsOf AV.storable AV.one UD.isAgg UD.known rd lenOf appendA boundA virtNone get_app get_app0 set_app set_app0 Array.toList List.take_succ_cons List.take_zero List.drop_succ_cons List.drop_zero List.getElem?_cons_succ List.getElem?_cons_zero List.getElem?_toArray Option.bind_some Option.map_some Option.map_none List.map_cons List.map_nil List.length_cons List.length_nil List.length_append Nat.zero_add Nat.add_zero Nat.le_refl Nat.one_mul Nat.mul_one List.append_assoc List.cons_append List.nil_append List.append_nil and_self and_true true_and true_or or_true if_true if_false Bool.false_eq_true not_false_eq_true bTT bTF bFT bFF Bool.not_true Bool.not_false decide_true decide_false Int.toNat_zero Int.toNat_one Int.toNat_natCast List.size_toArray ut3 sz3 ti3 ut4 sz4 ti4 ut23 sz23 ti23 ut34 sz34 ti34 ut61 sz61 ti61 vecI List.length_map Int.natCast_nonneg effV brokenE

theorem slice_lo {l : List Int} {k : Int} (h0 : 0 ≤ k) (h1 : k ≤ l.length) : sliceA cfg 34 (.vec l.length (l.map (.int .i64))) none (some (.int .i64 k)) = some (vecI (l.take k.toNat)) := by
  obtain ⟨n, rfl⟩ := Int.eq_ofNat_of_zero_le h0
  have h2 : n ≤ l.length := by omega
  simp only [sliceA, ut34, boundA, sz3, h0, h1, and_self, if_true, Option.bind_eq_bind, Option.bind_some, Nat.zero_mul, List.drop_zero, Nat.sub_zero, Nat.mul_one, Int.toNat_natCast, vecI, List.map_take, List.length_take, Nat.min_eq_left h2]
theorem slice_hi {l : List Int} {k : Int} (h0 : 0 ≤ k) (h1 : k ≤ l.length) : sliceA cfg 34 (.vec l.length (l.map (.int .i64))) (some (.int .i64 k)) none = some (vecI (l.drop k.toNat)) := by
  obtain ⟨n, rfl⟩ := Int.eq_ofNat_of_zero_le h0
  have h2 : n ≤ l.length := by omega
  simp only [sliceA, ut34, boundA, sz3, h0, h1, and_self, if_true, Option.bind_eq_bind, Option.bind_some, Nat.mul_one, Int.toNat_natCast, vecI, List.map_drop, List.length_drop]
  rw [List.take_of_length_le (by simp)]
theorem take_get (l : List Int) (k i : Nat) (h : ∀ i, -1 ≤ l.getD i 0 ∧ l.getD i 0 ≤ 1) : -1 ≤ (l.take k).getD i 0 ∧ (l.take k).getD i 0 ≤ 1 := by
  have := h i
  rw [List.getD_eq_getElem?_getD] at this ⊢
  rw [List.getElem?_take]
  split
  · exact this
  · simp
theorem drop_get (l : List Int) (k i : Nat) (h : ∀ i, -1 ≤ l.getD i 0 ∧ l.getD i 0 ≤ 1) : -1 ≤ (l.drop k).getD i 0 ∧ (l.drop k).getD i 0 ≤ 1 := by
  have := h (k + i)
  rw [List.getD_eq_getElem?_getD] at this ⊢
  rw [List.getElem?_drop]
  exact this

def plan5_7 : Plan := ⟨[[], [], [], [1, 2], [1, 2, 3], [1, 2, 3, 4], [0, 1, 2, 3, 4, 5], [0, 1, 2, 3, 4, 5, 6]], [false, false, false, false, false, false, false, true]⟩
theorem plan5_7E (i : Nat) : plan5_7.isE i = [false, false, false, false, false, false, false, true].getD i false := rfl

def plan5_9 : Plan := ⟨[[], [], [0, 1], [0, 1, 2], [0, 1, 2, 3], [0, 1, 2, 3, 4], [0, 1, 2, 3, 4, 5]], [false, false, false, false, false, false, false]⟩
theorem plan5_9E (i : Nat) : plan5_9.isE i = [false, false, false, false, false, false, false].getD i false := rfl

def plan5_13 : Plan := ⟨[[], [], [0, 1], [0, 1, 2], [0, 1, 2, 3], [0, 1, 2, 3, 4], [0, 1, 2, 3, 4, 5], [0, 1, 2, 3, 4, 5, 6], [0, 1, 2, 3, 4, 5, 6], [0, 1, 2, 3, 4, 5, 6, 7, 8], [0, 1, 2, 3, 4, 5, 6], [0, 1, 2, 3, 4, 5, 6, 7, 8, 9, 10], [0, 1, 2, 3, 4, 5, 6, 7, 8, 9, 10, 11], [0, 1, 2, 3, 4, 5, 6, 7, 8, 9, 10, 11, 12], [0, 1, 2, 3, 4, 5, 6, 7, 8, 9, 10, 11, 12, 13], [0, 1, 2, 3, 4, 5, 6, 7, 8, 9, 10, 11, 12, 13, 14], [0, 1, 2, 3, 4, 5, 6, 7, 8, 9, 10, 11, 12, 13, 14, 15], [0, 1, 2, 3, 4, 5, 6, 7, 8, 9, 10, 11, 12, 13, 14, 15, 16]], [false, false, false, false, false, false, false, false, false, false, false, false, false, false, false, false, false, false]⟩
theorem plan5_13E (i : Nat) : plan5_13.isE i = [false, false, false, false, false, false, false, false, false, false, false, false, false, false, false, false, false, false].getD i false := rfl

theorem c5 {h : Heap} (l : List Int) (q : Int) (hl : l.length < 9223372036854775808) : CallA Try.prog cfg 5 [vecI l, .int .i64 q] h (fun y' h' => y' = .bool true ∧ h' = h) := by
  have hcl := ch_len l
  have w0 := @within_lo q ((chL l).length + 1) (by omega); have w1 := @within_hi q ((chL l).length + 1) (by omega)
  refine CallA.body (Q := fun y' => y' = .bool true) good fn5 rfl ?_
  simp only [ntm5, List.length_cons, List.length_nil, Nat.reduceAdd, Nat.reduceSub, List.replicate, List.cons_append, List.nil_append]
  refine RunA.seq ?_
  refine RunA.region good ?_
  refine OpsA.pre 1 (by simp (maxSteps := 2000000) (disch := omega) only [go_sem, Nat.reduceBEq, Nat.reduceAdd, Nat.reduceSub, Nat.reduceLeDiff, Nat.reduceMul, reduceIte, reduceCtorEq, Int.reduceNeg, Int.reduceToNat, Nat.reduceLT, Int.reduceLE, Int.reduceLT, Int.reduceAdd, Int.reduceSub, Int.reduceMul, wrap64, read1, etaE, eqE, slice_lo, slice_hi, if_pos, if_neg]; rfl) ?_
  refine OpsA.nil ?_
  change RunA _ _ _ _ _
  refine RunA.seq ?_
  refine RunA.region good ?_
  refine OpsA.pre 1 (by simp (maxSteps := 2000000) (disch := omega) only [go_sem, Nat.reduceBEq, Nat.reduceAdd, Nat.reduceSub, Nat.reduceLeDiff, Nat.reduceMul, reduceIte, reduceCtorEq, Int.reduceNeg, Int.reduceToNat, Nat.reduceLT, Int.reduceLE, Int.reduceLT, Int.reduceAdd, Int.reduceSub, Int.reduceMul, wrap64, read1, etaE, eqE, slice_lo, slice_hi, if_pos, if_neg]; rfl) ?_
  refine OpsA.callQ rfl rfl rfl hb28 (c28 l hl) ?_
  refine OpsA.pre 1 (by simp (maxSteps := 2000000) (disch := omega) only [go_sem, Nat.reduceBEq, Nat.reduceAdd, Nat.reduceSub, Nat.reduceLeDiff, Nat.reduceMul, reduceIte, reduceCtorEq, Int.reduceNeg, Int.reduceToNat, Nat.reduceLT, Int.reduceLE, Int.reduceLT, Int.reduceAdd, Int.reduceSub, Int.reduceMul, wrap64, read1, etaE, eqE, slice_lo, slice_hi, if_pos, if_neg]; rfl) ?_
  refine OpsA.nil ?_
  change RunA _ _ _ _ _
  refine RunA.seq ?_
  refine RunA.region good ?_
  refine OpsA.pre 1 (by simp (maxSteps := 2000000) (disch := omega) only [go_sem, Nat.reduceBEq, Nat.reduceAdd, Nat.reduceSub, Nat.reduceLeDiff, Nat.reduceMul, reduceIte, reduceCtorEq, Int.reduceNeg, Int.reduceToNat, Nat.reduceLT, Int.reduceLE, Int.reduceLT, Int.reduceAdd, Int.reduceSub, Int.reduceMul, wrap64, read1, etaE, eqE, slice_lo, slice_hi, if_pos, if_neg]; rfl) ?_
  refine OpsA.callQ rfl rfl rfl hb29 (c29 _ (by omega) (ch_get l)) ?_
  refine OpsA.pre 6 (by simp (maxSteps := 2000000) (disch := omega) only [go_sem, Nat.reduceBEq, Nat.reduceAdd, Nat.reduceSub, Nat.reduceLeDiff, Nat.reduceMul, reduceIte, reduceCtorEq, Int.reduceNeg, Int.reduceToNat, Nat.reduceLT, Int.reduceLE, Int.reduceLT, Int.reduceAdd, Int.reduceSub, Int.reduceMul, wrap64, read1, etaE, eqE, slice_lo, slice_hi, if_pos, if_neg]; rfl) ?_
  refine OpsA.nil ?_
  change RunA _ _ _ _ _
  refine RunA.seq ?_
  refine RunA.region good ?_
  refine OpsA.pre 3 (by simp (maxSteps := 2000000) (disch := omega) only [go_sem, Nat.reduceBEq, Nat.reduceAdd, Nat.reduceSub, Nat.reduceLeDiff, Nat.reduceMul, reduceIte, reduceCtorEq, Int.reduceNeg, Int.reduceToNat, Nat.reduceLT, Int.reduceLE, Int.reduceLT, Int.reduceAdd, Int.reduceSub, Int.reduceMul, wrap64, read1, etaE, eqE, slice_lo, slice_hi, if_pos, if_neg]; rfl) ?_
  refine OpsA.nil ?_
  change RunA _ _ _ _ _
  refine RunA.seq ?_
  refine RunA.seq ?_
  refine RunA.region good ?_
  refine OpsA.pre 1 (by simp (maxSteps := 2000000) (disch := omega) only [go_sem, Nat.reduceBEq, Nat.reduceAdd, Nat.reduceSub, Nat.reduceLeDiff, Nat.reduceMul, reduceIte, reduceCtorEq, Int.reduceNeg, Int.reduceToNat, Nat.reduceLT, Int.reduceLE, Int.reduceLT, Int.reduceAdd, Int.reduceSub, Int.reduceMul, wrap64, read1, etaE, eqE, slice_lo, slice_hi, if_pos, if_neg]; rfl) ?_
  refine OpsA.nil ?_
  change RunA _ _ _ _ _
  refine RunA.block ?_
  refine RunA.loopL (fun m st => ∃ (i : Nat), (m = (chL l).length - i ∧ i ≤ (chL l).length) ∧ st = ⟨[vecI l, .int .i64 q, .any, .any, .bool false, vecI (chL l), .ptr h.length 0 0, .bool (decide (goodP (pathE (chL l)))), .ptr (h.length + 1) 0 0, .int .i64 ((i : Nat) : Int), .any, .any, .any, .any, .any, .any, .any, .any, .any, .any, .any, .any, .any, .any, .any, .any, .any, .any, .any, .any, .any, .any, .any, .any, .any, .any, .any, .any, .any, .any, .any, .any, .any, .any, .any, .any, .any, .any, .any, .any, .any, .any, .any, .any, .any, .any, .any, .any, .any, .any, .any, .any, .any, .any, .any, .any, .any, .any, .any, .any, .any, .any, .any, .any, .any, .any, .any, .any, .any, .any], h ++ [⟨0, false, 23, 3, [.int .i64 (pathE (chL l) : E).low, .int .i64 (pathE (chL l) : E).high, .int .i64 (pathE (chL l) : E).net]⟩, ⟨0, false, 23, 3, [.int .i64 (thenTo (chL l) i : E).low, .int .i64 (thenTo (chL l) i : E).high, .int .i64 (thenTo (chL l) i : E).net]⟩]⟩) _ ⟨[vecI l, .int .i64 q, .any, .any, .bool false, vecI (chL l), .ptr h.length 0 0, .bool (decide (goodP (pathE (chL l)))), .ptr (h.length + 1) 0 0, .int .i64 ((0 : Nat) : Int), .any, .any, .any, .any, .any, .any, .any, .any, .any, .any, .any, .any, .any, .any, .any, .any, .any, .any, .any, .any, .any, .any, .any, .any, .any, .any, .any, .any, .any, .any, .any, .any, .any, .any, .any, .any, .any, .any, .any, .any, .any, .any, .any, .any, .any, .any, .any, .any, .any, .any, .any, .any, .any, .any, .any, .any, .any, .any, .any, .any, .any, .any, .any, .any, .any, .any, .any, .any, .any, .any], ⟨(.inl (by first | rfl | (congr 1; omega))), (.inl (by first | rfl | (congr 1; omega))), (.inr rfl), (.inr rfl), (.inl (by first | rfl | (congr 1; omega))), (.inl (by first | rfl | (congr 1; omega))), (.inl (by first | rfl | (congr 1; omega))), (.inl (by first | rfl | (congr 1; omega))), (.inl (by first | rfl | (congr 1; omega))), (.inl (by first | rfl | (congr 1; omega))), (.inr rfl), (.inr rfl), (.inr rfl), (.inr rfl), (.inr rfl), (.inr rfl), (.inr rfl), (.inr rfl), (.inr rfl), (.inr rfl), (.inr rfl), (.inr rfl), (.inr rfl), (.inr rfl), (.inr rfl), (.inr rfl), (.inr rfl), (.inr rfl), (.inr rfl), (.inr rfl), (.inr rfl), (.inr rfl), (.inr rfl), (.inr rfl), (.inr rfl), (.inr rfl), (.inr rfl), (.inr rfl), (.inr rfl), (.inr rfl), (.inr rfl), (.inr rfl), (.inr rfl), (.inr rfl), (.inr rfl), (.inr rfl), (.inr rfl), (.inr rfl), (.inr rfl), (.inr rfl), (.inr rfl), (.inr rfl), (.inr rfl), (.inr rfl), (.inr rfl), (.inr rfl), (.inr rfl), (.inr rfl), (.inr rfl), (.inr rfl), (.inr rfl), (.inr rfl), (.inr rfl), (.inr rfl), (.inr rfl), (.inr rfl), (.inr rfl), (.inr rfl), (.inr rfl), (.inr rfl), (.inr rfl), (.inr rfl), (.inr rfl), (.inr rfl), (.inr rfl), (.inr rfl), (.inr rfl), (.inr rfl), (.inr rfl), (.inr rfl), trivial⟩, 0, ⟨rfl, by omega⟩, rfl⟩ ?_
  rintro m sl h' ⟨i, ⟨hm, hi⟩, hst⟩
  obtain ⟨rfl, rfl⟩ := St.mk.inj hst
  have hc := ch_get l i
  refine RunA.seq ?_
  refine RunA.seq ?_
  refine RunA.region good ?_
  refine OpsA.pre 4 (by simp (maxSteps := 2000000) (disch := omega) only [go_sem, Nat.reduceBEq, Nat.reduceAdd, Nat.reduceSub, Nat.reduceLeDiff, Nat.reduceMul, reduceIte, reduceCtorEq, Int.reduceNeg, Int.reduceToNat, Nat.reduceLT, Int.reduceLE, Int.reduceLT, Int.reduceAdd, Int.reduceSub, Int.reduceMul, wrap64, read1, etaE, eqE, slice_lo, slice_hi, if_pos, if_neg]; rfl) ?_
  refine OpsA.nil ?_
  change RunA _ _ _ _ _
  refine RunA.split 26 rfl (fun e1 => ?_) (fun e1 => ?_)
  · try simp only [e1]
    have qe1 := e1; try simp only [decide_eq_true_eq, decide_eq_false_iff_not, Bool.not_eq_true', Bool.not_eq_false', Bool.not_eq_eq_eq_not, Bool.not_true, Bool.not_false, Int.not_le, Int.not_lt, beq_iff_eq, bne_iff_ne, ge_iff_le, gt_iff_lt, beq_eq_false_iff_ne, ne_eq, bne_eq_false_iff_eq] at qe1
    refine RunA.condT rfl ?_
    refine RunA.skip ?_
    change RunA _ _ _ _ _
    refine RunA.seq ?_
    refine RunA.block ?_
    refine RunA.solo good plan5_7 (by kernel_rfl) (by kernel_rfl) ?_
    refine OpsS.pre 5 (by simp (maxSteps := 2000000) (disch := omega) only [go_sem, Nat.reduceBEq, Nat.reduceAdd, Nat.reduceSub, Nat.reduceLeDiff, Nat.reduceMul, reduceIte, reduceCtorEq, Int.reduceNeg, Int.reduceToNat, Nat.reduceLT, Int.reduceLE, Int.reduceLT, Int.reduceAdd, Int.reduceSub, Int.reduceMul, wrap64, read1, etaE, eqE, slice_lo, slice_hi, if_pos, if_neg, plan5_7E]; rfl) ?_
    refine OpsS.call rfl rfl rfl hb17 (c17 _) ?_
    refine OpsS.call rfl rfl rfl hb24 (d24 _ _ _ _ _ _) ?_
    refine OpsS.pre 1 (by simp (maxSteps := 2000000) (disch := omega) only [go_sem, Nat.reduceBEq, Nat.reduceAdd, Nat.reduceSub, Nat.reduceLeDiff, Nat.reduceMul, reduceIte, reduceCtorEq, Int.reduceNeg, Int.reduceToNat, Nat.reduceLT, Int.reduceLE, Int.reduceLT, Int.reduceAdd, Int.reduceSub, Int.reduceMul, wrap64, read1, etaE, eqE, slice_lo, slice_hi, if_pos, if_neg, plan5_7E]; rfl) ?_
    show _
    change RunA _ _ _ _ _
    refine RunA.region good ?_
    refine OpsA.pre 3 (by simp (maxSteps := 2000000) (disch := omega) only [go_sem, Nat.reduceBEq, Nat.reduceAdd, Nat.reduceSub, Nat.reduceLeDiff, Nat.reduceMul, reduceIte, reduceCtorEq, Int.reduceNeg, Int.reduceToNat, Nat.reduceLT, Int.reduceLE, Int.reduceLT, Int.reduceAdd, Int.reduceSub, Int.reduceMul, wrap64, read1, etaE, eqE, slice_lo, slice_hi, if_pos, if_neg]; rfl) ?_
    refine OpsA.nil ?_
    exact ⟨(chL l).length - (i + 1), by omega, [vecI l, .int .i64 q, .any, .any, .bool false, vecI (chL l), .ptr h.length 0 0, .bool (decide (goodP (pathE (chL l)))), .ptr (h.length + 1) 0 0, .int .i64 (((i + 1) : Nat) : Int), .any, .any, .any, .any, .any, .any, .any, .any, .any, .any, .any, .any, .any, .any, .any, .any, .any, .any, .any, .any, .any, .any, .any, .any, .any, .any, .any, .any, .any, .any, .any, .any, .any, .any, .any, .any, .any, .any, .any, .any, .any, .any, .any, .any, .any, .any, .any, .any, .any, .any, .any, .any, .any, .any, .any, .any, .any, .any, .any, .any, .any, .any, .any, .any, .any, .any, .any, .any, .any, .any], ⟨(.inl (by first | rfl | (congr 1; omega))), (.inl (by first | rfl | (congr 1; omega))), (.inr rfl), (.inr rfl), (.inl (by first | rfl | (congr 1; omega))), (.inl (by first | rfl | (congr 1; omega))), (.inl (by first | rfl | (congr 1; omega))), (.inl (by first | rfl | (congr 1; omega))), (.inl (by first | rfl | (congr 1; omega))), (.inl (by first | rfl | (congr 1; omega))), (.inr rfl), (.inr rfl), (.inr rfl), (.inr rfl), (.inr rfl), (.inr rfl), (.inr rfl), (.inr rfl), (.inr rfl), (.inr rfl), (.inr rfl), (.inr rfl), (.inr rfl), (.inr rfl), (.inr rfl), (.inr rfl), (.inr rfl), (.inr rfl), (.inr rfl), (.inr rfl), (.inr rfl), (.inr rfl), (.inr rfl), (.inr rfl), (.inr rfl), (.inr rfl), (.inr rfl), (.inr rfl), (.inr rfl), (.inr rfl), (.inr rfl), (.inr rfl), (.inr rfl), (.inr rfl), (.inr rfl), (.inr rfl), (.inr rfl), (.inr rfl), (.inr rfl), (.inr rfl), (.inr rfl), (.inr rfl), (.inr rfl), (.inr rfl), (.inr rfl), (.inr rfl), (.inr rfl), (.inr rfl), (.inr rfl), (.inr rfl), (.inr rfl), (.inr rfl), (.inr rfl), (.inr rfl), (.inr rfl), (.inr rfl), (.inr rfl), (.inr rfl), (.inr rfl), (.inr rfl), (.inr rfl), (.inr rfl), (.inr rfl), (.inr rfl), (.inr rfl), (.inr rfl), (.inr rfl), (.inr rfl), (.inr rfl), (.inr rfl), trivial⟩, (i + 1), ⟨rfl, by omega⟩, rfl⟩
  · try simp only [e1]
    have qe1 := e1; try simp only [decide_eq_true_eq, decide_eq_false_iff_not, Bool.not_eq_true', Bool.not_eq_false', Bool.not_eq_eq_eq_not, Bool.not_true, Bool.not_false, Int.not_le, Int.not_lt, beq_iff_eq, bne_iff_ne, ge_iff_le, gt_iff_lt, beq_eq_false_iff_ne, ne_eq, bne_eq_false_iff_eq] at qe1
    refine RunA.condF rfl ?_
    refine RunA.exit ?_
    have hil : i = (chL l).length := by omega
    subst hil
    have hT := then_path (ch_get l) (chL l).length
    change RunA _ _ _ _ _
    refine RunA.seq ?_
    refine RunA.seq ?_
    refine RunA.region good ?_
    refine OpsA.pre 2 (by simp (maxSteps := 2000000) (disch := omega) only [go_sem, Nat.reduceBEq, Nat.reduceAdd, Nat.reduceSub, Nat.reduceLeDiff, Nat.reduceMul, reduceIte, reduceCtorEq, Int.reduceNeg, Int.reduceToNat, Nat.reduceLT, Int.reduceLE, Int.reduceLT, Int.reduceAdd, Int.reduceSub, Int.reduceMul, wrap64, read1, etaE, eqE, slice_lo, slice_hi, if_pos, if_neg]; rfl) ?_
    refine OpsA.nil ?_
    change RunA _ _ _ _ _
    refine RunA.split 37 rfl (fun e2 => ?_) (fun e2 => ?_)
    · try simp only [e2]
      have qe2 := e2; try simp only [decide_eq_true_eq, decide_eq_false_iff_not, Bool.not_eq_true', Bool.not_eq_false', Bool.not_eq_eq_eq_not, Bool.not_true, Bool.not_false, Int.not_le, Int.not_lt, beq_iff_eq, bne_iff_ne, ge_iff_le, gt_iff_lt, beq_eq_false_iff_ne, ne_eq, bne_eq_false_iff_eq] at qe2
      refine RunA.condT rfl ?_
      refine RunA.seq ?_
      refine RunA.solo good plan5_9 (by kernel_rfl) (by kernel_rfl) ?_
      refine OpsS.pre 1 (by simp (maxSteps := 2000000) (disch := omega) only [go_sem, Nat.reduceBEq, Nat.reduceAdd, Nat.reduceSub, Nat.reduceLeDiff, Nat.reduceMul, reduceIte, reduceCtorEq, Int.reduceNeg, Int.reduceToNat, Nat.reduceLT, Int.reduceLE, Int.reduceLT, Int.reduceAdd, Int.reduceSub, Int.reduceMul, wrap64, read1, etaE, eqE, slice_lo, slice_hi, if_pos, if_neg, plan5_9E]; rfl) ?_
      refine OpsS.call rfl rfl rfl hb19 (c19) ?_
      refine OpsS.pre 2 (by simp (maxSteps := 2000000) (disch := omega) only [go_sem, Nat.reduceBEq, Nat.reduceAdd, Nat.reduceSub, Nat.reduceLeDiff, Nat.reduceMul, reduceIte, reduceCtorEq, Int.reduceNeg, Int.reduceToNat, Nat.reduceLT, Int.reduceLE, Int.reduceLT, Int.reduceAdd, Int.reduceSub, Int.reduceMul, wrap64, read1, etaE, eqE, slice_lo, slice_hi, if_pos, if_neg, plan5_9E]; rfl) ?_
      refine OpsS.split 41 rfl (fun e3 => ?_) (fun e3 => ?_)
      · try simp only [e3]
        have qe3 := e3; try simp only [decide_eq_true_eq, decide_eq_false_iff_not, Bool.not_eq_true', Bool.not_eq_false', Bool.not_eq_eq_eq_not, Bool.not_true, Bool.not_false, Int.not_le, Int.not_lt, beq_iff_eq, bne_iff_ne, ge_iff_le, gt_iff_lt, beq_eq_false_iff_ne, ne_eq, bne_eq_false_iff_eq] at qe3
        refine OpsS.call rfl rfl rfl hb23 (c23) ?_
        refine OpsS.pre 2 (by simp (maxSteps := 2000000) (disch := omega) only [go_sem, Nat.reduceBEq, Nat.reduceAdd, Nat.reduceSub, Nat.reduceLeDiff, Nat.reduceMul, reduceIte, reduceCtorEq, Int.reduceNeg, Int.reduceToNat, Nat.reduceLT, Int.reduceLE, Int.reduceLT, Int.reduceAdd, Int.reduceSub, Int.reduceMul, wrap64, read1, etaE, eqE, slice_lo, slice_hi, if_pos, if_neg, plan5_9E]; rfl) ?_
        show _
        change RunA _ _ _ _ _
        refine RunA.ret ?_
        refine Ends.mk (by simp only [res5, resA, resAs, resA1]; first | rfl | (simp (maxSteps := 2000000) (disch := omega) only [go_sem, Nat.reduceBEq, Nat.reduceAdd, Nat.reduceSub, Nat.reduceLeDiff, Nat.reduceMul, reduceIte, reduceCtorEq, Int.reduceNeg, Int.reduceToNat, Nat.reduceLT, Int.reduceLE, Int.reduceLT, Int.reduceAdd, Int.reduceSub, Int.reduceMul, wrap64, read1, etaE, eqE, slice_lo, slice_hi, if_pos, if_neg, plan5_9E]; rfl)) ?_
        exact ⟨_, _, rfl, by first | rfl | (simp only [frzT, frzP, optMap, get_app, get_app0]; rfl), by rfl⟩
      · exfalso; have t := hT.2 (by assumption); simp [t, brokenE] at e3
    · try simp only [e2]
      have qe2 := e2; try simp only [decide_eq_true_eq, decide_eq_false_iff_not, Bool.not_eq_true', Bool.not_eq_false', Bool.not_eq_eq_eq_not, Bool.not_true, Bool.not_false, Int.not_le, Int.not_lt, beq_iff_eq, bne_iff_ne, ge_iff_le, gt_iff_lt, beq_eq_false_iff_ne, ne_eq, bne_eq_false_iff_eq] at qe2
      refine RunA.condF rfl ?_
      refine RunA.skip ?_
      change RunA _ _ _ _ _
      refine RunA.seq ?_
      refine RunA.region good ?_
      refine OpsA.pre 4 (by simp (maxSteps := 2000000) (disch := omega) only [go_sem, Nat.reduceBEq, Nat.reduceAdd, Nat.reduceSub, Nat.reduceLeDiff, Nat.reduceMul, reduceIte, reduceCtorEq, Int.reduceNeg, Int.reduceToNat, Nat.reduceLT, Int.reduceLE, Int.reduceLT, Int.reduceAdd, Int.reduceSub, Int.reduceMul, wrap64, read1, etaE, eqE, slice_lo, slice_hi, if_pos, if_neg]; rfl) ?_
      refine OpsA.callQ rfl rfl rfl hb16 (c16 _ _ (by omega) (by omega)) ?_
      refine OpsA.pre 1 (by simp (maxSteps := 2000000) (disch := omega) only [go_sem, Nat.reduceBEq, Nat.reduceAdd, Nat.reduceSub, Nat.reduceLeDiff, Nat.reduceMul, reduceIte, reduceCtorEq, Int.reduceNeg, Int.reduceToNat, Nat.reduceLT, Int.reduceLE, Int.reduceLT, Int.reduceAdd, Int.reduceSub, Int.reduceMul, wrap64, read1, etaE, eqE, slice_lo, slice_hi, if_pos, if_neg]; rfl) ?_
      refine OpsA.nil ?_
      change RunA _ _ _ _ _
      refine RunA.seq ?_
      refine RunA.region good ?_
      refine OpsA.pre 3 (by simp (maxSteps := 2000000) (disch := omega) only [go_sem, Nat.reduceBEq, Nat.reduceAdd, Nat.reduceSub, Nat.reduceLeDiff, Nat.reduceMul, reduceIte, reduceCtorEq, Int.reduceNeg, Int.reduceToNat, Nat.reduceLT, Int.reduceLE, Int.reduceLT, Int.reduceAdd, Int.reduceSub, Int.reduceMul, wrap64, read1, etaE, eqE, slice_lo, slice_hi, if_pos, if_neg]; rfl) ?_
      refine OpsA.callQ rfl rfl rfl hb29 (c29 _ (by simp only [List.length_take]; omega) (fun i => take_get _ _ i (ch_get l))) ?_
      refine OpsA.pre 6 (by simp (maxSteps := 2000000) (disch := omega) only [go_sem, Nat.reduceBEq, Nat.reduceAdd, Nat.reduceSub, Nat.reduceLeDiff, Nat.reduceMul, reduceIte, reduceCtorEq, Int.reduceNeg, Int.reduceToNat, Nat.reduceLT, Int.reduceLE, Int.reduceLT, Int.reduceAdd, Int.reduceSub, Int.reduceMul, wrap64, read1, etaE, eqE, slice_lo, slice_hi, if_pos, if_neg]; rfl) ?_
      refine OpsA.nil ?_
      change RunA _ _ _ _ _
      refine RunA.seq ?_
      refine RunA.region good ?_
      refine OpsA.pre 3 (by simp (maxSteps := 2000000) (disch := omega) only [go_sem, Nat.reduceBEq, Nat.reduceAdd, Nat.reduceSub, Nat.reduceLeDiff, Nat.reduceMul, reduceIte, reduceCtorEq, Int.reduceNeg, Int.reduceToNat, Nat.reduceLT, Int.reduceLE, Int.reduceLT, Int.reduceAdd, Int.reduceSub, Int.reduceMul, wrap64, read1, etaE, eqE, slice_lo, slice_hi, if_pos, if_neg]; rfl) ?_
      refine OpsA.callQ rfl rfl rfl hb29 (c29 _ (by simp only [List.length_drop]; omega) (fun i => drop_get _ _ i (ch_get l))) ?_
      refine OpsA.pre 6 (by simp (maxSteps := 2000000) (disch := omega) only [go_sem, Nat.reduceBEq, Nat.reduceAdd, Nat.reduceSub, Nat.reduceLeDiff, Nat.reduceMul, reduceIte, reduceCtorEq, Int.reduceNeg, Int.reduceToNat, Nat.reduceLT, Int.reduceLE, Int.reduceLT, Int.reduceAdd, Int.reduceSub, Int.reduceMul, wrap64, read1, etaE, eqE, slice_lo, slice_hi, if_pos, if_neg]; rfl) ?_
      refine OpsA.nil ?_
      change RunA _ _ _ _ _
      refine RunA.seq ?_
      refine RunA.solo good plan5_13 (by kernel_rfl) (by kernel_rfl) ?_
      refine OpsS.pre 4 (by simp (maxSteps := 2000000) (disch := omega) only [go_sem, Nat.reduceBEq, Nat.reduceAdd, Nat.reduceSub, Nat.reduceLeDiff, Nat.reduceMul, reduceIte, reduceCtorEq, Int.reduceNeg, Int.reduceToNat, Nat.reduceLT, Int.reduceLE, Int.reduceLT, Int.reduceAdd, Int.reduceSub, Int.reduceMul, wrap64, read1, etaE, eqE, slice_lo, slice_hi, if_pos, if_neg, plan5_13E]; rfl) ?_
      refine OpsS.split 66 rfl (fun e4 => ?_) (fun e4 => ?_)
      · try simp only [e4]
        have qe4 := e4; try simp only [decide_eq_true_eq, decide_eq_false_iff_not, Bool.not_eq_true', Bool.not_eq_false', Bool.not_eq_eq_eq_not, Bool.not_true, Bool.not_false, Int.not_le, Int.not_lt, beq_iff_eq, bne_iff_ne, ge_iff_le, gt_iff_lt, beq_eq_false_iff_ne, ne_eq, bne_eq_false_iff_eq] at qe4
        refine OpsS.pre 3 (by simp (maxSteps := 2000000) (disch := omega) only [go_sem, Nat.reduceBEq, Nat.reduceAdd, Nat.reduceSub, Nat.reduceLeDiff, Nat.reduceMul, reduceIte, reduceCtorEq, Int.reduceNeg, Int.reduceToNat, Nat.reduceLT, Int.reduceLE, Int.reduceLT, Int.reduceAdd, Int.reduceSub, Int.reduceMul, wrap64, read1, etaE, eqE, slice_lo, slice_hi, if_pos, if_neg, plan5_13E]; rfl) ?_
        refine OpsS.split 69 rfl (fun e5 => ?_) (fun e5 => ?_)
        · try simp only [e5]
          have qe5 := e5; try simp only [decide_eq_true_eq, decide_eq_false_iff_not, Bool.not_eq_true', Bool.not_eq_false', Bool.not_eq_eq_eq_not, Bool.not_true, Bool.not_false, Int.not_le, Int.not_lt, beq_iff_eq, bne_iff_ne, ge_iff_le, gt_iff_lt, beq_eq_false_iff_ne, ne_eq, bne_eq_false_iff_eq] at qe5
          refine OpsS.pre 6 (by simp (maxSteps := 2000000) (disch := omega) only [go_sem, Nat.reduceBEq, Nat.reduceAdd, Nat.reduceSub, Nat.reduceLeDiff, Nat.reduceMul, reduceIte, reduceCtorEq, Int.reduceNeg, Int.reduceToNat, Nat.reduceLT, Int.reduceLE, Int.reduceLT, Int.reduceAdd, Int.reduceSub, Int.reduceMul, wrap64, read1, etaE, eqE, slice_lo, slice_hi, if_pos, if_neg, plan5_13E]; rfl) ?_
          refine OpsS.pre 2 (by simp (maxSteps := 2000000) (disch := omega) only [go_sem, Nat.reduceBEq, Nat.reduceAdd, Nat.reduceSub, Nat.reduceLeDiff, Nat.reduceMul, reduceIte, reduceCtorEq, Int.reduceNeg, Int.reduceToNat, Nat.reduceLT, Int.reduceLE, Int.reduceLT, Int.reduceAdd, Int.reduceSub, Int.reduceMul, wrap64, read1, etaE, eqE, slice_lo, slice_hi, if_pos, if_neg, plan5_13E]; rfl) ?_
          refine OpsS.call rfl rfl rfl hb23 (c23) ?_
          refine OpsS.pre 2 (by simp (maxSteps := 2000000) (disch := omega) only [go_sem, Nat.reduceBEq, Nat.reduceAdd, Nat.reduceSub, Nat.reduceLeDiff, Nat.reduceMul, reduceIte, reduceCtorEq, Int.reduceNeg, Int.reduceToNat, Nat.reduceLT, Int.reduceLE, Int.reduceLT, Int.reduceAdd, Int.reduceSub, Int.reduceMul, wrap64, read1, etaE, eqE, slice_lo, slice_hi, if_pos, if_neg, plan5_13E]; rfl) ?_
          show _
          change RunA _ _ _ _ _
          refine RunA.ret ?_
          refine Ends.mk (by simp only [res5, resA, resAs, resA1]; first | rfl | (simp (maxSteps := 2000000) (disch := omega) only [go_sem, Nat.reduceBEq, Nat.reduceAdd, Nat.reduceSub, Nat.reduceLeDiff, Nat.reduceMul, reduceIte, reduceCtorEq, Int.reduceNeg, Int.reduceToNat, Nat.reduceLT, Int.reduceLE, Int.reduceLT, Int.reduceAdd, Int.reduceSub, Int.reduceMul, wrap64, read1, etaE, eqE, slice_lo, slice_hi, if_pos, if_neg, plan5_13E]; rfl)) ?_
          exact ⟨_, _, rfl, by first | rfl | (simp only [frzT, frzP, optMap, get_app, get_app0]; rfl), by rfl⟩
        · try simp only [e5]
          have qe5 := e5; try simp only [decide_eq_true_eq, decide_eq_false_iff_not, Bool.not_eq_true', Bool.not_eq_false', Bool.not_eq_eq_eq_not, Bool.not_true, Bool.not_false, Int.not_le, Int.not_lt, beq_iff_eq, bne_iff_ne, ge_iff_le, gt_iff_lt, beq_eq_false_iff_ne, ne_eq, bne_eq_false_iff_eq] at qe5
          refine OpsS.pre 2 (by simp (maxSteps := 2000000) (disch := omega) only [go_sem, Nat.reduceBEq, Nat.reduceAdd, Nat.reduceSub, Nat.reduceLeDiff, Nat.reduceMul, reduceIte, reduceCtorEq, Int.reduceNeg, Int.reduceToNat, Nat.reduceLT, Int.reduceLE, Int.reduceLT, Int.reduceAdd, Int.reduceSub, Int.reduceMul, wrap64, read1, etaE, eqE, slice_lo, slice_hi, if_pos, if_neg, plan5_13E]; rfl) ?_
          refine OpsS.call rfl rfl rfl hb24 (d24 _ _ _ _ _ _) ?_
          refine OpsS.pre 5 (by simp (maxSteps := 2000000) (disch := omega) only [go_sem, Nat.reduceBEq, Nat.reduceAdd, Nat.reduceSub, Nat.reduceLeDiff, Nat.reduceMul, reduceIte, reduceCtorEq, Int.reduceNeg, Int.reduceToNat, Nat.reduceLT, Int.reduceLE, Int.reduceLT, Int.reduceAdd, Int.reduceSub, Int.reduceMul, wrap64, read1, etaE, eqE, slice_lo, slice_hi, if_pos, if_neg, plan5_13E]; rfl) ?_
          refine OpsS.split 77 rfl (fun e6 => ?_) (fun e6 => ?_)
          · try simp only [e6]
            have qe6 := e6; try simp only [decide_eq_true_eq, decide_eq_false_iff_not, Bool.not_eq_true', Bool.not_eq_false', Bool.not_eq_eq_eq_not, Bool.not_true, Bool.not_false, Int.not_le, Int.not_lt, beq_iff_eq, bne_iff_ne, ge_iff_le, gt_iff_lt, beq_eq_false_iff_ne, ne_eq, bne_eq_false_iff_eq] at qe6
            refine OpsS.call rfl rfl rfl hb23 (c23) ?_
            refine OpsS.pre 2 (by simp (maxSteps := 2000000) (disch := omega) only [go_sem, Nat.reduceBEq, Nat.reduceAdd, Nat.reduceSub, Nat.reduceLeDiff, Nat.reduceMul, reduceIte, reduceCtorEq, Int.reduceNeg, Int.reduceToNat, Nat.reduceLT, Int.reduceLE, Int.reduceLT, Int.reduceAdd, Int.reduceSub, Int.reduceMul, wrap64, read1, etaE, eqE, slice_lo, slice_hi, if_pos, if_neg, plan5_13E]; rfl) ?_
            show _
            change RunA _ _ _ _ _
            refine RunA.ret ?_
            refine Ends.mk (by simp only [res5, resA, resAs, resA1]; first | rfl | (simp (maxSteps := 2000000) (disch := omega) only [go_sem, Nat.reduceBEq, Nat.reduceAdd, Nat.reduceSub, Nat.reduceLeDiff, Nat.reduceMul, reduceIte, reduceCtorEq, Int.reduceNeg, Int.reduceToNat, Nat.reduceLT, Int.reduceLE, Int.reduceLT, Int.reduceAdd, Int.reduceSub, Int.reduceMul, wrap64, read1, etaE, eqE, slice_lo, slice_hi, if_pos, if_neg, plan5_13E]; rfl)) ?_
            exact ⟨_, _, rfl, by first | rfl | (simp only [frzT, frzP, optMap, get_app, get_app0]; rfl), by rfl⟩
          · exfalso; first | (cases e6; done) | (exact absurd e6 (by decide)) | (have t := path_split (l := chL l) (k := (within q ((chL l).length + 1)).toNat) (by omega) (by assumption) (by assumption); simp [t] at e6)
      · exfalso; have t := hT.1 (by assumption); simp [t, pathE] at e4

end Go.Proofs.Ytlmclkamedhmhaa
