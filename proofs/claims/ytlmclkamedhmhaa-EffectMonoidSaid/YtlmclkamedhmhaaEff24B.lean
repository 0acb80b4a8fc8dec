/-
  THE EFFECTS OF PATHS: what is made, and laws. Written in part by a program of mine (gen24.py, walk.py). Conditions: none.
-/
import Derived.Test.YtlmclkamedhmhaaEff24
namespace Go.Proofs.Ytlmclkamedhmhaa
open Go.Ab
set_option linter.unusedSimpArgs false
set_option linter.unusedVariables false
set_option maxRecDepth 10000
attribute [local go_sem] opsE opsSE stepS quietA wantA plainA pureA readA effA callPureA lenA minA maxA rho embT emb putA List.set List.getD_cons_zero List.getD_cons_succ List.getD_nil binA intBin isShift unA buildA fillA over partA loadA readAt writeAt newVarA virts addOff AV.cellsOf AV.storable AV.one UD.isAgg UD.known rd lenOf appendA sliceA boundA virtNone get_app get_app0 set_app set_app0 Array.toList List.take_succ_cons List.take_zero List.drop_succ_cons List.drop_zero List.getElem?_cons_succ List.getElem?_cons_zero List.getElem?_toArray Option.bind_some Option.map_some Option.map_none List.map_cons List.map_nil List.length_cons List.length_nil List.length_append Nat.zero_add Nat.add_zero Nat.le_refl Nat.one_mul Nat.mul_one List.append_assoc List.cons_append List.nil_append List.append_nil and_self and_true true_and true_or or_true if_true if_false Bool.false_eq_true not_false_eq_true bTT bTF bFT bFF Bool.not_true Bool.not_false decide_true decide_false Int.toNat_zero Int.toNat_one Int.toNat_natCast List.size_toArray ut3 sz3 ti3 ut4 sz4 ti4 ut23 sz23 ti23 ut61 sz61 ti61 effV brokenE

def madeE (a b c : Int) : E := ⟨0 - within a 9, within b 9, 0 - within a 9 + within c (within b 9 - (0 - within a 9) + 1)⟩
def someE (a b c : Int) (raw : Bool) : E := if raw = true then ⟨within a 24 - 14, within b 24 - 10, within c 24 - 12⟩ else madeE a b c

theorem made_valid (a b c : Int) : validP (madeE a b c) := by
  have h1 := @within_lo a 9 (by omega)
  have h2 := @within_hi a 9 (by omega)
  have h3 := @within_lo b 9 (by omega)
  have h4 := @within_hi b 9 (by omega)
  have h5 := @within_lo c (within b 9 - (0 - within a 9) + 1) (by omega)
  have h6 := @within_hi c (within b 9 - (0 - within a 9) + 1) (by omega)
  simp only [validP, madeE]
  omega

theorem etaE (e : E) : (⟨e.low, e.high, e.net⟩ : E) = e := rfl

def plan30_2 : Plan := ⟨[[], [0], [], [], [3], [], [5], [3, 4, 5, 6], [3, 4, 5, 6, 7], [2, 3, 4, 5, 6, 7, 8], [0, 1, 2, 3, 4, 5, 6, 7, 8, 9], [0, 1, 2, 3, 4, 5, 6, 7, 8, 9, 10], [0, 1, 2, 3, 4, 5, 6, 7, 8, 9, 10, 11]], [false, false, false, false, false, false, false, false, false, false, false, false, true]⟩
theorem plan30_2E (i : Nat) : plan30_2.isE i = [false, false, false, false, false, false, false, false, false, false, false, false, true].getD i false := rfl

theorem c30 {h : Heap} (a b c : Int) : CallA Try.prog cfg 30 [.int .i64 a, .int .i64 b, .int .i64 c] h (fun r h' => r = effV (madeE a b c) ∧ h' = h) := by
  have wa0 := @within_lo a 9 (by omega); have wa1 := @within_hi a 9 (by omega)
  have wb0 := @within_lo b 9 (by omega); have wb1 := @within_hi b 9 (by omega)
  have wc0 := @within_lo c (within b 9 - (0 - within a 9) + 1) (by omega); have wc1 := @within_hi c (within b 9 - (0 - within a 9) + 1) (by omega)
  refine CallA.body (Q := fun r => r = effV (madeE a b c)) good fn30 rfl ?_
  simp only [ntm30, List.length_cons, List.length_nil, Nat.reduceAdd, Nat.reduceSub, List.replicate, List.cons_append, List.nil_append]
  refine RunA.seq ?_
  refine RunA.region good ?_
  refine OpsA.pre 1 (by simp +decide (maxSteps := 2000000) (disch := omega) only [go_sem, Nat.reduceAdd, Nat.reduceSub, Nat.reduceLeDiff, Nat.reduceMul, reduceIte, reduceCtorEq, Int.reduceNeg, Int.reduceToNat, Nat.reduceLT, Int.reduceLE, Int.reduceLT, Int.reduceAdd, Int.reduceSub, Int.reduceMul, wrap64]; rfl) ?_
  refine OpsA.nil ?_
  change RunA _ _ _ _ _
  refine RunA.seq ?_
  refine RunA.region good ?_
  refine OpsA.pre 1 (by simp +decide (maxSteps := 2000000) (disch := omega) only [go_sem, Nat.reduceAdd, Nat.reduceSub, Nat.reduceLeDiff, Nat.reduceMul, reduceIte, reduceCtorEq, Int.reduceNeg, Int.reduceToNat, Nat.reduceLT, Int.reduceLE, Int.reduceLT, Int.reduceAdd, Int.reduceSub, Int.reduceMul, wrap64]; rfl) ?_
  refine OpsA.callQ rfl rfl rfl hb16 (c16 _ _ (by omega) (by omega)) ?_
  refine OpsA.pre 2 (by simp +decide (maxSteps := 2000000) (disch := omega) only [go_sem, Nat.reduceAdd, Nat.reduceSub, Nat.reduceLeDiff, Nat.reduceMul, reduceIte, reduceCtorEq, Int.reduceNeg, Int.reduceToNat, Nat.reduceLT, Int.reduceLE, Int.reduceLT, Int.reduceAdd, Int.reduceSub, Int.reduceMul, wrap64]; rfl) ?_
  refine OpsA.callQ rfl rfl rfl hb16 (c16 _ _ (by omega) (by omega)) ?_
  refine OpsA.pre 3 (by simp +decide (maxSteps := 2000000) (disch := omega) only [go_sem, Nat.reduceAdd, Nat.reduceSub, Nat.reduceLeDiff, Nat.reduceMul, reduceIte, reduceCtorEq, Int.reduceNeg, Int.reduceToNat, Nat.reduceLT, Int.reduceLE, Int.reduceLT, Int.reduceAdd, Int.reduceSub, Int.reduceMul, wrap64]; rfl) ?_
  refine OpsA.nil ?_
  change RunA _ _ _ _ _
  refine RunA.seq ?_
  refine RunA.solo good plan30_2 (by kernel_rfl) (by kernel_rfl) ?_
  refine OpsS.pre 6 (by simp +decide (maxSteps := 2000000) (disch := omega) only [go_sem, Nat.reduceAdd, Nat.reduceSub, Nat.reduceLeDiff, Nat.reduceMul, reduceIte, reduceCtorEq, Int.reduceNeg, Int.reduceToNat, Nat.reduceLT, Int.reduceLE, Int.reduceLT, Int.reduceAdd, Int.reduceSub, Int.reduceMul, wrap64, plan30_2E]; rfl) ?_
  refine OpsS.pre 3 (by simp +decide (maxSteps := 2000000) (disch := omega) only [go_sem, Nat.reduceAdd, Nat.reduceSub, Nat.reduceLeDiff, Nat.reduceMul, reduceIte, reduceCtorEq, Int.reduceNeg, Int.reduceToNat, Nat.reduceLT, Int.reduceLE, Int.reduceLT, Int.reduceAdd, Int.reduceSub, Int.reduceMul, wrap64, plan30_2E]; rfl) ?_
  refine OpsS.call rfl rfl rfl hb16 (c16 _ _ (by omega) (by omega)) ?_
  refine OpsS.pre 3 (by simp +decide (maxSteps := 2000000) (disch := omega) only [go_sem, Nat.reduceAdd, Nat.reduceSub, Nat.reduceLeDiff, Nat.reduceMul, reduceIte, reduceCtorEq, Int.reduceNeg, Int.reduceToNat, Nat.reduceLT, Int.reduceLE, Int.reduceLT, Int.reduceAdd, Int.reduceSub, Int.reduceMul, wrap64, plan30_2E]; rfl) ?_
  show _
  change RunA _ _ _ _ _
  refine RunA.seq ?_
  refine RunA.region good ?_
  refine OpsA.pre 2 (by simp +decide (maxSteps := 2000000) (disch := omega) only [go_sem, Nat.reduceAdd, Nat.reduceSub, Nat.reduceLeDiff, Nat.reduceMul, reduceIte, reduceCtorEq, Int.reduceNeg, Int.reduceToNat, Nat.reduceLT, Int.reduceLE, Int.reduceLT, Int.reduceAdd, Int.reduceSub, Int.reduceMul, wrap64]; rfl) ?_
  refine OpsA.nil ?_
  change RunA _ _ _ _ _
  refine RunA.ret ?_
  refine Ends.mk (by simp only [res30, resA, resAs, resA1]; first | rfl | (simp +decide (maxSteps := 2000000) (disch := omega) only [go_sem, Nat.reduceAdd, Nat.reduceSub, Nat.reduceLeDiff, Nat.reduceMul, reduceIte, reduceCtorEq, Int.reduceNeg, Int.reduceToNat, Nat.reduceLT, Int.reduceLE, Int.reduceLT, Int.reduceAdd, Int.reduceSub, Int.reduceMul, wrap64]; rfl)) ?_
  exact ⟨_, _, rfl, by first | rfl | (simp only [frzT, frzP, optMap, get_app, get_app0]; rfl), by rfl⟩

theorem c15 {h : Heap} (a b c : Int) (raw : Bool) : CallA Try.prog cfg 15 [.int .i64 a, .int .i64 b, .int .i64 c, .bool raw] h (fun r h' => r = effV (someE a b c raw) ∧ h' = h) := by
  have wa0 := @within_lo a 24 (by omega); have wa1 := @within_hi a 24 (by omega)
  have wb0 := @within_lo b 24 (by omega); have wb1 := @within_hi b 24 (by omega)
  have wc0 := @within_lo c 24 (by omega); have wc1 := @within_hi c 24 (by omega)
  refine CallA.body (Q := fun r => r = effV (someE a b c raw)) good fn15 rfl ?_
  simp only [ntm15, List.length_cons, List.length_nil, Nat.reduceAdd, Nat.reduceSub, List.replicate, List.cons_append, List.nil_append]
  refine RunA.seq ?_
  refine RunA.region good ?_
  refine OpsA.pre 1 (by simp +decide (maxSteps := 2000000) (disch := omega) only [go_sem, Nat.reduceAdd, Nat.reduceSub, Nat.reduceLeDiff, Nat.reduceMul, reduceIte, reduceCtorEq, Int.reduceNeg, Int.reduceToNat, Nat.reduceLT, Int.reduceLE, Int.reduceLT, Int.reduceAdd, Int.reduceSub, Int.reduceMul, wrap64]; rfl) ?_
  refine OpsA.nil ?_
  change RunA _ _ _ _ _
  refine RunA.seq ?_
  refine RunA.seq ?_
  refine RunA.region good ?_
  refine OpsA.pre 1 (by simp +decide (maxSteps := 2000000) (disch := omega) only [go_sem, Nat.reduceAdd, Nat.reduceSub, Nat.reduceLeDiff, Nat.reduceMul, reduceIte, reduceCtorEq, Int.reduceNeg, Int.reduceToNat, Nat.reduceLT, Int.reduceLE, Int.reduceLT, Int.reduceAdd, Int.reduceSub, Int.reduceMul, wrap64]; rfl) ?_
  refine OpsA.nil ?_
  change RunA _ _ _ _ _
  refine RunA.split 9 rfl (fun e1 => ?_) (fun e1 => ?_)
  · try simp only [e1]
    have qe1 := e1; try simp only [decide_eq_true_eq, decide_eq_false_iff_not, Bool.not_eq_true', Bool.not_eq_false', Bool.not_eq_eq_eq_not, Bool.not_true, Bool.not_false, Int.not_le, Int.not_lt, beq_iff_eq, bne_iff_ne, ge_iff_le, gt_iff_lt, beq_eq_false_iff_ne, ne_eq, bne_eq_false_iff_eq] at qe1
    refine RunA.condT rfl ?_
    refine RunA.seq ?_
    refine RunA.region good ?_
    refine OpsA.pre 1 (by simp +decide (maxSteps := 2000000) (disch := omega) only [go_sem, Nat.reduceAdd, Nat.reduceSub, Nat.reduceLeDiff, Nat.reduceMul, reduceIte, reduceCtorEq, Int.reduceNeg, Int.reduceToNat, Nat.reduceLT, Int.reduceLE, Int.reduceLT, Int.reduceAdd, Int.reduceSub, Int.reduceMul, wrap64]; rfl) ?_
    refine OpsA.callQ rfl rfl rfl hb16 (c16 _ _ (by omega) (by omega)) ?_
    refine OpsA.pre 2 (by simp +decide (maxSteps := 2000000) (disch := omega) only [go_sem, Nat.reduceAdd, Nat.reduceSub, Nat.reduceLeDiff, Nat.reduceMul, reduceIte, reduceCtorEq, Int.reduceNeg, Int.reduceToNat, Nat.reduceLT, Int.reduceLE, Int.reduceLT, Int.reduceAdd, Int.reduceSub, Int.reduceMul, wrap64]; rfl) ?_
    refine OpsA.callQ rfl rfl rfl hb16 (c16 _ _ (by omega) (by omega)) ?_
    refine OpsA.pre 2 (by simp +decide (maxSteps := 2000000) (disch := omega) only [go_sem, Nat.reduceAdd, Nat.reduceSub, Nat.reduceLeDiff, Nat.reduceMul, reduceIte, reduceCtorEq, Int.reduceNeg, Int.reduceToNat, Nat.reduceLT, Int.reduceLE, Int.reduceLT, Int.reduceAdd, Int.reduceSub, Int.reduceMul, wrap64]; rfl) ?_
    refine OpsA.callQ rfl rfl rfl hb16 (c16 _ _ (by omega) (by omega)) ?_
    refine OpsA.pre 3 (by simp +decide (maxSteps := 2000000) (disch := omega) only [go_sem, Nat.reduceAdd, Nat.reduceSub, Nat.reduceLeDiff, Nat.reduceMul, reduceIte, reduceCtorEq, Int.reduceNeg, Int.reduceToNat, Nat.reduceLT, Int.reduceLE, Int.reduceLT, Int.reduceAdd, Int.reduceSub, Int.reduceMul, wrap64]; rfl) ?_
    refine OpsA.nil ?_
    change RunA _ _ _ _ _
    refine RunA.ret ?_
    refine Ends.mk (by simp only [res15, resA, resAs, resA1]; first | rfl | (simp +decide (maxSteps := 2000000) (disch := omega) only [go_sem, Nat.reduceAdd, Nat.reduceSub, Nat.reduceLeDiff, Nat.reduceMul, reduceIte, reduceCtorEq, Int.reduceNeg, Int.reduceToNat, Nat.reduceLT, Int.reduceLE, Int.reduceLT, Int.reduceAdd, Int.reduceSub, Int.reduceMul, wrap64]; rfl)) ?_
    exact ⟨_, _, rfl, by first | rfl | (simp only [frzT, frzP, optMap, get_app, get_app0]; rfl), by rfl⟩
  · try simp only [e1]
    have qe1 := e1; try simp only [decide_eq_true_eq, decide_eq_false_iff_not, Bool.not_eq_true', Bool.not_eq_false', Bool.not_eq_eq_eq_not, Bool.not_true, Bool.not_false, Int.not_le, Int.not_lt, beq_iff_eq, bne_iff_ne, ge_iff_le, gt_iff_lt, beq_eq_false_iff_ne, ne_eq, bne_eq_false_iff_eq] at qe1
    refine RunA.condF rfl ?_
    refine RunA.skip ?_
    change RunA _ _ _ _ _
    refine RunA.seq ?_
    refine RunA.region good ?_
    refine OpsA.pre 3 (by simp +decide (maxSteps := 2000000) (disch := omega) only [go_sem, Nat.reduceAdd, Nat.reduceSub, Nat.reduceLeDiff, Nat.reduceMul, reduceIte, reduceCtorEq, Int.reduceNeg, Int.reduceToNat, Nat.reduceLT, Int.reduceLE, Int.reduceLT, Int.reduceAdd, Int.reduceSub, Int.reduceMul, wrap64]; rfl) ?_
    refine OpsA.callQ rfl rfl rfl hb30 (c30 _ _ _) ?_
    refine OpsA.pre 1 (by simp +decide (maxSteps := 2000000) (disch := omega) only [go_sem, Nat.reduceAdd, Nat.reduceSub, Nat.reduceLeDiff, Nat.reduceMul, reduceIte, reduceCtorEq, Int.reduceNeg, Int.reduceToNat, Nat.reduceLT, Int.reduceLE, Int.reduceLT, Int.reduceAdd, Int.reduceSub, Int.reduceMul, wrap64]; rfl) ?_
    refine OpsA.nil ?_
    change RunA _ _ _ _ _
    refine RunA.ret ?_
    refine Ends.mk (by simp only [res15, resA, resAs, resA1]; first | rfl | (simp +decide (maxSteps := 2000000) (disch := omega) only [go_sem, Nat.reduceAdd, Nat.reduceSub, Nat.reduceLeDiff, Nat.reduceMul, reduceIte, reduceCtorEq, Int.reduceNeg, Int.reduceToNat, Nat.reduceLT, Int.reduceLE, Int.reduceLT, Int.reduceAdd, Int.reduceSub, Int.reduceMul, wrap64]; rfl)) ?_
    exact ⟨_, _, rfl, by first | rfl | (simp only [frzT, frzP, optMap, get_app, get_app0]; rfl), by rfl⟩

theorem c23 {h : Heap}  : CallA Try.prog cfg 23 [] h (fun r h' => r = .bool true ∧ h' = h) := by
  refine CallA.body (Q := fun r => r = .bool true) good fn23 rfl ?_
  simp only [ntm23, List.length_cons, List.length_nil, Nat.reduceAdd, Nat.reduceSub, List.replicate, List.cons_append, List.nil_append]
  refine RunA.seq ?_
  refine RunA.region good ?_
  refine OpsA.pre 1 (by simp +decide (maxSteps := 2000000) (disch := omega) only [go_sem, Nat.reduceAdd, Nat.reduceSub, Nat.reduceLeDiff, Nat.reduceMul, reduceIte, reduceCtorEq, Int.reduceNeg, Int.reduceToNat, Nat.reduceLT, Int.reduceLE, Int.reduceLT, Int.reduceAdd, Int.reduceSub, Int.reduceMul, eqE]; rfl) ?_
  refine OpsA.nil ?_
  change RunA _ _ _ _ _
  refine RunA.seq ?_
  refine RunA.region good ?_
  refine OpsA.callQ rfl rfl rfl hb17 (c17 _) ?_
  refine OpsA.callQ rfl rfl rfl hb17 (c17 _) ?_
  refine OpsA.callQ rfl rfl rfl hb24 (d24 _ _ _ _ _ _) ?_
  refine OpsA.pre 2 (by simp +decide (maxSteps := 2000000) (disch := omega) only [go_sem, Nat.reduceAdd, Nat.reduceSub, Nat.reduceLeDiff, Nat.reduceMul, reduceIte, reduceCtorEq, Int.reduceNeg, Int.reduceToNat, Nat.reduceLT, Int.reduceLE, Int.reduceLT, Int.reduceAdd, Int.reduceSub, Int.reduceMul, eqE]; rfl) ?_
  refine OpsA.nil ?_
  change RunA _ _ _ _ _
  refine RunA.seq ?_
  refine RunA.region good ?_
  refine OpsA.pre 4 (by simp +decide (maxSteps := 2000000) (disch := omega) only [go_sem, Nat.reduceAdd, Nat.reduceSub, Nat.reduceLeDiff, Nat.reduceMul, reduceIte, reduceCtorEq, Int.reduceNeg, Int.reduceToNat, Nat.reduceLT, Int.reduceLE, Int.reduceLT, Int.reduceAdd, Int.reduceSub, Int.reduceMul, eqE]; rfl) ?_
  refine OpsA.split 8 rfl (fun e1 => ?_) (fun e1 => ?_)
  · try simp only [e1]
    have qe1 := e1; try simp only [decide_eq_true_eq, decide_eq_false_iff_not, Bool.not_eq_true', Bool.not_eq_false', Bool.not_eq_eq_eq_not, Bool.not_true, Bool.not_false, Int.not_le, Int.not_lt, beq_iff_eq, bne_iff_ne, ge_iff_le, gt_iff_lt, beq_eq_false_iff_ne, ne_eq, bne_eq_false_iff_eq] at qe1
    refine OpsA.pre 1 (by simp +decide (maxSteps := 2000000) (disch := omega) only [go_sem, Nat.reduceAdd, Nat.reduceSub, Nat.reduceLeDiff, Nat.reduceMul, reduceIte, reduceCtorEq, Int.reduceNeg, Int.reduceToNat, Nat.reduceLT, Int.reduceLE, Int.reduceLT, Int.reduceAdd, Int.reduceSub, Int.reduceMul, eqE]; rfl) ?_
    refine OpsA.callQ rfl rfl rfl hb26 (d26 _ _ _ _ _) ?_
    refine OpsA.pre 2 (by simp +decide (maxSteps := 2000000) (disch := omega) only [go_sem, Nat.reduceAdd, Nat.reduceSub, Nat.reduceLeDiff, Nat.reduceMul, reduceIte, reduceCtorEq, Int.reduceNeg, Int.reduceToNat, Nat.reduceLT, Int.reduceLE, Int.reduceLT, Int.reduceAdd, Int.reduceSub, Int.reduceMul, eqE]; rfl) ?_
    refine OpsA.split 12 rfl (fun e2 => ?_) (fun e2 => ?_)
    · try simp only [e2]
      have qe2 := e2; try simp only [decide_eq_true_eq, decide_eq_false_iff_not, Bool.not_eq_true', Bool.not_eq_false', Bool.not_eq_eq_eq_not, Bool.not_true, Bool.not_false, Int.not_le, Int.not_lt, beq_iff_eq, bne_iff_ne, ge_iff_le, gt_iff_lt, beq_eq_false_iff_ne, ne_eq, bne_eq_false_iff_eq] at qe2
      refine OpsA.pre 1 (by simp +decide (maxSteps := 2000000) (disch := omega) only [go_sem, Nat.reduceAdd, Nat.reduceSub, Nat.reduceLeDiff, Nat.reduceMul, reduceIte, reduceCtorEq, Int.reduceNeg, Int.reduceToNat, Nat.reduceLT, Int.reduceLE, Int.reduceLT, Int.reduceAdd, Int.reduceSub, Int.reduceMul, eqE]; rfl) ?_
      refine OpsA.callQ rfl rfl rfl hb26 (d26 _ _ _ _ _) ?_
      refine OpsA.pre 3 (by simp +decide (maxSteps := 2000000) (disch := omega) only [go_sem, Nat.reduceAdd, Nat.reduceSub, Nat.reduceLeDiff, Nat.reduceMul, reduceIte, reduceCtorEq, Int.reduceNeg, Int.reduceToNat, Nat.reduceLT, Int.reduceLE, Int.reduceLT, Int.reduceAdd, Int.reduceSub, Int.reduceMul, eqE]; rfl) ?_
      refine OpsA.split 17 rfl (fun e3 => ?_) (fun e3 => ?_)
      · try simp only [e3]
        have qe3 := e3; try simp only [decide_eq_true_eq, decide_eq_false_iff_not, Bool.not_eq_true', Bool.not_eq_false', Bool.not_eq_eq_eq_not, Bool.not_true, Bool.not_false, Int.not_le, Int.not_lt, beq_iff_eq, bne_iff_ne, ge_iff_le, gt_iff_lt, beq_eq_false_iff_ne, ne_eq, bne_eq_false_iff_eq] at qe3
        refine OpsA.pre 1 (by simp +decide (maxSteps := 2000000) (disch := omega) only [go_sem, Nat.reduceAdd, Nat.reduceSub, Nat.reduceLeDiff, Nat.reduceMul, reduceIte, reduceCtorEq, Int.reduceNeg, Int.reduceToNat, Nat.reduceLT, Int.reduceLE, Int.reduceLT, Int.reduceAdd, Int.reduceSub, Int.reduceMul, eqE]; rfl) ?_
        refine OpsA.callQ rfl rfl rfl hb21 (d21 _ _ _) ?_
        refine OpsA.pre 2 (by simp +decide (maxSteps := 2000000) (disch := omega) only [go_sem, Nat.reduceAdd, Nat.reduceSub, Nat.reduceLeDiff, Nat.reduceMul, reduceIte, reduceCtorEq, Int.reduceNeg, Int.reduceToNat, Nat.reduceLT, Int.reduceLE, Int.reduceLT, Int.reduceAdd, Int.reduceSub, Int.reduceMul, eqE]; rfl) ?_
        refine OpsA.split 21 rfl (fun e4 => ?_) (fun e4 => ?_)
        · try simp only [e4]
          have qe4 := e4; try simp only [decide_eq_true_eq, decide_eq_false_iff_not, Bool.not_eq_true', Bool.not_eq_false', Bool.not_eq_eq_eq_not, Bool.not_true, Bool.not_false, Int.not_le, Int.not_lt, beq_iff_eq, bne_iff_ne, ge_iff_le, gt_iff_lt, beq_eq_false_iff_ne, ne_eq, bne_eq_false_iff_eq] at qe4
          refine OpsA.callQ rfl rfl rfl hb19 (c19) ?_
          refine OpsA.callQ rfl rfl rfl hb21 (d21 _ _ _) ?_
          refine OpsA.pre 3 (by simp +decide (maxSteps := 2000000) (disch := omega) only [go_sem, Nat.reduceAdd, Nat.reduceSub, Nat.reduceLeDiff, Nat.reduceMul, reduceIte, reduceCtorEq, Int.reduceNeg, Int.reduceToNat, Nat.reduceLT, Int.reduceLE, Int.reduceLT, Int.reduceAdd, Int.reduceSub, Int.reduceMul, eqE]; rfl) ?_
          refine OpsA.nil ?_
          change RunA _ _ _ _ _
          refine RunA.ret ?_
          refine Ends.mk (by simp only [res23, resA, resAs, resA1]; first | rfl | (simp +decide (maxSteps := 2000000) (disch := omega) only [go_sem, Nat.reduceAdd, Nat.reduceSub, Nat.reduceLeDiff, Nat.reduceMul, reduceIte, reduceCtorEq, Int.reduceNeg, Int.reduceToNat, Nat.reduceLT, Int.reduceLE, Int.reduceLT, Int.reduceAdd, Int.reduceSub, Int.reduceMul, eqE]; rfl)) ?_
          exact ⟨_, _, rfl, by first | rfl | (simp only [frzT, frzP, optMap, get_app, get_app0]; rfl), by rfl⟩
        · exfalso; first | cases e4 | (exact absurd e4 (by decide))
      · exfalso; first | cases e3 | (exact absurd e3 (by decide))
    · exfalso; first | cases e2 | (exact absurd e2 (by decide))
  · exfalso; first | cases e1 | (exact absurd e1 (by decide))

def plan3_3 : Plan := ⟨[[], [0], [], [0, 1, 2], [0, 1, 2, 3], [0, 1, 2, 3, 4], [0, 1, 2, 3, 4, 5], [0, 1, 2, 3, 4, 5, 6], [0, 1, 2, 3, 4, 5], [0, 1, 2, 3, 4, 5, 6, 7, 8], [0, 1, 2, 3, 4, 5, 6, 7, 8, 9], [0, 1, 2, 3, 4, 5, 6, 7, 8, 9, 10], [0, 1, 2, 3, 4, 5, 6, 7, 8, 9, 10, 11], [0, 1, 2, 3, 4, 5, 6, 7, 8, 9, 10, 11, 12], [0, 1, 2, 3, 4, 5, 6, 7, 8, 9, 10, 11, 12, 13], [0, 1, 2, 3, 4, 5, 6, 7, 8, 9, 10, 11, 12, 13, 14], [0, 1, 2, 3, 4, 5, 6, 7, 8, 9, 10, 11, 12, 13, 14, 15], [0, 1, 2, 3, 4, 5, 6, 7, 8, 9, 10, 11, 12, 13, 14, 15, 16], [0, 1, 2, 3, 4, 5, 6, 7, 8, 9, 10, 11, 12, 13, 14, 15, 16, 17], [0, 1, 2, 3, 4, 5, 6, 7, 8, 9, 10, 11, 12, 13, 14, 15, 16, 17, 18], [0, 1, 2, 3, 4, 5, 6, 7, 8, 9, 10, 11, 12, 13, 14, 15, 16, 17], [0, 1, 2, 3, 4, 5, 6, 7, 8, 9, 10, 11, 12, 13, 14, 15, 16, 17, 18, 19, 20], [0, 1, 2, 3, 4, 5, 6, 7, 8, 9, 10, 11, 12, 13, 14, 15, 16, 17, 18, 19, 20, 21], [0, 1, 2, 3, 4, 5, 6, 7, 8, 9, 10, 11, 12, 13, 14, 15, 16, 17, 18, 19, 20, 21, 22], [0, 1, 2, 3, 4, 5, 6, 7, 8, 9, 10, 11, 12, 13, 14, 15, 16, 17, 18, 19, 20, 21, 22, 23], [0, 1, 2, 3, 4, 5, 6, 7, 8, 9, 10, 11, 12, 13, 14, 15, 16, 17, 18, 19, 20, 21, 22, 23, 24], [0, 1, 2, 3, 4, 5, 6, 7, 8, 9, 10, 11, 12, 13, 14, 15, 16, 17, 18, 19, 20, 21, 22, 23, 24, 25], [0, 1, 2, 3, 4, 5, 6, 7, 8, 9, 10, 11, 12, 13, 14, 15, 16, 17, 18, 19, 20, 21, 22, 23, 24, 25, 26]], [false, false, false, false, false, false, false, false, false, false, false, false, false, false, false, false, false, false, false, false, false, false, false, false, false, false, false, false]⟩
theorem plan3_3E (i : Nat) : plan3_3.isE i = [false, false, false, false, false, false, false, false, false, false, false, false, false, false, false, false, false, false, false, false, false, false, false, false, false, false, false, false].getD i false := rfl

theorem c3 {h : Heap} (n a b c : Int) (raw : Bool) : CallA Try.prog cfg 3 [.int .i64 n, .int .i64 a, .int .i64 b, .int .i64 c, .bool raw] h (fun r h' => r = .bool true ∧ h' = h) := by
  have wn0 := @within_lo n 5 (by omega); have wn1 := @within_hi n 5 (by omega)
  refine CallA.body (Q := fun r => r = .bool true) good fn3 rfl ?_
  simp only [ntm3, List.length_cons, List.length_nil, Nat.reduceAdd, Nat.reduceSub, List.replicate, List.cons_append, List.nil_append]
  refine RunA.seq ?_
  refine RunA.region good ?_
  refine OpsA.pre 1 (by simp +decide (maxSteps := 2000000) (disch := omega) only [go_sem, Nat.reduceAdd, Nat.reduceSub, Nat.reduceLeDiff, Nat.reduceMul, reduceIte, reduceCtorEq, Int.reduceNeg, Int.reduceToNat, Nat.reduceLT, Int.reduceLE, Int.reduceLT, Int.reduceAdd, Int.reduceSub, Int.reduceMul, wrap64, eqE, etaE, and_self, eq_self, beq_self_eq_true, decide_true]; rfl) ?_
  refine OpsA.nil ?_
  change RunA _ _ _ _ _
  refine RunA.seq ?_
  refine RunA.region good ?_
  refine OpsA.pre 4 (by simp +decide (maxSteps := 2000000) (disch := omega) only [go_sem, Nat.reduceAdd, Nat.reduceSub, Nat.reduceLeDiff, Nat.reduceMul, reduceIte, reduceCtorEq, Int.reduceNeg, Int.reduceToNat, Nat.reduceLT, Int.reduceLE, Int.reduceLT, Int.reduceAdd, Int.reduceSub, Int.reduceMul, wrap64, eqE, etaE, and_self, eq_self, beq_self_eq_true, decide_true]; rfl) ?_
  refine OpsA.callQ rfl rfl rfl hb15 (c15 _ _ _ _) ?_
  refine OpsA.pre 2 (by simp +decide (maxSteps := 2000000) (disch := omega) only [go_sem, Nat.reduceAdd, Nat.reduceSub, Nat.reduceLeDiff, Nat.reduceMul, reduceIte, reduceCtorEq, Int.reduceNeg, Int.reduceToNat, Nat.reduceLT, Int.reduceLE, Int.reduceLT, Int.reduceAdd, Int.reduceSub, Int.reduceMul, wrap64, eqE, etaE, and_self, eq_self, beq_self_eq_true, decide_true]; rfl) ?_
  refine OpsA.nil ?_
  change RunA _ _ _ _ _
  refine RunA.seq ?_
  refine RunA.region good ?_
  refine OpsA.pre 1 (by simp +decide (maxSteps := 2000000) (disch := omega) only [go_sem, Nat.reduceAdd, Nat.reduceSub, Nat.reduceLeDiff, Nat.reduceMul, reduceIte, reduceCtorEq, Int.reduceNeg, Int.reduceToNat, Nat.reduceLT, Int.reduceLE, Int.reduceLT, Int.reduceAdd, Int.reduceSub, Int.reduceMul, wrap64, eqE, etaE, and_self, eq_self, beq_self_eq_true, decide_true]; rfl) ?_
  refine OpsA.callQ rfl rfl rfl hb16 (c16 _ _ (by omega) (by omega)) ?_
  refine OpsA.pre 2 (by simp +decide (maxSteps := 2000000) (disch := omega) only [go_sem, Nat.reduceAdd, Nat.reduceSub, Nat.reduceLeDiff, Nat.reduceMul, reduceIte, reduceCtorEq, Int.reduceNeg, Int.reduceToNat, Nat.reduceLT, Int.reduceLE, Int.reduceLT, Int.reduceAdd, Int.reduceSub, Int.reduceMul, wrap64, eqE, etaE, and_self, eq_self, beq_self_eq_true, decide_true]; rfl) ?_
  refine OpsA.nil ?_
  change RunA _ _ _ _ _
  refine RunA.seq ?_
  refine RunA.solo good plan3_3 (by kernel_rfl) (by kernel_rfl) ?_
  refine OpsS.pre 1 (by simp +decide (maxSteps := 2000000) (disch := omega) only [go_sem, Nat.reduceAdd, Nat.reduceSub, Nat.reduceLeDiff, Nat.reduceMul, reduceIte, reduceCtorEq, Int.reduceNeg, Int.reduceToNat, Nat.reduceLT, Int.reduceLE, Int.reduceLT, Int.reduceAdd, Int.reduceSub, Int.reduceMul, wrap64, eqE, etaE, and_self, eq_self, beq_self_eq_true, decide_true, plan3_3E]; rfl) ?_
  refine OpsS.call rfl rfl rfl hb17 (c17 _) ?_
  refine OpsS.pre 1 (by simp +decide (maxSteps := 2000000) (disch := omega) only [go_sem, Nat.reduceAdd, Nat.reduceSub, Nat.reduceLeDiff, Nat.reduceMul, reduceIte, reduceCtorEq, Int.reduceNeg, Int.reduceToNat, Nat.reduceLT, Int.reduceLE, Int.reduceLT, Int.reduceAdd, Int.reduceSub, Int.reduceMul, wrap64, eqE, etaE, and_self, eq_self, beq_self_eq_true, decide_true, plan3_3E]; rfl) ?_
  refine OpsS.call rfl rfl rfl hb18 (c18 _) ?_
  refine OpsS.pre 2 (by simp +decide (maxSteps := 2000000) (disch := omega) only [go_sem, Nat.reduceAdd, Nat.reduceSub, Nat.reduceLeDiff, Nat.reduceMul, reduceIte, reduceCtorEq, Int.reduceNeg, Int.reduceToNat, Nat.reduceLT, Int.reduceLE, Int.reduceLT, Int.reduceAdd, Int.reduceSub, Int.reduceMul, wrap64, eqE, etaE, and_self, eq_self, beq_self_eq_true, decide_true, plan3_3E]; rfl) ?_
  refine OpsS.split 26 rfl (fun e1 => ?_) (fun e1 => ?_)
  · try simp only [e1]
    have qe1 := e1; try simp only [decide_eq_true_eq, decide_eq_false_iff_not, Bool.not_eq_true', Bool.not_eq_false', Bool.not_eq_eq_eq_not, Bool.not_true, Bool.not_false, Int.not_le, Int.not_lt, beq_iff_eq, bne_iff_ne, ge_iff_le, gt_iff_lt, beq_eq_false_iff_ne, ne_eq, bne_eq_false_iff_eq] at qe1
    refine OpsS.pre 1 (by simp +decide (maxSteps := 2000000) (disch := omega) only [go_sem, Nat.reduceAdd, Nat.reduceSub, Nat.reduceLeDiff, Nat.reduceMul, reduceIte, reduceCtorEq, Int.reduceNeg, Int.reduceToNat, Nat.reduceLT, Int.reduceLE, Int.reduceLT, Int.reduceAdd, Int.reduceSub, Int.reduceMul, wrap64, eqE, etaE, and_self, eq_self, beq_self_eq_true, decide_true, plan3_3E]; rfl) ?_
    refine OpsS.call rfl rfl rfl hb17 (c17 _) ?_
    refine OpsS.pre 1 (by simp +decide (maxSteps := 2000000) (disch := omega) only [go_sem, Nat.reduceAdd, Nat.reduceSub, Nat.reduceLeDiff, Nat.reduceMul, reduceIte, reduceCtorEq, Int.reduceNeg, Int.reduceToNat, Nat.reduceLT, Int.reduceLE, Int.reduceLT, Int.reduceAdd, Int.reduceSub, Int.reduceMul, wrap64, eqE, etaE, and_self, eq_self, beq_self_eq_true, decide_true, plan3_3E]; rfl) ?_
    refine OpsS.call rfl rfl rfl hb18 (c18 _) ?_
    refine OpsS.pre 3 (by simp +decide (maxSteps := 2000000) (disch := omega) only [go_sem, Nat.reduceAdd, Nat.reduceSub, Nat.reduceLeDiff, Nat.reduceMul, reduceIte, reduceCtorEq, Int.reduceNeg, Int.reduceToNat, Nat.reduceLT, Int.reduceLE, Int.reduceLT, Int.reduceAdd, Int.reduceSub, Int.reduceMul, wrap64, eqE, etaE, and_self, eq_self, beq_self_eq_true, decide_true, plan3_3E]; rfl) ?_
    refine OpsS.split 33 rfl (fun e2 => ?_) (fun e2 => ?_)
    · try simp only [e2]
      have qe2 := e2; try simp only [decide_eq_true_eq, decide_eq_false_iff_not, Bool.not_eq_true', Bool.not_eq_false', Bool.not_eq_eq_eq_not, Bool.not_true, Bool.not_false, Int.not_le, Int.not_lt, beq_iff_eq, bne_iff_ne, ge_iff_le, gt_iff_lt, beq_eq_false_iff_ne, ne_eq, bne_eq_false_iff_eq] at qe2
      refine OpsS.call rfl rfl rfl hb19 (c19) ?_
      refine OpsS.call rfl rfl rfl hb20 (c20) ?_
      refine OpsS.pre 3 (by simp +decide (maxSteps := 2000000) (disch := omega) only [go_sem, Nat.reduceAdd, Nat.reduceSub, Nat.reduceLeDiff, Nat.reduceMul, reduceIte, reduceCtorEq, Int.reduceNeg, Int.reduceToNat, Nat.reduceLT, Int.reduceLE, Int.reduceLT, Int.reduceAdd, Int.reduceSub, Int.reduceMul, wrap64, eqE, etaE, and_self, eq_self, beq_self_eq_true, decide_true, plan3_3E]; rfl) ?_
      refine OpsS.split 38 rfl (fun e3 => ?_) (fun e3 => ?_)
      · try simp only [e3]
        have qe3 := e3; try simp only [decide_eq_true_eq, decide_eq_false_iff_not, Bool.not_eq_true', Bool.not_eq_false', Bool.not_eq_eq_eq_not, Bool.not_true, Bool.not_false, Int.not_le, Int.not_lt, beq_iff_eq, bne_iff_ne, ge_iff_le, gt_iff_lt, beq_eq_false_iff_ne, ne_eq, bne_eq_false_iff_eq] at qe3
        refine OpsS.pre 1 (by simp +decide (maxSteps := 2000000) (disch := omega) only [go_sem, Nat.reduceAdd, Nat.reduceSub, Nat.reduceLeDiff, Nat.reduceMul, reduceIte, reduceCtorEq, Int.reduceNeg, Int.reduceToNat, Nat.reduceLT, Int.reduceLE, Int.reduceLT, Int.reduceAdd, Int.reduceSub, Int.reduceMul, wrap64, eqE, etaE, and_self, eq_self, beq_self_eq_true, decide_true, plan3_3E]; rfl) ?_
        refine OpsS.call rfl rfl rfl hb21 (d21 _ _ _) ?_
        refine OpsS.pre 1 (by simp +decide (maxSteps := 2000000) (disch := omega) only [go_sem, Nat.reduceAdd, Nat.reduceSub, Nat.reduceLeDiff, Nat.reduceMul, reduceIte, reduceCtorEq, Int.reduceNeg, Int.reduceToNat, Nat.reduceLT, Int.reduceLE, Int.reduceLT, Int.reduceAdd, Int.reduceSub, Int.reduceMul, wrap64, eqE, etaE, and_self, eq_self, beq_self_eq_true, decide_true, plan3_3E]; rfl) ?_
        refine OpsS.call rfl rfl rfl hb22 (d22 _ _ _) ?_
        refine OpsS.pre 3 (by simp +decide (maxSteps := 2000000) (disch := omega) only [go_sem, Nat.reduceAdd, Nat.reduceSub, Nat.reduceLeDiff, Nat.reduceMul, reduceIte, reduceCtorEq, Int.reduceNeg, Int.reduceToNat, Nat.reduceLT, Int.reduceLE, Int.reduceLT, Int.reduceAdd, Int.reduceSub, Int.reduceMul, wrap64, eqE, etaE, and_self, eq_self, beq_self_eq_true, decide_true, plan3_3E]; rfl) ?_
        refine OpsS.split 45 rfl (fun e4 => ?_) (fun e4 => ?_)
        · try simp only [e4]
          have qe4 := e4; try simp only [decide_eq_true_eq, decide_eq_false_iff_not, Bool.not_eq_true', Bool.not_eq_false', Bool.not_eq_eq_eq_not, Bool.not_true, Bool.not_false, Int.not_le, Int.not_lt, beq_iff_eq, bne_iff_ne, ge_iff_le, gt_iff_lt, beq_eq_false_iff_ne, ne_eq, bne_eq_false_iff_eq] at qe4
          refine OpsS.call rfl rfl rfl hb23 (c23) ?_
          refine OpsS.pre 2 (by simp +decide (maxSteps := 2000000) (disch := omega) only [go_sem, Nat.reduceAdd, Nat.reduceSub, Nat.reduceLeDiff, Nat.reduceMul, reduceIte, reduceCtorEq, Int.reduceNeg, Int.reduceToNat, Nat.reduceLT, Int.reduceLE, Int.reduceLT, Int.reduceAdd, Int.reduceSub, Int.reduceMul, wrap64, eqE, etaE, and_self, eq_self, beq_self_eq_true, decide_true, plan3_3E]; rfl) ?_
          show _
          change RunA _ _ _ _ _
          refine RunA.ret ?_
          refine Ends.mk (by simp only [res3, resA, resAs, resA1]; first | rfl | (simp +decide (maxSteps := 2000000) (disch := omega) only [go_sem, Nat.reduceAdd, Nat.reduceSub, Nat.reduceLeDiff, Nat.reduceMul, reduceIte, reduceCtorEq, Int.reduceNeg, Int.reduceToNat, Nat.reduceLT, Int.reduceLE, Int.reduceLT, Int.reduceAdd, Int.reduceSub, Int.reduceMul, wrap64, eqE, etaE, and_self, eq_self, beq_self_eq_true, decide_true, plan3_3E]; rfl)) ?_
          exact ⟨_, _, rfl, by first | rfl | (simp only [frzT, frzP, optMap, get_app, get_app0]; rfl), by rfl⟩
        · exfalso; first | cases e4 | (exact absurd e4 (by decide))
      · exfalso; first | cases e3 | (exact absurd e3 (by decide))
    · exfalso; first | cases e2 | (exact absurd e2 (by decide))
  · exfalso; first | cases e1 | (exact absurd e1 (by decide))

def plan4_3 : Plan := ⟨[[], [], [0, 1], [], [], [0, 1, 2, 3, 4], [0, 1, 2, 3, 4, 5], [0, 1, 2, 3, 4, 5, 6], [0, 1, 2, 3, 4, 5, 6, 7], [0, 1, 2, 3, 4, 5, 6, 7], [0, 1, 2, 3, 4, 5, 6, 7], [0, 1, 2, 3, 4, 5, 6, 7, 8, 9, 10], [0, 1, 2, 3, 4, 5, 6, 7], [0, 1, 2, 3, 4, 5, 6, 7], [0, 1, 2, 3, 4, 5, 6, 7], [0, 1, 2, 3, 4, 5, 6, 7, 8, 9, 10, 11, 12, 13, 14], [0, 1, 2, 3, 4, 5, 6, 7, 8, 9, 10, 11, 12, 13, 14, 15], [0, 1, 2, 3, 4, 5, 6, 7, 8, 9, 10, 11, 12, 13, 14, 15, 16], [0, 1, 2, 3, 4, 5, 6, 7, 8, 9, 10, 11, 12, 13, 14, 15, 16, 17], [0, 1, 2, 3, 4, 5, 6, 7, 8, 9, 10, 11, 12, 13, 14, 15, 16, 17, 18], [0, 1, 2, 3, 4, 5, 6, 7, 8, 9, 10, 11, 12, 13, 14, 15, 16, 17, 18], [0, 1, 2, 3, 4, 5, 6, 7, 8, 9, 10, 11, 12, 13, 14, 15, 16, 17, 18, 19, 20], [0, 1, 2, 3, 4, 5, 6, 7, 8, 9, 10, 11, 12, 13, 14, 15, 16, 17, 18], [0, 1, 2, 3, 4, 5, 6, 7, 8, 9, 10, 11, 12, 13, 14, 15, 16, 17, 18], [0, 1, 2, 3, 4, 5, 6, 7, 8, 9, 10, 11, 12, 13, 14, 15, 16, 17, 18, 19, 20, 21, 22, 23], [0, 1, 2, 3, 4, 5, 6, 7, 8, 9, 10, 11, 12, 13, 14, 15, 16, 17, 18], [0, 1, 2, 3, 4, 5, 6, 7, 8, 9, 10, 11, 12, 13, 14, 15, 16, 17, 18], [0, 1, 2, 3, 4, 5, 6, 7, 8, 9, 10, 11, 12, 13, 14, 15, 16, 17, 18, 19, 20, 21, 22, 23, 24, 25, 26], [0, 1, 2, 3, 4, 5, 6, 7, 8, 9, 10, 11, 12, 13, 14, 15, 16, 17, 18], [0, 1, 2, 3, 4, 5, 6, 7, 8, 9, 10, 11, 12, 13, 14, 15, 16, 17, 18], [0, 1, 2, 3, 4, 5, 6, 7, 8, 9, 10, 11, 12, 13, 14, 15, 16, 17, 18, 19, 20, 21, 22, 23, 24, 25, 26, 27, 28, 29], [0, 1, 2, 3, 4, 5, 6, 7, 8, 9, 10, 11, 12, 13, 14, 15, 16, 17, 18, 19, 20, 21, 22, 23, 24, 25, 26, 27, 28, 29, 30], [0, 1, 2, 3, 4, 5, 6, 7, 8, 9, 10, 11, 12, 13, 14, 15, 16, 17, 18, 19, 20, 21, 22, 23, 24, 25, 26, 27, 28, 29, 30, 31], [0, 1, 2, 3, 4, 5, 6, 7, 8, 9, 10, 11, 12, 13, 14, 15, 16, 17, 18, 19, 20, 21, 22, 23, 24, 25, 26, 27, 28, 29, 30, 31, 32], [0, 1, 2, 3, 4, 5, 6, 7, 8, 9, 10, 11, 12, 13, 14, 15, 16, 17, 18, 19, 20, 21, 22, 23, 24, 25, 26, 27, 28, 29, 30, 31, 32, 33], [0, 1, 2, 3, 4, 5, 6, 7, 8, 9, 10, 11, 12, 13, 14, 15, 16, 17, 18, 19, 20, 21, 22, 23, 24, 25, 26, 27, 28, 29, 30, 31, 32, 33, 34], [0, 1, 2, 3, 4, 5, 6, 7, 8, 9, 10, 11, 12, 13, 14, 15, 16, 17, 18, 19, 20, 21, 22, 23, 24, 25, 26, 27, 28, 29, 30, 31, 32, 33, 34, 35]], [false, false, false, false, false, false, false, false, false, false, false, false, false, false, false, false, false, false, false, false, false, false, false, false, false, false, false, false, false, false, false, false, false, false, false, false, false]⟩
theorem plan4_3E (i : Nat) : plan4_3.isE i = [false, false, false, false, false, false, false, false, false, false, false, false, false, false, false, false, false, false, false, false, false, false, false, false, false, false, false, false, false, false, false, false, false, false, false, false, false].getD i false := rfl

theorem c4 {h : Heap} (a b c d e f : Int) (raw : Bool) (m k : Int) : CallA Try.prog cfg 4 [.int .i64 a, .int .i64 b, .int .i64 c, .int .i64 d, .int .i64 e, .int .i64 f, .bool raw, .int .i64 m, .int .i64 k] h (fun r h' => r = .bool true ∧ h' = h) := by
  have wm0 := @within_lo m 12 (by omega); have wm1 := @within_hi m 12 (by omega)
  have wk0 := @within_lo k 12 (by omega); have wk1 := @within_hi k 12 (by omega)
  refine CallA.body (Q := fun r => r = .bool true) good fn4 rfl ?_
  simp only [ntm4, List.length_cons, List.length_nil, Nat.reduceAdd, Nat.reduceSub, List.replicate, List.cons_append, List.nil_append]
  refine RunA.seq ?_
  refine RunA.region good ?_
  refine OpsA.pre 1 (by simp +decide (maxSteps := 2000000) (disch := omega) only [go_sem, Nat.reduceAdd, Nat.reduceSub, Nat.reduceLeDiff, Nat.reduceMul, reduceIte, reduceCtorEq, Int.reduceNeg, Int.reduceToNat, Nat.reduceLT, Int.reduceLE, Int.reduceLT, Int.reduceAdd, Int.reduceSub, Int.reduceMul, wrap64, eqE, etaE, and_self, eq_self, beq_self_eq_true, decide_true]; rfl) ?_
  refine OpsA.nil ?_
  change RunA _ _ _ _ _
  refine RunA.seq ?_
  refine RunA.region good ?_
  refine OpsA.pre 4 (by simp +decide (maxSteps := 2000000) (disch := omega) only [go_sem, Nat.reduceAdd, Nat.reduceSub, Nat.reduceLeDiff, Nat.reduceMul, reduceIte, reduceCtorEq, Int.reduceNeg, Int.reduceToNat, Nat.reduceLT, Int.reduceLE, Int.reduceLT, Int.reduceAdd, Int.reduceSub, Int.reduceMul, wrap64, eqE, etaE, and_self, eq_self, beq_self_eq_true, decide_true]; rfl) ?_
  refine OpsA.callQ rfl rfl rfl hb15 (c15 _ _ _ _) ?_
  refine OpsA.pre 5 (by simp +decide (maxSteps := 2000000) (disch := omega) only [go_sem, Nat.reduceAdd, Nat.reduceSub, Nat.reduceLeDiff, Nat.reduceMul, reduceIte, reduceCtorEq, Int.reduceNeg, Int.reduceToNat, Nat.reduceLT, Int.reduceLE, Int.reduceLT, Int.reduceAdd, Int.reduceSub, Int.reduceMul, wrap64, eqE, etaE, and_self, eq_self, beq_self_eq_true, decide_true]; rfl) ?_
  refine OpsA.split 30 rfl (fun e1 => ?_) (fun e1 => ?_)
  · try simp only [e1]
    have qe1 := e1; try simp only [decide_eq_true_eq, decide_eq_false_iff_not, Bool.not_eq_true', Bool.not_eq_false', Bool.not_eq_eq_eq_not, Bool.not_true, Bool.not_false, Int.not_le, Int.not_lt, beq_iff_eq, bne_iff_ne, ge_iff_le, gt_iff_lt, beq_eq_false_iff_ne, ne_eq, bne_eq_false_iff_eq] at qe1
    refine OpsA.pre 4 (by simp +decide (maxSteps := 2000000) (disch := omega) only [go_sem, Nat.reduceAdd, Nat.reduceSub, Nat.reduceLeDiff, Nat.reduceMul, reduceIte, reduceCtorEq, Int.reduceNeg, Int.reduceToNat, Nat.reduceLT, Int.reduceLE, Int.reduceLT, Int.reduceAdd, Int.reduceSub, Int.reduceMul, wrap64, eqE, etaE, and_self, eq_self, beq_self_eq_true, decide_true]; rfl) ?_
    refine OpsA.callQ rfl rfl rfl hb15 (c15 _ _ _ _) ?_
    refine OpsA.pre 4 (by simp +decide (maxSteps := 2000000) (disch := omega) only [go_sem, Nat.reduceAdd, Nat.reduceSub, Nat.reduceLeDiff, Nat.reduceMul, reduceIte, reduceCtorEq, Int.reduceNeg, Int.reduceToNat, Nat.reduceLT, Int.reduceLE, Int.reduceLT, Int.reduceAdd, Int.reduceSub, Int.reduceMul, wrap64, eqE, etaE, and_self, eq_self, beq_self_eq_true, decide_true]; rfl) ?_
    refine OpsA.nil ?_
    change RunA _ _ _ _ _
    refine RunA.seq ?_
    refine RunA.region good ?_
    refine OpsA.pre 1 (by simp +decide (maxSteps := 2000000) (disch := omega) only [go_sem, Nat.reduceAdd, Nat.reduceSub, Nat.reduceLeDiff, Nat.reduceMul, reduceIte, reduceCtorEq, Int.reduceNeg, Int.reduceToNat, Nat.reduceLT, Int.reduceLE, Int.reduceLT, Int.reduceAdd, Int.reduceSub, Int.reduceMul, wrap64, eqE, etaE, and_self, eq_self, beq_self_eq_true, decide_true]; rfl) ?_
    refine OpsA.callQ rfl rfl rfl hb16 (c16 _ _ (by omega) (by omega)) ?_
    refine OpsA.pre 2 (by simp +decide (maxSteps := 2000000) (disch := omega) only [go_sem, Nat.reduceAdd, Nat.reduceSub, Nat.reduceLeDiff, Nat.reduceMul, reduceIte, reduceCtorEq, Int.reduceNeg, Int.reduceToNat, Nat.reduceLT, Int.reduceLE, Int.reduceLT, Int.reduceAdd, Int.reduceSub, Int.reduceMul, wrap64, eqE, etaE, and_self, eq_self, beq_self_eq_true, decide_true]; rfl) ?_
    refine OpsA.callQ rfl rfl rfl hb16 (c16 _ _ (by omega) (by omega)) ?_
    refine OpsA.pre 3 (by simp +decide (maxSteps := 2000000) (disch := omega) only [go_sem, Nat.reduceAdd, Nat.reduceSub, Nat.reduceLeDiff, Nat.reduceMul, reduceIte, reduceCtorEq, Int.reduceNeg, Int.reduceToNat, Nat.reduceLT, Int.reduceLE, Int.reduceLT, Int.reduceAdd, Int.reduceSub, Int.reduceMul, wrap64, eqE, etaE, and_self, eq_self, beq_self_eq_true, decide_true]; rfl) ?_
    refine OpsA.nil ?_
    change RunA _ _ _ _ _
    refine RunA.seq ?_
    refine RunA.solo good plan4_3 (by kernel_rfl) (by kernel_rfl) ?_
    refine OpsS.pre 2 (by simp +decide (maxSteps := 2000000) (disch := omega) only [go_sem, Nat.reduceAdd, Nat.reduceSub, Nat.reduceLeDiff, Nat.reduceMul, reduceIte, reduceCtorEq, Int.reduceNeg, Int.reduceToNat, Nat.reduceLT, Int.reduceLE, Int.reduceLT, Int.reduceAdd, Int.reduceSub, Int.reduceMul, wrap64, eqE, etaE, and_self, eq_self, beq_self_eq_true, decide_true, plan4_3E]; rfl) ?_
    refine OpsS.call rfl rfl rfl hb24 (d24 _ _ _ _ _ _) ?_
    refine OpsS.pre 2 (by simp +decide (maxSteps := 2000000) (disch := omega) only [go_sem, Nat.reduceAdd, Nat.reduceSub, Nat.reduceLeDiff, Nat.reduceMul, reduceIte, reduceCtorEq, Int.reduceNeg, Int.reduceToNat, Nat.reduceLT, Int.reduceLE, Int.reduceLT, Int.reduceAdd, Int.reduceSub, Int.reduceMul, wrap64, eqE, etaE, and_self, eq_self, beq_self_eq_true, decide_true, plan4_3E]; rfl) ?_
    refine OpsS.call rfl rfl rfl hb25 (d25 _ _ _ _ _ _) ?_
    refine OpsS.pre 2 (by simp +decide (maxSteps := 2000000) (disch := omega) only [go_sem, Nat.reduceAdd, Nat.reduceSub, Nat.reduceLeDiff, Nat.reduceMul, reduceIte, reduceCtorEq, Int.reduceNeg, Int.reduceToNat, Nat.reduceLT, Int.reduceLE, Int.reduceLT, Int.reduceAdd, Int.reduceSub, Int.reduceMul, wrap64, eqE, etaE, and_self, eq_self, beq_self_eq_true, decide_true, plan4_3E]; rfl) ?_
    refine OpsS.split 49 rfl (fun e2 => ?_) (fun e2 => ?_)
    · try simp only [e2]
      have qe2 := e2; try simp only [decide_eq_true_eq, decide_eq_false_iff_not, Bool.not_eq_true', Bool.not_eq_false', Bool.not_eq_eq_eq_not, Bool.not_true, Bool.not_false, Int.not_le, Int.not_lt, beq_iff_eq, bne_iff_ne, ge_iff_le, gt_iff_lt, beq_eq_false_iff_ne, ne_eq, bne_eq_false_iff_eq] at qe2
      refine OpsS.pre 3 (by simp +decide (maxSteps := 2000000) (disch := omega) only [go_sem, Nat.reduceAdd, Nat.reduceSub, Nat.reduceLeDiff, Nat.reduceMul, reduceIte, reduceCtorEq, Int.reduceNeg, Int.reduceToNat, Nat.reduceLT, Int.reduceLE, Int.reduceLT, Int.reduceAdd, Int.reduceSub, Int.reduceMul, wrap64, eqE, etaE, and_self, eq_self, beq_self_eq_true, decide_true, plan4_3E]; rfl) ?_
      refine OpsS.call rfl rfl rfl hb26 (d26 _ _ _ _ _) ?_
      refine OpsS.pre 3 (by simp +decide (maxSteps := 2000000) (disch := omega) only [go_sem, Nat.reduceAdd, Nat.reduceSub, Nat.reduceLeDiff, Nat.reduceMul, reduceIte, reduceCtorEq, Int.reduceNeg, Int.reduceToNat, Nat.reduceLT, Int.reduceLE, Int.reduceLT, Int.reduceAdd, Int.reduceSub, Int.reduceMul, wrap64, eqE, etaE, and_self, eq_self, beq_self_eq_true, decide_true, plan4_3E]; rfl) ?_
      refine OpsS.call rfl rfl rfl hb27 (d27 _ _ _ _ _) ?_
      refine OpsS.pre 3 (by simp +decide (maxSteps := 2000000) (disch := omega) only [go_sem, Nat.reduceAdd, Nat.reduceSub, Nat.reduceLeDiff, Nat.reduceMul, reduceIte, reduceCtorEq, Int.reduceNeg, Int.reduceToNat, Nat.reduceLT, Int.reduceLE, Int.reduceLT, Int.reduceAdd, Int.reduceSub, Int.reduceMul, wrap64, eqE, etaE, and_self, eq_self, beq_self_eq_true, decide_true, plan4_3E]; rfl) ?_
      refine OpsS.split 60 rfl (fun e3 => ?_) (fun e3 => ?_)
      · try simp only [e3]
        have qe3 := e3; try simp only [decide_eq_true_eq, decide_eq_false_iff_not, Bool.not_eq_true', Bool.not_eq_false', Bool.not_eq_eq_eq_not, Bool.not_true, Bool.not_false, Int.not_le, Int.not_lt, beq_iff_eq, bne_iff_ne, ge_iff_le, gt_iff_lt, beq_eq_false_iff_ne, ne_eq, bne_eq_false_iff_eq] at qe3
        refine OpsS.pre 2 (by simp +decide (maxSteps := 2000000) (disch := omega) only [go_sem, Nat.reduceAdd, Nat.reduceSub, Nat.reduceLeDiff, Nat.reduceMul, reduceIte, reduceCtorEq, Int.reduceNeg, Int.reduceToNat, Nat.reduceLT, Int.reduceLE, Int.reduceLT, Int.reduceAdd, Int.reduceSub, Int.reduceMul, wrap64, eqE, etaE, and_self, eq_self, beq_self_eq_true, decide_true, plan4_3E]; rfl) ?_
        refine OpsS.call rfl rfl rfl hb24 (d24 _ _ _ _ _ _) ?_
        refine OpsS.pre 2 (by simp +decide (maxSteps := 2000000) (disch := omega) only [go_sem, Nat.reduceAdd, Nat.reduceSub, Nat.reduceLeDiff, Nat.reduceMul, reduceIte, reduceCtorEq, Int.reduceNeg, Int.reduceToNat, Nat.reduceLT, Int.reduceLE, Int.reduceLT, Int.reduceAdd, Int.reduceSub, Int.reduceMul, wrap64, eqE, etaE, and_self, eq_self, beq_self_eq_true, decide_true, plan4_3E]; rfl) ?_
        refine OpsS.call rfl rfl rfl hb26 (d26 _ _ _ _ _) ?_
        refine OpsS.pre 2 (by simp +decide (maxSteps := 2000000) (disch := omega) only [go_sem, Nat.reduceAdd, Nat.reduceSub, Nat.reduceLeDiff, Nat.reduceMul, reduceIte, reduceCtorEq, Int.reduceNeg, Int.reduceToNat, Nat.reduceLT, Int.reduceLE, Int.reduceLT, Int.reduceAdd, Int.reduceSub, Int.reduceMul, wrap64, eqE, etaE, and_self, eq_self, beq_self_eq_true, decide_true, plan4_3E]; rfl) ?_
        refine OpsS.call rfl rfl rfl hb25 (d25 _ _ _ _ _ _) ?_
        refine OpsS.pre 2 (by simp +decide (maxSteps := 2000000) (disch := omega) only [go_sem, Nat.reduceAdd, Nat.reduceSub, Nat.reduceLeDiff, Nat.reduceMul, reduceIte, reduceCtorEq, Int.reduceNeg, Int.reduceToNat, Nat.reduceLT, Int.reduceLE, Int.reduceLT, Int.reduceAdd, Int.reduceSub, Int.reduceMul, wrap64, eqE, etaE, and_self, eq_self, beq_self_eq_true, decide_true, plan4_3E]; rfl) ?_
        refine OpsS.call rfl rfl rfl hb27 (d27 _ _ _ _ _) ?_
        refine OpsS.pre 3 (by simp +decide (maxSteps := 2000000) (disch := omega) only [go_sem, Nat.reduceAdd, Nat.reduceSub, Nat.reduceLeDiff, Nat.reduceMul, reduceIte, reduceCtorEq, Int.reduceNeg, Int.reduceToNat, Nat.reduceLT, Int.reduceLE, Int.reduceLT, Int.reduceAdd, Int.reduceSub, Int.reduceMul, wrap64, eqE, etaE, and_self, eq_self, beq_self_eq_true, decide_true, plan4_3E]; rfl) ?_
        refine OpsS.split 75 rfl (fun e4 => ?_) (fun e4 => ?_)
        · try simp only [e4]
          have qe4 := e4; try simp only [decide_eq_true_eq, decide_eq_false_iff_not, Bool.not_eq_true', Bool.not_eq_false', Bool.not_eq_eq_eq_not, Bool.not_true, Bool.not_false, Int.not_le, Int.not_lt, beq_iff_eq, bne_iff_ne, ge_iff_le, gt_iff_lt, beq_eq_false_iff_ne, ne_eq, bne_eq_false_iff_eq] at qe4
          refine OpsS.call rfl rfl rfl hb23 (c23) ?_
          refine OpsS.pre 2 (by simp +decide (maxSteps := 2000000) (disch := omega) only [go_sem, Nat.reduceAdd, Nat.reduceSub, Nat.reduceLeDiff, Nat.reduceMul, reduceIte, reduceCtorEq, Int.reduceNeg, Int.reduceToNat, Nat.reduceLT, Int.reduceLE, Int.reduceLT, Int.reduceAdd, Int.reduceSub, Int.reduceMul, wrap64, eqE, etaE, and_self, eq_self, beq_self_eq_true, decide_true, plan4_3E]; rfl) ?_
          show _
          change RunA _ _ _ _ _
          refine RunA.ret ?_
          refine Ends.mk (by simp only [res4, resA, resAs, resA1]; first | rfl | (simp +decide (maxSteps := 2000000) (disch := omega) only [go_sem, Nat.reduceAdd, Nat.reduceSub, Nat.reduceLeDiff, Nat.reduceMul, reduceIte, reduceCtorEq, Int.reduceNeg, Int.reduceToNat, Nat.reduceLT, Int.reduceLE, Int.reduceLT, Int.reduceAdd, Int.reduceSub, Int.reduceMul, wrap64, eqE, etaE, and_self, eq_self, beq_self_eq_true, decide_true, plan4_3E]; rfl)) ?_
          exact ⟨_, _, rfl, by first | rfl | (simp only [frzT, frzP, optMap, get_app, get_app0]; rfl), by rfl⟩
        · exfalso; first | cases e4 | (exact absurd e4 (by decide))
      · exfalso; first | cases e3 | (exact absurd e3 (by decide))
    · exfalso; first | cases e2 | (exact absurd e2 (by decide))
  · try simp only [e1]
    have qe1 := e1; try simp only [decide_eq_true_eq, decide_eq_false_iff_not, Bool.not_eq_true', Bool.not_eq_false', Bool.not_eq_eq_eq_not, Bool.not_true, Bool.not_false, Int.not_le, Int.not_lt, beq_iff_eq, bne_iff_ne, ge_iff_le, gt_iff_lt, beq_eq_false_iff_ne, ne_eq, bne_eq_false_iff_eq] at qe1
    refine OpsA.pre 4 (by simp +decide (maxSteps := 2000000) (disch := omega) only [go_sem, Nat.reduceAdd, Nat.reduceSub, Nat.reduceLeDiff, Nat.reduceMul, reduceIte, reduceCtorEq, Int.reduceNeg, Int.reduceToNat, Nat.reduceLT, Int.reduceLE, Int.reduceLT, Int.reduceAdd, Int.reduceSub, Int.reduceMul, wrap64, eqE, etaE, and_self, eq_self, beq_self_eq_true, decide_true, plan4_3E]; rfl) ?_
    refine OpsA.callQ rfl rfl rfl hb15 (c15 _ _ _ _) ?_
    refine OpsA.pre 4 (by simp +decide (maxSteps := 2000000) (disch := omega) only [go_sem, Nat.reduceAdd, Nat.reduceSub, Nat.reduceLeDiff, Nat.reduceMul, reduceIte, reduceCtorEq, Int.reduceNeg, Int.reduceToNat, Nat.reduceLT, Int.reduceLE, Int.reduceLT, Int.reduceAdd, Int.reduceSub, Int.reduceMul, wrap64, eqE, etaE, and_self, eq_self, beq_self_eq_true, decide_true, plan4_3E]; rfl) ?_
    refine OpsA.nil ?_
    change RunA _ _ _ _ _
    refine RunA.seq ?_
    refine RunA.region good ?_
    refine OpsA.pre 1 (by simp +decide (maxSteps := 2000000) (disch := omega) only [go_sem, Nat.reduceAdd, Nat.reduceSub, Nat.reduceLeDiff, Nat.reduceMul, reduceIte, reduceCtorEq, Int.reduceNeg, Int.reduceToNat, Nat.reduceLT, Int.reduceLE, Int.reduceLT, Int.reduceAdd, Int.reduceSub, Int.reduceMul, wrap64, eqE, etaE, and_self, eq_self, beq_self_eq_true, decide_true]; rfl) ?_
    refine OpsA.callQ rfl rfl rfl hb16 (c16 _ _ (by omega) (by omega)) ?_
    refine OpsA.pre 2 (by simp +decide (maxSteps := 2000000) (disch := omega) only [go_sem, Nat.reduceAdd, Nat.reduceSub, Nat.reduceLeDiff, Nat.reduceMul, reduceIte, reduceCtorEq, Int.reduceNeg, Int.reduceToNat, Nat.reduceLT, Int.reduceLE, Int.reduceLT, Int.reduceAdd, Int.reduceSub, Int.reduceMul, wrap64, eqE, etaE, and_self, eq_self, beq_self_eq_true, decide_true]; rfl) ?_
    refine OpsA.callQ rfl rfl rfl hb16 (c16 _ _ (by omega) (by omega)) ?_
    refine OpsA.pre 3 (by simp +decide (maxSteps := 2000000) (disch := omega) only [go_sem, Nat.reduceAdd, Nat.reduceSub, Nat.reduceLeDiff, Nat.reduceMul, reduceIte, reduceCtorEq, Int.reduceNeg, Int.reduceToNat, Nat.reduceLT, Int.reduceLE, Int.reduceLT, Int.reduceAdd, Int.reduceSub, Int.reduceMul, wrap64, eqE, etaE, and_self, eq_self, beq_self_eq_true, decide_true]; rfl) ?_
    refine OpsA.nil ?_
    change RunA _ _ _ _ _
    refine RunA.seq ?_
    refine RunA.solo good plan4_3 (by kernel_rfl) (by kernel_rfl) ?_
    refine OpsS.pre 2 (by simp +decide (maxSteps := 2000000) (disch := omega) only [go_sem, Nat.reduceAdd, Nat.reduceSub, Nat.reduceLeDiff, Nat.reduceMul, reduceIte, reduceCtorEq, Int.reduceNeg, Int.reduceToNat, Nat.reduceLT, Int.reduceLE, Int.reduceLT, Int.reduceAdd, Int.reduceSub, Int.reduceMul, wrap64, eqE, etaE, and_self, eq_self, beq_self_eq_true, decide_true, plan4_3E]; rfl) ?_
    refine OpsS.call rfl rfl rfl hb24 (d24 _ _ _ _ _ _) ?_
    refine OpsS.pre 2 (by simp +decide (maxSteps := 2000000) (disch := omega) only [go_sem, Nat.reduceAdd, Nat.reduceSub, Nat.reduceLeDiff, Nat.reduceMul, reduceIte, reduceCtorEq, Int.reduceNeg, Int.reduceToNat, Nat.reduceLT, Int.reduceLE, Int.reduceLT, Int.reduceAdd, Int.reduceSub, Int.reduceMul, wrap64, eqE, etaE, and_self, eq_self, beq_self_eq_true, decide_true, plan4_3E]; rfl) ?_
    refine OpsS.call rfl rfl rfl hb25 (d25 _ _ _ _ _ _) ?_
    refine OpsS.pre 2 (by simp +decide (maxSteps := 2000000) (disch := omega) only [go_sem, Nat.reduceAdd, Nat.reduceSub, Nat.reduceLeDiff, Nat.reduceMul, reduceIte, reduceCtorEq, Int.reduceNeg, Int.reduceToNat, Nat.reduceLT, Int.reduceLE, Int.reduceLT, Int.reduceAdd, Int.reduceSub, Int.reduceMul, wrap64, eqE, etaE, and_self, eq_self, beq_self_eq_true, decide_true, plan4_3E]; rfl) ?_
    refine OpsS.split 49 rfl (fun e5 => ?_) (fun e5 => ?_)
    · try simp only [e5]
      have qe5 := e5; try simp only [decide_eq_true_eq, decide_eq_false_iff_not, Bool.not_eq_true', Bool.not_eq_false', Bool.not_eq_eq_eq_not, Bool.not_true, Bool.not_false, Int.not_le, Int.not_lt, beq_iff_eq, bne_iff_ne, ge_iff_le, gt_iff_lt, beq_eq_false_iff_ne, ne_eq, bne_eq_false_iff_eq] at qe5
      refine OpsS.pre 3 (by simp +decide (maxSteps := 2000000) (disch := omega) only [go_sem, Nat.reduceAdd, Nat.reduceSub, Nat.reduceLeDiff, Nat.reduceMul, reduceIte, reduceCtorEq, Int.reduceNeg, Int.reduceToNat, Nat.reduceLT, Int.reduceLE, Int.reduceLT, Int.reduceAdd, Int.reduceSub, Int.reduceMul, wrap64, eqE, etaE, and_self, eq_self, beq_self_eq_true, decide_true, plan4_3E]; rfl) ?_
      refine OpsS.call rfl rfl rfl hb26 (d26 _ _ _ _ _) ?_
      refine OpsS.pre 3 (by simp +decide (maxSteps := 2000000) (disch := omega) only [go_sem, Nat.reduceAdd, Nat.reduceSub, Nat.reduceLeDiff, Nat.reduceMul, reduceIte, reduceCtorEq, Int.reduceNeg, Int.reduceToNat, Nat.reduceLT, Int.reduceLE, Int.reduceLT, Int.reduceAdd, Int.reduceSub, Int.reduceMul, wrap64, eqE, etaE, and_self, eq_self, beq_self_eq_true, decide_true, plan4_3E]; rfl) ?_
      refine OpsS.call rfl rfl rfl hb27 (d27 _ _ _ _ _) ?_
      refine OpsS.pre 3 (by simp +decide (maxSteps := 2000000) (disch := omega) only [go_sem, Nat.reduceAdd, Nat.reduceSub, Nat.reduceLeDiff, Nat.reduceMul, reduceIte, reduceCtorEq, Int.reduceNeg, Int.reduceToNat, Nat.reduceLT, Int.reduceLE, Int.reduceLT, Int.reduceAdd, Int.reduceSub, Int.reduceMul, wrap64, eqE, etaE, and_self, eq_self, beq_self_eq_true, decide_true, plan4_3E]; rfl) ?_
      refine OpsS.split 60 rfl (fun e6 => ?_) (fun e6 => ?_)
      · try simp only [e6]
        have qe6 := e6; try simp only [decide_eq_true_eq, decide_eq_false_iff_not, Bool.not_eq_true', Bool.not_eq_false', Bool.not_eq_eq_eq_not, Bool.not_true, Bool.not_false, Int.not_le, Int.not_lt, beq_iff_eq, bne_iff_ne, ge_iff_le, gt_iff_lt, beq_eq_false_iff_ne, ne_eq, bne_eq_false_iff_eq] at qe6
        refine OpsS.pre 2 (by simp +decide (maxSteps := 2000000) (disch := omega) only [go_sem, Nat.reduceAdd, Nat.reduceSub, Nat.reduceLeDiff, Nat.reduceMul, reduceIte, reduceCtorEq, Int.reduceNeg, Int.reduceToNat, Nat.reduceLT, Int.reduceLE, Int.reduceLT, Int.reduceAdd, Int.reduceSub, Int.reduceMul, wrap64, eqE, etaE, and_self, eq_self, beq_self_eq_true, decide_true, plan4_3E]; rfl) ?_
        refine OpsS.call rfl rfl rfl hb24 (d24 _ _ _ _ _ _) ?_
        refine OpsS.pre 2 (by simp +decide (maxSteps := 2000000) (disch := omega) only [go_sem, Nat.reduceAdd, Nat.reduceSub, Nat.reduceLeDiff, Nat.reduceMul, reduceIte, reduceCtorEq, Int.reduceNeg, Int.reduceToNat, Nat.reduceLT, Int.reduceLE, Int.reduceLT, Int.reduceAdd, Int.reduceSub, Int.reduceMul, wrap64, eqE, etaE, and_self, eq_self, beq_self_eq_true, decide_true, plan4_3E]; rfl) ?_
        refine OpsS.call rfl rfl rfl hb26 (d26 _ _ _ _ _) ?_
        refine OpsS.pre 2 (by simp +decide (maxSteps := 2000000) (disch := omega) only [go_sem, Nat.reduceAdd, Nat.reduceSub, Nat.reduceLeDiff, Nat.reduceMul, reduceIte, reduceCtorEq, Int.reduceNeg, Int.reduceToNat, Nat.reduceLT, Int.reduceLE, Int.reduceLT, Int.reduceAdd, Int.reduceSub, Int.reduceMul, wrap64, eqE, etaE, and_self, eq_self, beq_self_eq_true, decide_true, plan4_3E]; rfl) ?_
        refine OpsS.call rfl rfl rfl hb25 (d25 _ _ _ _ _ _) ?_
        refine OpsS.pre 2 (by simp +decide (maxSteps := 2000000) (disch := omega) only [go_sem, Nat.reduceAdd, Nat.reduceSub, Nat.reduceLeDiff, Nat.reduceMul, reduceIte, reduceCtorEq, Int.reduceNeg, Int.reduceToNat, Nat.reduceLT, Int.reduceLE, Int.reduceLT, Int.reduceAdd, Int.reduceSub, Int.reduceMul, wrap64, eqE, etaE, and_self, eq_self, beq_self_eq_true, decide_true, plan4_3E]; rfl) ?_
        refine OpsS.call rfl rfl rfl hb27 (d27 _ _ _ _ _) ?_
        refine OpsS.pre 3 (by simp +decide (maxSteps := 2000000) (disch := omega) only [go_sem, Nat.reduceAdd, Nat.reduceSub, Nat.reduceLeDiff, Nat.reduceMul, reduceIte, reduceCtorEq, Int.reduceNeg, Int.reduceToNat, Nat.reduceLT, Int.reduceLE, Int.reduceLT, Int.reduceAdd, Int.reduceSub, Int.reduceMul, wrap64, eqE, etaE, and_self, eq_self, beq_self_eq_true, decide_true, plan4_3E]; rfl) ?_
        refine OpsS.split 75 rfl (fun e7 => ?_) (fun e7 => ?_)
        · try simp only [e7]
          have qe7 := e7; try simp only [decide_eq_true_eq, decide_eq_false_iff_not, Bool.not_eq_true', Bool.not_eq_false', Bool.not_eq_eq_eq_not, Bool.not_true, Bool.not_false, Int.not_le, Int.not_lt, beq_iff_eq, bne_iff_ne, ge_iff_le, gt_iff_lt, beq_eq_false_iff_ne, ne_eq, bne_eq_false_iff_eq] at qe7
          refine OpsS.call rfl rfl rfl hb23 (c23) ?_
          refine OpsS.pre 2 (by simp +decide (maxSteps := 2000000) (disch := omega) only [go_sem, Nat.reduceAdd, Nat.reduceSub, Nat.reduceLeDiff, Nat.reduceMul, reduceIte, reduceCtorEq, Int.reduceNeg, Int.reduceToNat, Nat.reduceLT, Int.reduceLE, Int.reduceLT, Int.reduceAdd, Int.reduceSub, Int.reduceMul, wrap64, eqE, etaE, and_self, eq_self, beq_self_eq_true, decide_true, plan4_3E]; rfl) ?_
          show _
          change RunA _ _ _ _ _
          refine RunA.ret ?_
          refine Ends.mk (by simp only [res4, resA, resAs, resA1]; first | rfl | (simp +decide (maxSteps := 2000000) (disch := omega) only [go_sem, Nat.reduceAdd, Nat.reduceSub, Nat.reduceLeDiff, Nat.reduceMul, reduceIte, reduceCtorEq, Int.reduceNeg, Int.reduceToNat, Nat.reduceLT, Int.reduceLE, Int.reduceLT, Int.reduceAdd, Int.reduceSub, Int.reduceMul, wrap64, eqE, etaE, and_self, eq_self, beq_self_eq_true, decide_true, plan4_3E]; rfl)) ?_
          exact ⟨_, _, rfl, by first | rfl | (simp only [frzT, frzP, optMap, get_app, get_app0]; rfl), by rfl⟩
        · exfalso; first | cases e7 | (exact absurd e7 (by decide))
      · exfalso; first | cases e6 | (exact absurd e6 (by decide))
    · exfalso; first | cases e5 | (exact absurd e5 (by decide))

end Go.Proofs.Ytlmclkamedhmhaa
