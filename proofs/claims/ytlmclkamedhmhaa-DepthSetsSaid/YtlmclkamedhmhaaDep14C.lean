/-
  RELATIONS OF DEPTHS: what the functions compute (more). Written in part by a program of mine (gen14.py, walk.py). Conditions: none.
-/
import Derived.Test.YtlmclkamedhmhaaDep14B
import Derived.Test.YtlmclkamedhmhaaAbsSeal
namespace Go.Proofs.Ytlmclkamedhmhaa
open Go.Ab
set_option linter.unusedSimpArgs false
set_option linter.unusedVariables false
set_option maxRecDepth 10000
attribute [local go_sem] opsE opsSE stepS quietA wantA plainA pureA readA effA callPureA lenA minA maxA rho embT emb putA List.set List.getD_cons_zero List.getD_cons_succ List.getD_nil binA intBin isShift unA buildA fillA over partA loadA readAt writeAt newVarA virts addOff AV.cellsOf AV.storable AV.one UD.isAgg UD.known rd lenOf appendA sliceA boundA virtNone get_app get_app0 set_app set_app0 Array.toList List.take_succ_cons List.take_zero List.drop_succ_cons List.drop_zero List.getElem?_cons_succ List.getElem?_cons_zero List.getElem?_toArray Option.bind_some Option.map_some Option.map_none List.map_cons List.map_nil List.length_cons List.length_nil List.length_append Nat.zero_add Nat.add_zero Nat.le_refl Nat.one_mul Nat.mul_one List.append_assoc List.cons_append List.nil_append List.append_nil and_self and_true true_and true_or or_true if_true if_false Bool.false_eq_true not_false_eq_true bTT bTF bFT bFF Bool.not_true Bool.not_false decide_true decide_false Int.toNat_zero Int.toNat_one Int.toNat_natCast List.size_toArray ut3 sz3 ti3 ut4 sz4 ti4 ut34 sz34 ti34 ut53 sz53 ti53 ut63 sz63 ti63 vecI vecN List.length_map Int.natCast_nonneg List.map_nil

def hasB (s : Nat) (d : Int) : Bool := decide (0 ≤ d ∧ d ≤ 8) && s.testBit d.toNat
theorem testAll : ((List.range 9).all fun m => (List.range 512).all fun s => (bits .and .i64 ((s : Int).fdiv (2 ^ (min m 64))) 1 == 1) == s.testBit m) = true := by kernel_rfl
theorem testN {s m : Nat} (hm : m ≤ 8) (hs : s < 512) : (bits .and .i64 ((s : Int).fdiv (2 ^ (min m 64))) 1 == 1) = s.testBit m := by
  have h1 := List.all_eq_true.1 testAll m (List.mem_range.2 (by omega))
  have h2 := List.all_eq_true.1 h1 s (List.mem_range.2 hs)
  simpa using h2
theorem hasN {s i : Nat} (hi : i ≤ 8) : hasB s (i : Int) = s.testBit i := by
  have : 0 ≤ (i : Int) ∧ (i : Int) ≤ 8 := by omega
  simp [hasB, this]

def applyTo (r : List Nat) (s : Nat) : Nat → Nat
  | 0 => 0
  | i + 1 => if s.testBit i then applyTo r s i ||| r.getD i 0 else applyTo r s i
def applyN (r : List Nat) (s : Nat) : Nat := applyTo r s r.length
def composeN (a b : List Nat) : List Nat := (List.range a.length).map fun d => applyN b (a.getD d 0)
def unionN (a b : List Nat) : List Nat := (List.range a.length).map fun d => a.getD d 0 ||| b.getD d 0
def withinP (a b : List Nat) : Prop := ∀ d, d < a.length → bits .andNot .i64 ((a.getD d 0 : Nat) : Int) ((b.getD d 0 : Nat) : Int) = 0
instance (a b : List Nat) : Decidable (withinP a b) := by unfold withinP; exact inferInstance

theorem getD_lt {r : List Nat} (hr : ∀ x ∈ r, x < 512) (i : Nat) : r.getD i 0 < 512 := by
  rw [List.getD_eq_getElem?_getD]
  cases h : r[i]? with
  | none => simp
  | some x => exact hr x (List.mem_of_getElem? h)
theorem or_lt {a b : Nat} (ha : a < 512) (hb : b < 512) : a ||| b < 512 := Nat.or_lt_two_pow (n := 9) ha hb
theorem applyTo_lt {r : List Nat} (hr : ∀ x ∈ r, x < 512) (s : Nat) : ∀ i, applyTo r s i < 512
  | 0 => by simp [applyTo]
  | i + 1 => by
    unfold applyTo
    split
    · exact or_lt (applyTo_lt hr s i) (getD_lt hr i)
    · exact applyTo_lt hr s i
theorem applyT {r : List Nat} {s i : Nat} (h : s.testBit i = true) : applyTo r s (i + 1) = applyTo r s i ||| r.getD i 0 := by rw [applyTo, if_pos h]
theorem applyF {r : List Nat} {s i : Nat} (h : s.testBit i = false) : applyTo r s (i + 1) = applyTo r s i := by rw [applyTo, if_neg (by simp [h])]
def withinN (x m : Int) : Nat := (within x m).toNat
theorem c16N {h : Heap} (x m : Int) (hn : 0 < m) (hm : m < 4611686018427387904) : CallA Try.prog cfg 16 [.int .i64 x, .int .i64 m] h (fun r h' => r = .int .i64 ((withinN x m : Nat) : Int) ∧ h' = h) := by
  have e : ((withinN x m : Nat) : Int) = within x m := Int.toNat_of_nonneg (within_lo hn)
  rw [e]
  exact c16 x m hn hm

theorem c33 {h : Heap} (k : Nat) (hk : k ≤ 8) : CallA Try.prog cfg 33 [.int .i64 ((k : Nat) : Int)] h (fun y' h' => y' = vecN (shN k 1) ∧ h' = h) := by
  refine CallA.body (Q := fun y' => y' = vecN (shN k 1)) good fn33 rfl ?_
  simp only [ntm33, List.length_cons, List.length_nil, Nat.reduceAdd, Nat.reduceSub, List.replicate, List.cons_append, List.nil_append]
  refine RunA.seq ?_
  refine RunA.region good ?_
  refine OpsA.pre 1 (by simp (maxSteps := 2000000) (disch := omega) only [go_sem, Nat.reduceAdd, Nat.reduceSub, Nat.reduceLeDiff, Nat.reduceMul, reduceIte, reduceCtorEq, Int.reduceNeg, Int.reduceToNat, Nat.reduceLT, Int.reduceLE, Int.reduceLT, Int.reduceAdd, Int.reduceSub, Int.reduceMul, maxLenI, wrap64, read1N, over1N, flat0N, shl1N, shl1M, List.length_set, List.length_replicate, Int.toNat_natCast_add_one]; rfl) ?_
  refine OpsA.nil ?_
  change RunA _ _ _ _ _
  refine RunA.seq ?_
  refine RunA.region good ?_
  refine OpsA.pre 1 (by simp (maxSteps := 2000000) (disch := omega) only [go_sem, Nat.reduceAdd, Nat.reduceSub, Nat.reduceLeDiff, Nat.reduceMul, reduceIte, reduceCtorEq, Int.reduceNeg, Int.reduceToNat, Nat.reduceLT, Int.reduceLE, Int.reduceLT, Int.reduceAdd, Int.reduceSub, Int.reduceMul, maxLenI, wrap64, read1N, over1N, flat0N, shl1N, shl1M, List.length_set, List.length_replicate, Int.toNat_natCast_add_one]; rfl) ?_
  refine OpsA.callQ rfl rfl rfl hb55 (c55 _ _ (by omega) (by omega) (by omega)) ?_
  refine OpsA.pre 1 (by simp (maxSteps := 2000000) (disch := omega) only [go_sem, Nat.reduceAdd, Nat.reduceSub, Nat.reduceLeDiff, Nat.reduceMul, reduceIte, reduceCtorEq, Int.reduceNeg, Int.reduceToNat, Nat.reduceLT, Int.reduceLE, Int.reduceLT, Int.reduceAdd, Int.reduceSub, Int.reduceMul, maxLenI, wrap64, read1N, over1N, flat0N, shl1N, shl1M, List.length_set, List.length_replicate, Int.toNat_natCast_add_one]; rfl) ?_
  refine OpsA.nil ?_
  change RunA _ _ _ _ _
  refine RunA.ret ?_
  refine Ends.mk (by simp only [res33, resA, resAs, resA1]; first | rfl | (simp (maxSteps := 2000000) (disch := omega) only [go_sem, Nat.reduceAdd, Nat.reduceSub, Nat.reduceLeDiff, Nat.reduceMul, reduceIte, reduceCtorEq, Int.reduceNeg, Int.reduceToNat, Nat.reduceLT, Int.reduceLE, Int.reduceLT, Int.reduceAdd, Int.reduceSub, Int.reduceMul, maxLenI, wrap64, read1N, over1N, flat0N, shl1N, shl1M, List.length_set, List.length_replicate, Int.toNat_natCast_add_one]; rfl)) ?_
  exact ⟨[], _, (List.append_nil _).symm, by first | rfl | rfl, by rfl⟩

theorem c34 {h : Heap} (k : Nat) (hk : k ≤ 8) : CallA Try.prog cfg 34 [.int .i64 ((k : Nat) : Int)] h (fun y' h' => y' = vecN (shN k (-1)) ∧ h' = h) := by
  refine CallA.body (Q := fun y' => y' = vecN (shN k (-1))) good fn34 rfl ?_
  simp only [ntm34, List.length_cons, List.length_nil, Nat.reduceAdd, Nat.reduceSub, List.replicate, List.cons_append, List.nil_append]
  refine RunA.seq ?_
  refine RunA.region good ?_
  refine OpsA.pre 1 (by simp (maxSteps := 2000000) (disch := omega) only [go_sem, Nat.reduceAdd, Nat.reduceSub, Nat.reduceLeDiff, Nat.reduceMul, reduceIte, reduceCtorEq, Int.reduceNeg, Int.reduceToNat, Nat.reduceLT, Int.reduceLE, Int.reduceLT, Int.reduceAdd, Int.reduceSub, Int.reduceMul, maxLenI, wrap64, read1N, over1N, flat0N, shl1N, shl1M, List.length_set, List.length_replicate, Int.toNat_natCast_add_one]; rfl) ?_
  refine OpsA.nil ?_
  change RunA _ _ _ _ _
  refine RunA.seq ?_
  refine RunA.region good ?_
  refine OpsA.pre 1 (by simp (maxSteps := 2000000) (disch := omega) only [go_sem, Nat.reduceAdd, Nat.reduceSub, Nat.reduceLeDiff, Nat.reduceMul, reduceIte, reduceCtorEq, Int.reduceNeg, Int.reduceToNat, Nat.reduceLT, Int.reduceLE, Int.reduceLT, Int.reduceAdd, Int.reduceSub, Int.reduceMul, maxLenI, wrap64, read1N, over1N, flat0N, shl1N, shl1M, List.length_set, List.length_replicate, Int.toNat_natCast_add_one]; rfl) ?_
  refine OpsA.callQ rfl rfl rfl hb55 (c55 _ _ (by omega) (by omega) (by omega)) ?_
  refine OpsA.pre 1 (by simp (maxSteps := 2000000) (disch := omega) only [go_sem, Nat.reduceAdd, Nat.reduceSub, Nat.reduceLeDiff, Nat.reduceMul, reduceIte, reduceCtorEq, Int.reduceNeg, Int.reduceToNat, Nat.reduceLT, Int.reduceLE, Int.reduceLT, Int.reduceAdd, Int.reduceSub, Int.reduceMul, maxLenI, wrap64, read1N, over1N, flat0N, shl1N, shl1M, List.length_set, List.length_replicate, Int.toNat_natCast_add_one]; rfl) ?_
  refine OpsA.nil ?_
  change RunA _ _ _ _ _
  refine RunA.ret ?_
  refine Ends.mk (by simp only [res34, resA, resAs, resA1]; first | rfl | (simp (maxSteps := 2000000) (disch := omega) only [go_sem, Nat.reduceAdd, Nat.reduceSub, Nat.reduceLeDiff, Nat.reduceMul, reduceIte, reduceCtorEq, Int.reduceNeg, Int.reduceToNat, Nat.reduceLT, Int.reduceLE, Int.reduceLT, Int.reduceAdd, Int.reduceSub, Int.reduceMul, maxLenI, wrap64, read1N, over1N, flat0N, shl1N, shl1M, List.length_set, List.length_replicate, Int.toNat_natCast_add_one]; rfl)) ?_
  exact ⟨[], _, (List.append_nil _).symm, by first | rfl | rfl, by rfl⟩

theorem c37 {h : Heap} (k : Nat) (hk : k ≤ 8) : CallA Try.prog cfg 37 [.int .i64 ((k : Nat) : Int)] h (fun y' h' => y' = vecN (shN k 0) ∧ h' = h) := by
  refine CallA.body (Q := fun y' => y' = vecN (shN k 0)) good fn37 rfl ?_
  simp only [ntm37, List.length_cons, List.length_nil, Nat.reduceAdd, Nat.reduceSub, List.replicate, List.cons_append, List.nil_append]
  refine RunA.seq ?_
  refine RunA.region good ?_
  refine OpsA.pre 1 (by simp (maxSteps := 2000000) (disch := omega) only [go_sem, Nat.reduceAdd, Nat.reduceSub, Nat.reduceLeDiff, Nat.reduceMul, reduceIte, reduceCtorEq, Int.reduceNeg, Int.reduceToNat, Nat.reduceLT, Int.reduceLE, Int.reduceLT, Int.reduceAdd, Int.reduceSub, Int.reduceMul, maxLenI, wrap64, read1N, over1N, flat0N, shl1N, shl1M, List.length_set, List.length_replicate, Int.toNat_natCast_add_one]; rfl) ?_
  refine OpsA.nil ?_
  change RunA _ _ _ _ _
  refine RunA.seq ?_
  refine RunA.region good ?_
  refine OpsA.pre 1 (by simp (maxSteps := 2000000) (disch := omega) only [go_sem, Nat.reduceAdd, Nat.reduceSub, Nat.reduceLeDiff, Nat.reduceMul, reduceIte, reduceCtorEq, Int.reduceNeg, Int.reduceToNat, Nat.reduceLT, Int.reduceLE, Int.reduceLT, Int.reduceAdd, Int.reduceSub, Int.reduceMul, maxLenI, wrap64, read1N, over1N, flat0N, shl1N, shl1M, List.length_set, List.length_replicate, Int.toNat_natCast_add_one]; rfl) ?_
  refine OpsA.callQ rfl rfl rfl hb55 (c55 _ _ (by omega) (by omega) (by omega)) ?_
  refine OpsA.pre 1 (by simp (maxSteps := 2000000) (disch := omega) only [go_sem, Nat.reduceAdd, Nat.reduceSub, Nat.reduceLeDiff, Nat.reduceMul, reduceIte, reduceCtorEq, Int.reduceNeg, Int.reduceToNat, Nat.reduceLT, Int.reduceLE, Int.reduceLT, Int.reduceAdd, Int.reduceSub, Int.reduceMul, maxLenI, wrap64, read1N, over1N, flat0N, shl1N, shl1M, List.length_set, List.length_replicate, Int.toNat_natCast_add_one]; rfl) ?_
  refine OpsA.nil ?_
  change RunA _ _ _ _ _
  refine RunA.ret ?_
  refine Ends.mk (by simp only [res37, resA, resAs, resA1]; first | rfl | (simp (maxSteps := 2000000) (disch := omega) only [go_sem, Nat.reduceAdd, Nat.reduceSub, Nat.reduceLeDiff, Nat.reduceMul, reduceIte, reduceCtorEq, Int.reduceNeg, Int.reduceToNat, Nat.reduceLT, Int.reduceLE, Int.reduceLT, Int.reduceAdd, Int.reduceSub, Int.reduceMul, maxLenI, wrap64, read1N, over1N, flat0N, shl1N, shl1M, List.length_set, List.length_replicate, Int.toNat_natCast_add_one]; rfl)) ?_
  exact ⟨[], _, (List.append_nil _).symm, by first | rfl | rfl, by rfl⟩

theorem c31 {h : Heap} (n : Int) (k : Nat) (hk : within n 9 = k) : CallA Try.prog cfg 31 [.int .i64 n] h (fun y' h' => y' = .int .i64 ((k : Nat) : Int) ∧ h' = h) := by
  refine CallA.body (Q := fun y' => y' = .int .i64 ((k : Nat) : Int)) good fn31 rfl ?_
  simp only [ntm31, List.length_cons, List.length_nil, Nat.reduceAdd, Nat.reduceSub, List.replicate, List.cons_append, List.nil_append]
  refine RunA.seq ?_
  refine RunA.region good ?_
  refine OpsA.pre 1 (by simp (maxSteps := 2000000) (disch := omega) only [go_sem, Nat.reduceAdd, Nat.reduceSub, Nat.reduceLeDiff, Nat.reduceMul, reduceIte, reduceCtorEq, Int.reduceNeg, Int.reduceToNat, Nat.reduceLT, Int.reduceLE, Int.reduceLT, Int.reduceAdd, Int.reduceSub, Int.reduceMul, maxLenI, wrap64, read1N, over1N, flat0N, shl1N, shl1M, List.length_set, List.length_replicate, Int.toNat_natCast_add_one]; rfl) ?_
  refine OpsA.nil ?_
  change RunA _ _ _ _ _
  refine RunA.seq ?_
  refine RunA.region good ?_
  refine OpsA.pre 1 (by simp (maxSteps := 2000000) (disch := omega) only [go_sem, Nat.reduceAdd, Nat.reduceSub, Nat.reduceLeDiff, Nat.reduceMul, reduceIte, reduceCtorEq, Int.reduceNeg, Int.reduceToNat, Nat.reduceLT, Int.reduceLE, Int.reduceLT, Int.reduceAdd, Int.reduceSub, Int.reduceMul, maxLenI, wrap64, read1N, over1N, flat0N, shl1N, shl1M, List.length_set, List.length_replicate, Int.toNat_natCast_add_one]; rfl) ?_
  refine OpsA.callQ rfl rfl rfl hb16 (c16 _ _ (by omega) (by omega)) ?_
  refine OpsA.pre 1 (by simp (maxSteps := 2000000) (disch := omega) only [go_sem, Nat.reduceAdd, Nat.reduceSub, Nat.reduceLeDiff, Nat.reduceMul, reduceIte, reduceCtorEq, Int.reduceNeg, Int.reduceToNat, Nat.reduceLT, Int.reduceLE, Int.reduceLT, Int.reduceAdd, Int.reduceSub, Int.reduceMul, maxLenI, wrap64, read1N, over1N, flat0N, shl1N, shl1M, List.length_set, List.length_replicate, Int.toNat_natCast_add_one]; rfl) ?_
  refine OpsA.nil ?_
  change RunA _ _ _ _ _
  refine RunA.ret ?_
  refine Ends.mk (by simp only [res31, resA, resAs, resA1]; first | rfl | (simp (maxSteps := 2000000) (disch := omega) only [go_sem, Nat.reduceAdd, Nat.reduceSub, Nat.reduceLeDiff, Nat.reduceMul, reduceIte, reduceCtorEq, Int.reduceNeg, Int.reduceToNat, Nat.reduceLT, Int.reduceLE, Int.reduceLT, Int.reduceAdd, Int.reduceSub, Int.reduceMul, maxLenI, wrap64, read1N, over1N, flat0N, shl1N, shl1M, List.length_set, List.length_replicate, Int.toNat_natCast_add_one]; rfl)) ?_
  exact ⟨[], _, (List.append_nil _).symm, by first | rfl | rfl, by (rw [← hk])⟩

theorem c43 {h : Heap} (s : Nat) (d : Int) (hs : s < 512) : CallA Try.prog cfg 43 [.int .i64 ((s : Nat) : Int), .int .i64 d] h (fun y' h' => y' = .bool (hasB s d) ∧ h' = h) := by
  refine CallA.body (Q := fun y' => y' = .bool (hasB s d)) good fn43 rfl ?_
  simp only [ntm43, List.length_cons, List.length_nil, Nat.reduceAdd, Nat.reduceSub, List.replicate, List.cons_append, List.nil_append]
  refine RunA.seq ?_
  refine RunA.region good ?_
  refine OpsA.pre 1 (by simp (maxSteps := 2000000) (disch := omega) only [go_sem, Nat.reduceAdd, Nat.reduceSub, Nat.reduceLeDiff, Nat.reduceMul, reduceIte, reduceCtorEq, Int.reduceNeg, Int.reduceToNat, Nat.reduceLT, Int.reduceLE, Int.reduceLT, Int.reduceAdd, Int.reduceSub, Int.reduceMul, maxLenI, wrap64, read1N, over1N, flat0N, shl1N, shl1M, List.length_set, List.length_replicate, Int.toNat_natCast_add_one, testN, hasN, orN, if_pos, if_neg]; rfl) ?_
  refine OpsA.nil ?_
  change RunA _ _ _ _ _
  refine RunA.seq ?_
  refine RunA.region good ?_
  refine OpsA.pre 3 (by simp (maxSteps := 2000000) (disch := omega) only [go_sem, Nat.reduceAdd, Nat.reduceSub, Nat.reduceLeDiff, Nat.reduceMul, reduceIte, reduceCtorEq, Int.reduceNeg, Int.reduceToNat, Nat.reduceLT, Int.reduceLE, Int.reduceLT, Int.reduceAdd, Int.reduceSub, Int.reduceMul, maxLenI, wrap64, read1N, over1N, flat0N, shl1N, shl1M, List.length_set, List.length_replicate, Int.toNat_natCast_add_one, testN, hasN, orN, if_pos, if_neg]; rfl) ?_
  refine OpsA.split 7 rfl (fun e1 => ?_) (fun e1 => ?_)
  · try simp only [e1]
    have qe1 := e1; try simp only [decide_eq_true_eq, decide_eq_false_iff_not, Bool.not_eq_true', Bool.not_eq_false', Bool.not_eq_eq_eq_not, Bool.not_true, Bool.not_false, Int.not_le, Int.not_lt, beq_iff_eq, bne_iff_ne, ge_iff_le, gt_iff_lt, beq_eq_false_iff_ne, ne_eq, bne_eq_false_iff_eq] at qe1
    refine OpsA.pre 4 (by simp (maxSteps := 2000000) (disch := omega) only [go_sem, Nat.reduceAdd, Nat.reduceSub, Nat.reduceLeDiff, Nat.reduceMul, reduceIte, reduceCtorEq, Int.reduceNeg, Int.reduceToNat, Nat.reduceLT, Int.reduceLE, Int.reduceLT, Int.reduceAdd, Int.reduceSub, Int.reduceMul, maxLenI, wrap64, read1N, over1N, flat0N, shl1N, shl1M, List.length_set, List.length_replicate, Int.toNat_natCast_add_one, testN, hasN, orN, if_pos, if_neg]; rfl) ?_
    refine OpsA.split 11 rfl (fun e2 => ?_) (fun e2 => ?_)
    · try simp only [e2]
      have qe2 := e2; try simp only [decide_eq_true_eq, decide_eq_false_iff_not, Bool.not_eq_true', Bool.not_eq_false', Bool.not_eq_eq_eq_not, Bool.not_true, Bool.not_false, Int.not_le, Int.not_lt, beq_iff_eq, bne_iff_ne, ge_iff_le, gt_iff_lt, beq_eq_false_iff_ne, ne_eq, bne_eq_false_iff_eq] at qe2
      refine OpsA.pre 6 (by simp (maxSteps := 2000000) (disch := omega) only [go_sem, Nat.reduceAdd, Nat.reduceSub, Nat.reduceLeDiff, Nat.reduceMul, reduceIte, reduceCtorEq, Int.reduceNeg, Int.reduceToNat, Nat.reduceLT, Int.reduceLE, Int.reduceLT, Int.reduceAdd, Int.reduceSub, Int.reduceMul, maxLenI, wrap64, read1N, over1N, flat0N, shl1N, shl1M, List.length_set, List.length_replicate, Int.toNat_natCast_add_one, testN, hasN, orN, if_pos, if_neg]; rfl) ?_
      refine OpsA.pre 1 (by simp (maxSteps := 2000000) (disch := omega) only [go_sem, Nat.reduceAdd, Nat.reduceSub, Nat.reduceLeDiff, Nat.reduceMul, reduceIte, reduceCtorEq, Int.reduceNeg, Int.reduceToNat, Nat.reduceLT, Int.reduceLE, Int.reduceLT, Int.reduceAdd, Int.reduceSub, Int.reduceMul, maxLenI, wrap64, read1N, over1N, flat0N, shl1N, shl1M, List.length_set, List.length_replicate, Int.toNat_natCast_add_one, testN, hasN, orN, if_pos, if_neg]; rfl) ?_
      refine OpsA.nil ?_
      change RunA _ _ _ _ _
      refine RunA.ret ?_
      refine Ends.mk (by simp only [res43, resA, resAs, resA1]; first | rfl | (simp (maxSteps := 2000000) (disch := omega) only [go_sem, Nat.reduceAdd, Nat.reduceSub, Nat.reduceLeDiff, Nat.reduceMul, reduceIte, reduceCtorEq, Int.reduceNeg, Int.reduceToNat, Nat.reduceLT, Int.reduceLE, Int.reduceLT, Int.reduceAdd, Int.reduceSub, Int.reduceMul, maxLenI, wrap64, read1N, over1N, flat0N, shl1N, shl1M, List.length_set, List.length_replicate, Int.toNat_natCast_add_one, testN, hasN, orN, if_pos, if_neg]; rfl)) ?_
      exact ⟨[], _, (List.append_nil _).symm, by first | rfl | rfl, by (simp only [hasB]; first | (rw [decide_eq_true (show 0 ≤ d ∧ d ≤ 8 from by omega), Bool.true_and]) | (rw [decide_eq_false (show ¬ (0 ≤ d ∧ d ≤ 8) from by omega), Bool.false_and]))⟩
    · try simp only [e2]
      have qe2 := e2; try simp only [decide_eq_true_eq, decide_eq_false_iff_not, Bool.not_eq_true', Bool.not_eq_false', Bool.not_eq_eq_eq_not, Bool.not_true, Bool.not_false, Int.not_le, Int.not_lt, beq_iff_eq, bne_iff_ne, ge_iff_le, gt_iff_lt, beq_eq_false_iff_ne, ne_eq, bne_eq_false_iff_eq] at qe2
      refine OpsA.pre 6 (by simp (maxSteps := 2000000) (disch := omega) only [go_sem, Nat.reduceAdd, Nat.reduceSub, Nat.reduceLeDiff, Nat.reduceMul, reduceIte, reduceCtorEq, Int.reduceNeg, Int.reduceToNat, Nat.reduceLT, Int.reduceLE, Int.reduceLT, Int.reduceAdd, Int.reduceSub, Int.reduceMul, maxLenI, wrap64, read1N, over1N, flat0N, shl1N, shl1M, List.length_set, List.length_replicate, Int.toNat_natCast_add_one, testN, hasN, orN, if_pos, if_neg]; rfl) ?_
      refine OpsA.pre 1 (by simp (maxSteps := 2000000) (disch := omega) only [go_sem, Nat.reduceAdd, Nat.reduceSub, Nat.reduceLeDiff, Nat.reduceMul, reduceIte, reduceCtorEq, Int.reduceNeg, Int.reduceToNat, Nat.reduceLT, Int.reduceLE, Int.reduceLT, Int.reduceAdd, Int.reduceSub, Int.reduceMul, maxLenI, wrap64, read1N, over1N, flat0N, shl1N, shl1M, List.length_set, List.length_replicate, Int.toNat_natCast_add_one, testN, hasN, orN, if_pos, if_neg]; rfl) ?_
      refine OpsA.nil ?_
      change RunA _ _ _ _ _
      refine RunA.ret ?_
      refine Ends.mk (by simp only [res43, resA, resAs, resA1]; first | rfl | (simp (maxSteps := 2000000) (disch := omega) only [go_sem, Nat.reduceAdd, Nat.reduceSub, Nat.reduceLeDiff, Nat.reduceMul, reduceIte, reduceCtorEq, Int.reduceNeg, Int.reduceToNat, Nat.reduceLT, Int.reduceLE, Int.reduceLT, Int.reduceAdd, Int.reduceSub, Int.reduceMul, maxLenI, wrap64, read1N, over1N, flat0N, shl1N, shl1M, List.length_set, List.length_replicate, Int.toNat_natCast_add_one, testN, hasN, orN, if_pos, if_neg]; rfl)) ?_
      exact ⟨[], _, (List.append_nil _).symm, by first | rfl | rfl, by (simp only [hasB]; first | (rw [decide_eq_true (show 0 ≤ d ∧ d ≤ 8 from by omega), Bool.true_and]) | (rw [decide_eq_false (show ¬ (0 ≤ d ∧ d ≤ 8) from by omega), Bool.false_and]))⟩
  · try simp only [e1]
    have qe1 := e1; try simp only [decide_eq_true_eq, decide_eq_false_iff_not, Bool.not_eq_true', Bool.not_eq_false', Bool.not_eq_eq_eq_not, Bool.not_true, Bool.not_false, Int.not_le, Int.not_lt, beq_iff_eq, bne_iff_ne, ge_iff_le, gt_iff_lt, beq_eq_false_iff_ne, ne_eq, bne_eq_false_iff_eq] at qe1
    refine OpsA.pre 6 (by simp (maxSteps := 2000000) (disch := omega) only [go_sem, Nat.reduceAdd, Nat.reduceSub, Nat.reduceLeDiff, Nat.reduceMul, reduceIte, reduceCtorEq, Int.reduceNeg, Int.reduceToNat, Nat.reduceLT, Int.reduceLE, Int.reduceLT, Int.reduceAdd, Int.reduceSub, Int.reduceMul, maxLenI, wrap64, read1N, over1N, flat0N, shl1N, shl1M, List.length_set, List.length_replicate, Int.toNat_natCast_add_one, testN, hasN, orN, if_pos, if_neg]; rfl) ?_
    refine OpsA.pre 5 (by simp (maxSteps := 2000000) (disch := omega) only [go_sem, Nat.reduceAdd, Nat.reduceSub, Nat.reduceLeDiff, Nat.reduceMul, reduceIte, reduceCtorEq, Int.reduceNeg, Int.reduceToNat, Nat.reduceLT, Int.reduceLE, Int.reduceLT, Int.reduceAdd, Int.reduceSub, Int.reduceMul, maxLenI, wrap64, read1N, over1N, flat0N, shl1N, shl1M, List.length_set, List.length_replicate, Int.toNat_natCast_add_one, testN, hasN, orN, if_pos, if_neg]; rfl) ?_
    refine OpsA.nil ?_
    change RunA _ _ _ _ _
    refine RunA.ret ?_
    refine Ends.mk (by simp only [res43, resA, resAs, resA1]; first | rfl | (simp (maxSteps := 2000000) (disch := omega) only [go_sem, Nat.reduceAdd, Nat.reduceSub, Nat.reduceLeDiff, Nat.reduceMul, reduceIte, reduceCtorEq, Int.reduceNeg, Int.reduceToNat, Nat.reduceLT, Int.reduceLE, Int.reduceLT, Int.reduceAdd, Int.reduceSub, Int.reduceMul, maxLenI, wrap64, read1N, over1N, flat0N, shl1N, shl1M, List.length_set, List.length_replicate, Int.toNat_natCast_add_one, testN, hasN, orN, if_pos, if_neg]; rfl)) ?_
    exact ⟨[], _, (List.append_nil _).symm, by first | rfl | rfl, by (simp only [hasB]; first | (rw [decide_eq_true (show 0 ≤ d ∧ d ≤ 8 from by omega), Bool.true_and]) | (rw [decide_eq_false (show ¬ (0 ≤ d ∧ d ≤ 8) from by omega), Bool.false_and]))⟩

theorem c45 {h : Heap} (s : Nat) (d : Int) (hs : s < 512) : CallA Try.prog cfg 45 [.int .i64 ((s : Nat) : Int), .int .i64 d] h (fun y' h' => y' = .bool (hasB s d) ∧ h' = h) := by
  refine CallA.body (Q := fun y' => y' = .bool (hasB s d)) good fn45 rfl ?_
  simp only [ntm45, List.length_cons, List.length_nil, Nat.reduceAdd, Nat.reduceSub, List.replicate, List.cons_append, List.nil_append]
  refine RunA.seq ?_
  refine RunA.region good ?_
  refine OpsA.pre 1 (by simp (maxSteps := 2000000) (disch := omega) only [go_sem, Nat.reduceAdd, Nat.reduceSub, Nat.reduceLeDiff, Nat.reduceMul, reduceIte, reduceCtorEq, Int.reduceNeg, Int.reduceToNat, Nat.reduceLT, Int.reduceLE, Int.reduceLT, Int.reduceAdd, Int.reduceSub, Int.reduceMul, maxLenI, wrap64, read1N, over1N, flat0N, shl1N, shl1M, List.length_set, List.length_replicate, Int.toNat_natCast_add_one, testN, hasN, orN, if_pos, if_neg]; rfl) ?_
  refine OpsA.nil ?_
  change RunA _ _ _ _ _
  refine RunA.seq ?_
  refine RunA.region good ?_
  refine OpsA.pre 3 (by simp (maxSteps := 2000000) (disch := omega) only [go_sem, Nat.reduceAdd, Nat.reduceSub, Nat.reduceLeDiff, Nat.reduceMul, reduceIte, reduceCtorEq, Int.reduceNeg, Int.reduceToNat, Nat.reduceLT, Int.reduceLE, Int.reduceLT, Int.reduceAdd, Int.reduceSub, Int.reduceMul, maxLenI, wrap64, read1N, over1N, flat0N, shl1N, shl1M, List.length_set, List.length_replicate, Int.toNat_natCast_add_one, testN, hasN, orN, if_pos, if_neg]; rfl) ?_
  refine OpsA.split 7 rfl (fun e1 => ?_) (fun e1 => ?_)
  · try simp only [e1]
    have qe1 := e1; try simp only [decide_eq_true_eq, decide_eq_false_iff_not, Bool.not_eq_true', Bool.not_eq_false', Bool.not_eq_eq_eq_not, Bool.not_true, Bool.not_false, Int.not_le, Int.not_lt, beq_iff_eq, bne_iff_ne, ge_iff_le, gt_iff_lt, beq_eq_false_iff_ne, ne_eq, bne_eq_false_iff_eq] at qe1
    refine OpsA.pre 4 (by simp (maxSteps := 2000000) (disch := omega) only [go_sem, Nat.reduceAdd, Nat.reduceSub, Nat.reduceLeDiff, Nat.reduceMul, reduceIte, reduceCtorEq, Int.reduceNeg, Int.reduceToNat, Nat.reduceLT, Int.reduceLE, Int.reduceLT, Int.reduceAdd, Int.reduceSub, Int.reduceMul, maxLenI, wrap64, read1N, over1N, flat0N, shl1N, shl1M, List.length_set, List.length_replicate, Int.toNat_natCast_add_one, testN, hasN, orN, if_pos, if_neg]; rfl) ?_
    refine OpsA.split 11 rfl (fun e2 => ?_) (fun e2 => ?_)
    · try simp only [e2]
      have qe2 := e2; try simp only [decide_eq_true_eq, decide_eq_false_iff_not, Bool.not_eq_true', Bool.not_eq_false', Bool.not_eq_eq_eq_not, Bool.not_true, Bool.not_false, Int.not_le, Int.not_lt, beq_iff_eq, bne_iff_ne, ge_iff_le, gt_iff_lt, beq_eq_false_iff_ne, ne_eq, bne_eq_false_iff_eq] at qe2
      refine OpsA.pre 6 (by simp (maxSteps := 2000000) (disch := omega) only [go_sem, Nat.reduceAdd, Nat.reduceSub, Nat.reduceLeDiff, Nat.reduceMul, reduceIte, reduceCtorEq, Int.reduceNeg, Int.reduceToNat, Nat.reduceLT, Int.reduceLE, Int.reduceLT, Int.reduceAdd, Int.reduceSub, Int.reduceMul, maxLenI, wrap64, read1N, over1N, flat0N, shl1N, shl1M, List.length_set, List.length_replicate, Int.toNat_natCast_add_one, testN, hasN, orN, if_pos, if_neg]; rfl) ?_
      refine OpsA.pre 1 (by simp (maxSteps := 2000000) (disch := omega) only [go_sem, Nat.reduceAdd, Nat.reduceSub, Nat.reduceLeDiff, Nat.reduceMul, reduceIte, reduceCtorEq, Int.reduceNeg, Int.reduceToNat, Nat.reduceLT, Int.reduceLE, Int.reduceLT, Int.reduceAdd, Int.reduceSub, Int.reduceMul, maxLenI, wrap64, read1N, over1N, flat0N, shl1N, shl1M, List.length_set, List.length_replicate, Int.toNat_natCast_add_one, testN, hasN, orN, if_pos, if_neg]; rfl) ?_
      refine OpsA.nil ?_
      change RunA _ _ _ _ _
      refine RunA.ret ?_
      refine Ends.mk (by simp only [res45, resA, resAs, resA1]; first | rfl | (simp (maxSteps := 2000000) (disch := omega) only [go_sem, Nat.reduceAdd, Nat.reduceSub, Nat.reduceLeDiff, Nat.reduceMul, reduceIte, reduceCtorEq, Int.reduceNeg, Int.reduceToNat, Nat.reduceLT, Int.reduceLE, Int.reduceLT, Int.reduceAdd, Int.reduceSub, Int.reduceMul, maxLenI, wrap64, read1N, over1N, flat0N, shl1N, shl1M, List.length_set, List.length_replicate, Int.toNat_natCast_add_one, testN, hasN, orN, if_pos, if_neg]; rfl)) ?_
      exact ⟨[], _, (List.append_nil _).symm, by first | rfl | rfl, by (simp only [hasB]; first | (rw [decide_eq_true (show 0 ≤ d ∧ d ≤ 8 from by omega), Bool.true_and]) | (rw [decide_eq_false (show ¬ (0 ≤ d ∧ d ≤ 8) from by omega), Bool.false_and]))⟩
    · try simp only [e2]
      have qe2 := e2; try simp only [decide_eq_true_eq, decide_eq_false_iff_not, Bool.not_eq_true', Bool.not_eq_false', Bool.not_eq_eq_eq_not, Bool.not_true, Bool.not_false, Int.not_le, Int.not_lt, beq_iff_eq, bne_iff_ne, ge_iff_le, gt_iff_lt, beq_eq_false_iff_ne, ne_eq, bne_eq_false_iff_eq] at qe2
      refine OpsA.pre 6 (by simp (maxSteps := 2000000) (disch := omega) only [go_sem, Nat.reduceAdd, Nat.reduceSub, Nat.reduceLeDiff, Nat.reduceMul, reduceIte, reduceCtorEq, Int.reduceNeg, Int.reduceToNat, Nat.reduceLT, Int.reduceLE, Int.reduceLT, Int.reduceAdd, Int.reduceSub, Int.reduceMul, maxLenI, wrap64, read1N, over1N, flat0N, shl1N, shl1M, List.length_set, List.length_replicate, Int.toNat_natCast_add_one, testN, hasN, orN, if_pos, if_neg]; rfl) ?_
      refine OpsA.pre 1 (by simp (maxSteps := 2000000) (disch := omega) only [go_sem, Nat.reduceAdd, Nat.reduceSub, Nat.reduceLeDiff, Nat.reduceMul, reduceIte, reduceCtorEq, Int.reduceNeg, Int.reduceToNat, Nat.reduceLT, Int.reduceLE, Int.reduceLT, Int.reduceAdd, Int.reduceSub, Int.reduceMul, maxLenI, wrap64, read1N, over1N, flat0N, shl1N, shl1M, List.length_set, List.length_replicate, Int.toNat_natCast_add_one, testN, hasN, orN, if_pos, if_neg]; rfl) ?_
      refine OpsA.nil ?_
      change RunA _ _ _ _ _
      refine RunA.ret ?_
      refine Ends.mk (by simp only [res45, resA, resAs, resA1]; first | rfl | (simp (maxSteps := 2000000) (disch := omega) only [go_sem, Nat.reduceAdd, Nat.reduceSub, Nat.reduceLeDiff, Nat.reduceMul, reduceIte, reduceCtorEq, Int.reduceNeg, Int.reduceToNat, Nat.reduceLT, Int.reduceLE, Int.reduceLT, Int.reduceAdd, Int.reduceSub, Int.reduceMul, maxLenI, wrap64, read1N, over1N, flat0N, shl1N, shl1M, List.length_set, List.length_replicate, Int.toNat_natCast_add_one, testN, hasN, orN, if_pos, if_neg]; rfl)) ?_
      exact ⟨[], _, (List.append_nil _).symm, by first | rfl | rfl, by (simp only [hasB]; first | (rw [decide_eq_true (show 0 ≤ d ∧ d ≤ 8 from by omega), Bool.true_and]) | (rw [decide_eq_false (show ¬ (0 ≤ d ∧ d ≤ 8) from by omega), Bool.false_and]))⟩
  · try simp only [e1]
    have qe1 := e1; try simp only [decide_eq_true_eq, decide_eq_false_iff_not, Bool.not_eq_true', Bool.not_eq_false', Bool.not_eq_eq_eq_not, Bool.not_true, Bool.not_false, Int.not_le, Int.not_lt, beq_iff_eq, bne_iff_ne, ge_iff_le, gt_iff_lt, beq_eq_false_iff_ne, ne_eq, bne_eq_false_iff_eq] at qe1
    refine OpsA.pre 6 (by simp (maxSteps := 2000000) (disch := omega) only [go_sem, Nat.reduceAdd, Nat.reduceSub, Nat.reduceLeDiff, Nat.reduceMul, reduceIte, reduceCtorEq, Int.reduceNeg, Int.reduceToNat, Nat.reduceLT, Int.reduceLE, Int.reduceLT, Int.reduceAdd, Int.reduceSub, Int.reduceMul, maxLenI, wrap64, read1N, over1N, flat0N, shl1N, shl1M, List.length_set, List.length_replicate, Int.toNat_natCast_add_one, testN, hasN, orN, if_pos, if_neg]; rfl) ?_
    refine OpsA.pre 5 (by simp (maxSteps := 2000000) (disch := omega) only [go_sem, Nat.reduceAdd, Nat.reduceSub, Nat.reduceLeDiff, Nat.reduceMul, reduceIte, reduceCtorEq, Int.reduceNeg, Int.reduceToNat, Nat.reduceLT, Int.reduceLE, Int.reduceLT, Int.reduceAdd, Int.reduceSub, Int.reduceMul, maxLenI, wrap64, read1N, over1N, flat0N, shl1N, shl1M, List.length_set, List.length_replicate, Int.toNat_natCast_add_one, testN, hasN, orN, if_pos, if_neg]; rfl) ?_
    refine OpsA.nil ?_
    change RunA _ _ _ _ _
    refine RunA.ret ?_
    refine Ends.mk (by simp only [res45, resA, resAs, resA1]; first | rfl | (simp (maxSteps := 2000000) (disch := omega) only [go_sem, Nat.reduceAdd, Nat.reduceSub, Nat.reduceLeDiff, Nat.reduceMul, reduceIte, reduceCtorEq, Int.reduceNeg, Int.reduceToNat, Nat.reduceLT, Int.reduceLE, Int.reduceLT, Int.reduceAdd, Int.reduceSub, Int.reduceMul, maxLenI, wrap64, read1N, over1N, flat0N, shl1N, shl1M, List.length_set, List.length_replicate, Int.toNat_natCast_add_one, testN, hasN, orN, if_pos, if_neg]; rfl)) ?_
    exact ⟨[], _, (List.append_nil _).symm, by first | rfl | rfl, by (simp only [hasB]; first | (rw [decide_eq_true (show 0 ≤ d ∧ d ≤ 8 from by omega), Bool.true_and]) | (rw [decide_eq_false (show ¬ (0 ≤ d ∧ d ≤ 8) from by omega), Bool.false_and]))⟩

theorem c45N {h : Heap} (s i : Nat) (hs : s < 512) (hi : i ≤ 8) : CallA Try.prog cfg 45 [.int .i64 ((s : Nat) : Int), .int .i64 ((i : Nat) : Int)] h (fun r h' => r = .bool (s.testBit i) ∧ h' = h) := by
  rw [← hasN hi]
  exact c45 s _ hs

theorem c56 {h : Heap} (r : List Nat) (s : Nat) (hr : ∀ x ∈ r, x < 512) (hs : s < 512) (hl : r.length ≤ 9) : CallA Try.prog cfg 56 [vecN r, .int .i64 ((s : Nat) : Int)] h (fun y' h' => y' = .int .i64 ((applyN r s : Nat) : Int) ∧ h' = h) := by
  refine CallA.body (Q := fun y' => y' = .int .i64 ((applyN r s : Nat) : Int)) good fn56 rfl ?_
  simp only [ntm56, List.length_cons, List.length_nil, Nat.reduceAdd, Nat.reduceSub, List.replicate, List.cons_append, List.nil_append]
  refine RunA.seq ?_
  refine RunA.region good ?_
  refine OpsA.pre 1 (by simp (maxSteps := 2000000) (disch := omega) only [go_sem, Nat.reduceAdd, Nat.reduceSub, Nat.reduceLeDiff, Nat.reduceMul, reduceIte, reduceCtorEq, Int.reduceNeg, Int.reduceToNat, Nat.reduceLT, Int.reduceLE, Int.reduceLT, Int.reduceAdd, Int.reduceSub, Int.reduceMul, maxLenI, wrap64, read1N, over1N, flat0N, shl1N, shl1M, List.length_set, List.length_replicate, Int.toNat_natCast_add_one, testN, hasN, orN, if_pos, if_neg]; rfl) ?_
  refine OpsA.nil ?_
  change RunA _ _ _ _ _
  refine RunA.seq ?_
  refine RunA.region good ?_
  refine OpsA.pre 1 (by simp (maxSteps := 2000000) (disch := omega) only [go_sem, Nat.reduceAdd, Nat.reduceSub, Nat.reduceLeDiff, Nat.reduceMul, reduceIte, reduceCtorEq, Int.reduceNeg, Int.reduceToNat, Nat.reduceLT, Int.reduceLE, Int.reduceLT, Int.reduceAdd, Int.reduceSub, Int.reduceMul, maxLenI, wrap64, read1N, over1N, flat0N, shl1N, shl1M, List.length_set, List.length_replicate, Int.toNat_natCast_add_one, testN, hasN, orN, if_pos, if_neg]; rfl) ?_
  refine OpsA.nil ?_
  change RunA _ _ _ _ _
  refine RunA.seq ?_
  refine RunA.seq ?_
  refine RunA.region good ?_
  refine OpsA.pre 3 (by simp (maxSteps := 2000000) (disch := omega) only [go_sem, Nat.reduceAdd, Nat.reduceSub, Nat.reduceLeDiff, Nat.reduceMul, reduceIte, reduceCtorEq, Int.reduceNeg, Int.reduceToNat, Nat.reduceLT, Int.reduceLE, Int.reduceLT, Int.reduceAdd, Int.reduceSub, Int.reduceMul, maxLenI, wrap64, read1N, over1N, flat0N, shl1N, shl1M, List.length_set, List.length_replicate, Int.toNat_natCast_add_one, testN, hasN, orN, if_pos, if_neg]; rfl) ?_
  refine OpsA.nil ?_
  change RunA _ _ _ _ _
  refine RunA.block ?_
  refine RunA.loopL (fun m st => ∃ (i : Nat), (m = r.length - i ∧ i ≤ r.length) ∧ st = ⟨[vecN r, .int .i64 ((s : Nat) : Int), .any, .any, .int .i64 0, .int .i64 ((applyTo r s i : Nat) : Int), .any, .any, vecN r, .int .i64 ((r.length : Nat) : Int), .int .i64 ((i : Nat) : Int), .any, .any, .any, .any, .any, .any, .any, .any, .any, .any, .any, .any, .any, .any], h⟩) _ ⟨[vecN r, .int .i64 ((s : Nat) : Int), .any, .any, .int .i64 0, .int .i64 ((applyTo r s 0 : Nat) : Int), .any, .any, vecN r, .int .i64 ((r.length : Nat) : Int), .int .i64 ((0 : Nat) : Int), .any, .any, .any, .any, .any, .any, .any, .any, .any, .any, .any, .any, .any, .any], ⟨(.inl (by first | rfl | (congr 1; omega) | (rw [applyT (by assumption)]) | (rw [applyF (by assumption)]))), (.inl (by first | rfl | (congr 1; omega) | (rw [applyT (by assumption)]) | (rw [applyF (by assumption)]))), (.inr rfl), (.inr rfl), (.inl (by first | rfl | (congr 1; omega) | (rw [applyT (by assumption)]) | (rw [applyF (by assumption)]))), (.inl (by first | rfl | (congr 1; omega) | (rw [applyT (by assumption)]) | (rw [applyF (by assumption)]))), (.inr rfl), (.inr rfl), (.inl (by first | rfl | (congr 1; omega) | (rw [applyT (by assumption)]) | (rw [applyF (by assumption)]))), (.inl (by first | rfl | (congr 1; omega) | (rw [applyT (by assumption)]) | (rw [applyF (by assumption)]))), (.inl (by first | rfl | (congr 1; omega) | (rw [applyT (by assumption)]) | (rw [applyF (by assumption)]))), (.inr rfl), (.inr rfl), (.inr rfl), (.inr rfl), (.inr rfl), (.inr rfl), (.inr rfl), (.inr rfl), (.inr rfl), (.inr rfl), (.inr rfl), (.inr rfl), (.inr rfl), (.inr rfl), trivial⟩, 0, ⟨rfl, by omega⟩, rfl⟩ ?_
  rintro m sl h' ⟨i, ⟨hm, hi⟩, hst⟩
  obtain ⟨rfl, rfl⟩ := St.mk.inj hst
  have hacc := applyTo_lt hr s i; have hgi := getD_lt hr i
  refine RunA.seq ?_
  refine RunA.region good ?_
  refine OpsA.pre 1 (by simp (maxSteps := 2000000) (disch := omega) only [go_sem, Nat.reduceAdd, Nat.reduceSub, Nat.reduceLeDiff, Nat.reduceMul, reduceIte, reduceCtorEq, Int.reduceNeg, Int.reduceToNat, Nat.reduceLT, Int.reduceLE, Int.reduceLT, Int.reduceAdd, Int.reduceSub, Int.reduceMul, maxLenI, wrap64, read1N, over1N, flat0N, shl1N, shl1M, List.length_set, List.length_replicate, Int.toNat_natCast_add_one, testN, hasN, orN, if_pos, if_neg]; rfl) ?_
  refine OpsA.nil ?_
  change RunA _ _ _ _ _
  refine RunA.seq ?_
  refine RunA.split 11 rfl (fun e1 => ?_) (fun e1 => ?_)
  · try simp only [e1]
    have qe1 := e1; try simp only [decide_eq_true_eq, decide_eq_false_iff_not, Bool.not_eq_true', Bool.not_eq_false', Bool.not_eq_eq_eq_not, Bool.not_true, Bool.not_false, Int.not_le, Int.not_lt, beq_iff_eq, bne_iff_ne, ge_iff_le, gt_iff_lt, beq_eq_false_iff_ne, ne_eq, bne_eq_false_iff_eq] at qe1
    refine RunA.condT rfl ?_
    refine RunA.skip ?_
    change RunA _ _ _ _ _
    refine RunA.seq ?_
    refine RunA.block ?_
    refine RunA.seq ?_
    refine RunA.region good ?_
    refine OpsA.pre 5 (by simp (maxSteps := 2000000) (disch := omega) only [go_sem, Nat.reduceAdd, Nat.reduceSub, Nat.reduceLeDiff, Nat.reduceMul, reduceIte, reduceCtorEq, Int.reduceNeg, Int.reduceToNat, Nat.reduceLT, Int.reduceLE, Int.reduceLT, Int.reduceAdd, Int.reduceSub, Int.reduceMul, maxLenI, wrap64, read1N, over1N, flat0N, shl1N, shl1M, List.length_set, List.length_replicate, Int.toNat_natCast_add_one, testN, hasN, orN, if_pos, if_neg]; rfl) ?_
    refine OpsA.nil ?_
    change RunA _ _ _ _ _
    refine RunA.seq ?_
    refine RunA.region good ?_
    refine OpsA.pre 5 (by simp (maxSteps := 2000000) (disch := omega) only [go_sem, Nat.reduceAdd, Nat.reduceSub, Nat.reduceLeDiff, Nat.reduceMul, reduceIte, reduceCtorEq, Int.reduceNeg, Int.reduceToNat, Nat.reduceLT, Int.reduceLE, Int.reduceLT, Int.reduceAdd, Int.reduceSub, Int.reduceMul, maxLenI, wrap64, read1N, over1N, flat0N, shl1N, shl1M, List.length_set, List.length_replicate, Int.toNat_natCast_add_one, testN, hasN, orN, if_pos, if_neg]; rfl) ?_
    refine OpsA.nil ?_
    change RunA _ _ _ _ _
    refine RunA.split 19 rfl (fun e2 => ?_) (fun e2 => ?_)
    · try simp only [e2]
      have qe2 := e2; try simp only [decide_eq_true_eq, decide_eq_false_iff_not, Bool.not_eq_true', Bool.not_eq_false', Bool.not_eq_eq_eq_not, Bool.not_true, Bool.not_false, Int.not_le, Int.not_lt, beq_iff_eq, bne_iff_ne, ge_iff_le, gt_iff_lt, beq_eq_false_iff_ne, ne_eq, bne_eq_false_iff_eq] at qe2
      refine RunA.condT rfl ?_
      refine RunA.region good ?_
      refine OpsA.pre 4 (by simp (maxSteps := 2000000) (disch := omega) only [go_sem, Nat.reduceAdd, Nat.reduceSub, Nat.reduceLeDiff, Nat.reduceMul, reduceIte, reduceCtorEq, Int.reduceNeg, Int.reduceToNat, Nat.reduceLT, Int.reduceLE, Int.reduceLT, Int.reduceAdd, Int.reduceSub, Int.reduceMul, maxLenI, wrap64, read1N, over1N, flat0N, shl1N, shl1M, List.length_set, List.length_replicate, Int.toNat_natCast_add_one, testN, hasN, orN, if_pos, if_neg]; rfl) ?_
      refine OpsA.nil ?_
      change RunA _ _ _ _ _
      refine RunA.region good ?_
      refine OpsA.pre 2 (by simp (maxSteps := 2000000) (disch := omega) only [go_sem, Nat.reduceAdd, Nat.reduceSub, Nat.reduceLeDiff, Nat.reduceMul, reduceIte, reduceCtorEq, Int.reduceNeg, Int.reduceToNat, Nat.reduceLT, Int.reduceLE, Int.reduceLT, Int.reduceAdd, Int.reduceSub, Int.reduceMul, maxLenI, wrap64, read1N, over1N, flat0N, shl1N, shl1M, List.length_set, List.length_replicate, Int.toNat_natCast_add_one, testN, hasN, orN, if_pos, if_neg]; rfl) ?_
      refine OpsA.nil ?_
      exact ⟨r.length - (i + 1), by omega, [vecN r, .int .i64 ((s : Nat) : Int), .any, .any, .int .i64 0, .int .i64 ((applyTo r s (i + 1) : Nat) : Int), .any, .any, vecN r, .int .i64 ((r.length : Nat) : Int), .int .i64 (((i + 1) : Nat) : Int), .any, .any, .any, .any, .any, .any, .any, .any, .any, .any, .any, .any, .any, .any], ⟨(.inl (by first | rfl | (congr 1; omega) | (rw [applyT (by assumption)]) | (rw [applyF (by assumption)]))), (.inl (by first | rfl | (congr 1; omega) | (rw [applyT (by assumption)]) | (rw [applyF (by assumption)]))), (.inr rfl), (.inr rfl), (.inl (by first | rfl | (congr 1; omega) | (rw [applyT (by assumption)]) | (rw [applyF (by assumption)]))), (.inl (by first | rfl | (congr 1; omega) | (rw [applyT (by assumption)]) | (rw [applyF (by assumption)]))), (.inr rfl), (.inr rfl), (.inl (by first | rfl | (congr 1; omega) | (rw [applyT (by assumption)]) | (rw [applyF (by assumption)]))), (.inl (by first | rfl | (congr 1; omega) | (rw [applyT (by assumption)]) | (rw [applyF (by assumption)]))), (.inl (by first | rfl | (congr 1; omega) | (rw [applyT (by assumption)]) | (rw [applyF (by assumption)]))), (.inr rfl), (.inr rfl), (.inr rfl), (.inr rfl), (.inr rfl), (.inr rfl), (.inr rfl), (.inr rfl), (.inr rfl), (.inr rfl), (.inr rfl), (.inr rfl), (.inr rfl), (.inr rfl), trivial⟩, (i + 1), ⟨rfl, by omega⟩, rfl⟩
    · try simp only [e2]
      have qe2 := e2; try simp only [decide_eq_true_eq, decide_eq_false_iff_not, Bool.not_eq_true', Bool.not_eq_false', Bool.not_eq_eq_eq_not, Bool.not_true, Bool.not_false, Int.not_le, Int.not_lt, beq_iff_eq, bne_iff_ne, ge_iff_le, gt_iff_lt, beq_eq_false_iff_ne, ne_eq, bne_eq_false_iff_eq] at qe2
      refine RunA.condF rfl ?_
      refine RunA.skip ?_
      change RunA _ _ _ _ _
      refine RunA.region good ?_
      refine OpsA.pre 2 (by simp (maxSteps := 2000000) (disch := omega) only [go_sem, Nat.reduceAdd, Nat.reduceSub, Nat.reduceLeDiff, Nat.reduceMul, reduceIte, reduceCtorEq, Int.reduceNeg, Int.reduceToNat, Nat.reduceLT, Int.reduceLE, Int.reduceLT, Int.reduceAdd, Int.reduceSub, Int.reduceMul, maxLenI, wrap64, read1N, over1N, flat0N, shl1N, shl1M, List.length_set, List.length_replicate, Int.toNat_natCast_add_one, testN, hasN, orN, if_pos, if_neg]; rfl) ?_
      refine OpsA.nil ?_
      exact ⟨r.length - (i + 1), by omega, [vecN r, .int .i64 ((s : Nat) : Int), .any, .any, .int .i64 0, .int .i64 ((applyTo r s (i + 1) : Nat) : Int), .any, .any, vecN r, .int .i64 ((r.length : Nat) : Int), .int .i64 (((i + 1) : Nat) : Int), .any, .any, .any, .any, .any, .any, .any, .any, .any, .any, .any, .any, .any, .any], ⟨(.inl (by first | rfl | (congr 1; omega) | (rw [applyT (by assumption)]) | (rw [applyF (by assumption)]))), (.inl (by first | rfl | (congr 1; omega) | (rw [applyT (by assumption)]) | (rw [applyF (by assumption)]))), (.inr rfl), (.inr rfl), (.inl (by first | rfl | (congr 1; omega) | (rw [applyT (by assumption)]) | (rw [applyF (by assumption)]))), (.inl (by first | rfl | (congr 1; omega) | (rw [applyT (by assumption)]) | (rw [applyF (by assumption)]))), (.inr rfl), (.inr rfl), (.inl (by first | rfl | (congr 1; omega) | (rw [applyT (by assumption)]) | (rw [applyF (by assumption)]))), (.inl (by first | rfl | (congr 1; omega) | (rw [applyT (by assumption)]) | (rw [applyF (by assumption)]))), (.inl (by first | rfl | (congr 1; omega) | (rw [applyT (by assumption)]) | (rw [applyF (by assumption)]))), (.inr rfl), (.inr rfl), (.inr rfl), (.inr rfl), (.inr rfl), (.inr rfl), (.inr rfl), (.inr rfl), (.inr rfl), (.inr rfl), (.inr rfl), (.inr rfl), (.inr rfl), (.inr rfl), trivial⟩, (i + 1), ⟨rfl, by omega⟩, rfl⟩
  · try simp only [e1]
    have qe1 := e1; try simp only [decide_eq_true_eq, decide_eq_false_iff_not, Bool.not_eq_true', Bool.not_eq_false', Bool.not_eq_eq_eq_not, Bool.not_true, Bool.not_false, Int.not_le, Int.not_lt, beq_iff_eq, bne_iff_ne, ge_iff_le, gt_iff_lt, beq_eq_false_iff_ne, ne_eq, bne_eq_false_iff_eq] at qe1
    refine RunA.condF rfl ?_
    refine RunA.exit ?_
    change RunA _ _ _ _ _
    refine RunA.seq ?_
    refine RunA.region good ?_
    refine OpsA.pre 2 (by simp (maxSteps := 2000000) (disch := omega) only [go_sem, Nat.reduceAdd, Nat.reduceSub, Nat.reduceLeDiff, Nat.reduceMul, reduceIte, reduceCtorEq, Int.reduceNeg, Int.reduceToNat, Nat.reduceLT, Int.reduceLE, Int.reduceLT, Int.reduceAdd, Int.reduceSub, Int.reduceMul, maxLenI, wrap64, read1N, over1N, flat0N, shl1N, shl1M, List.length_set, List.length_replicate, Int.toNat_natCast_add_one, testN, hasN, orN, if_pos, if_neg]; rfl) ?_
    refine OpsA.nil ?_
    change RunA _ _ _ _ _
    refine RunA.ret ?_
    refine Ends.mk (by simp only [res56, resA, resAs, resA1]; first | rfl | (simp (maxSteps := 2000000) (disch := omega) only [go_sem, Nat.reduceAdd, Nat.reduceSub, Nat.reduceLeDiff, Nat.reduceMul, reduceIte, reduceCtorEq, Int.reduceNeg, Int.reduceToNat, Nat.reduceLT, Int.reduceLE, Int.reduceLT, Int.reduceAdd, Int.reduceSub, Int.reduceMul, maxLenI, wrap64, read1N, over1N, flat0N, shl1N, shl1M, List.length_set, List.length_replicate, Int.toNat_natCast_add_one, testN, hasN, orN, if_pos, if_neg]; rfl)) ?_
    exact ⟨[], _, (List.append_nil _).symm, by first | rfl | rfl, by (show AV.int .i64 _ = _; rw [applyN, show i = r.length from by omega])⟩

theorem c49 {h : Heap} (r : List Nat) (s : Nat) (hr : ∀ x ∈ r, x < 512) (hs : s < 512) (hl : r.length ≤ 9) : CallA Try.prog cfg 49 [vecN r, .int .i64 ((s : Nat) : Int)] h (fun y' h' => y' = .int .i64 ((applyN r s : Nat) : Int) ∧ h' = h) := by
  refine CallA.body (Q := fun y' => y' = .int .i64 ((applyN r s : Nat) : Int)) good fn49 rfl ?_
  simp only [ntm49, List.length_cons, List.length_nil, Nat.reduceAdd, Nat.reduceSub, List.replicate, List.cons_append, List.nil_append]
  refine RunA.seq ?_
  refine RunA.region good ?_
  refine OpsA.pre 1 (by simp (maxSteps := 2000000) (disch := omega) only [go_sem, Nat.reduceAdd, Nat.reduceSub, Nat.reduceLeDiff, Nat.reduceMul, reduceIte, reduceCtorEq, Int.reduceNeg, Int.reduceToNat, Nat.reduceLT, Int.reduceLE, Int.reduceLT, Int.reduceAdd, Int.reduceSub, Int.reduceMul, maxLenI, wrap64, read1N, over1N, flat0N, shl1N, shl1M, List.length_set, List.length_replicate, Int.toNat_natCast_add_one, testN, hasN, orN, if_pos, if_neg]; rfl) ?_
  refine OpsA.nil ?_
  change RunA _ _ _ _ _
  refine RunA.seq ?_
  refine RunA.region good ?_
  refine OpsA.pre 1 (by simp (maxSteps := 2000000) (disch := omega) only [go_sem, Nat.reduceAdd, Nat.reduceSub, Nat.reduceLeDiff, Nat.reduceMul, reduceIte, reduceCtorEq, Int.reduceNeg, Int.reduceToNat, Nat.reduceLT, Int.reduceLE, Int.reduceLT, Int.reduceAdd, Int.reduceSub, Int.reduceMul, maxLenI, wrap64, read1N, over1N, flat0N, shl1N, shl1M, List.length_set, List.length_replicate, Int.toNat_natCast_add_one, testN, hasN, orN, if_pos, if_neg]; rfl) ?_
  refine OpsA.nil ?_
  change RunA _ _ _ _ _
  refine RunA.seq ?_
  refine RunA.seq ?_
  refine RunA.region good ?_
  refine OpsA.pre 1 (by simp (maxSteps := 2000000) (disch := omega) only [go_sem, Nat.reduceAdd, Nat.reduceSub, Nat.reduceLeDiff, Nat.reduceMul, reduceIte, reduceCtorEq, Int.reduceNeg, Int.reduceToNat, Nat.reduceLT, Int.reduceLE, Int.reduceLT, Int.reduceAdd, Int.reduceSub, Int.reduceMul, maxLenI, wrap64, read1N, over1N, flat0N, shl1N, shl1M, List.length_set, List.length_replicate, Int.toNat_natCast_add_one, testN, hasN, orN, if_pos, if_neg]; rfl) ?_
  refine OpsA.nil ?_
  change RunA _ _ _ _ _
  refine RunA.block ?_
  refine RunA.loopL (fun m st => ∃ (i : Nat), (m = r.length - i ∧ i ≤ r.length) ∧ st = ⟨[vecN r, .int .i64 ((s : Nat) : Int), .any, .any, .int .i64 0, .int .i64 ((applyTo r s i : Nat) : Int), .int .i64 ((i : Nat) : Int), .any, .any, .any, .any, .any, .any, .any, .any, .any, .any, .any, .any, .any, .any, .any, .any], h⟩) _ ⟨[vecN r, .int .i64 ((s : Nat) : Int), .any, .any, .int .i64 0, .int .i64 ((applyTo r s 0 : Nat) : Int), .int .i64 ((0 : Nat) : Int), .any, .any, .any, .any, .any, .any, .any, .any, .any, .any, .any, .any, .any, .any, .any, .any], ⟨(.inl (by first | rfl | (congr 1; omega) | (rw [applyT (by assumption)]) | (rw [applyF (by assumption)]))), (.inl (by first | rfl | (congr 1; omega) | (rw [applyT (by assumption)]) | (rw [applyF (by assumption)]))), (.inr rfl), (.inr rfl), (.inl (by first | rfl | (congr 1; omega) | (rw [applyT (by assumption)]) | (rw [applyF (by assumption)]))), (.inl (by first | rfl | (congr 1; omega) | (rw [applyT (by assumption)]) | (rw [applyF (by assumption)]))), (.inl (by first | rfl | (congr 1; omega) | (rw [applyT (by assumption)]) | (rw [applyF (by assumption)]))), (.inr rfl), (.inr rfl), (.inr rfl), (.inr rfl), (.inr rfl), (.inr rfl), (.inr rfl), (.inr rfl), (.inr rfl), (.inr rfl), (.inr rfl), (.inr rfl), (.inr rfl), (.inr rfl), (.inr rfl), (.inr rfl), trivial⟩, 0, ⟨rfl, by omega⟩, rfl⟩ ?_
  rintro m sl h' ⟨i, ⟨hm, hi⟩, hst⟩
  obtain ⟨rfl, rfl⟩ := St.mk.inj hst
  have hacc := applyTo_lt hr s i; have hgi := getD_lt hr i
  refine RunA.seq ?_
  refine RunA.seq ?_
  refine RunA.region good ?_
  refine OpsA.pre 4 (by simp (maxSteps := 2000000) (disch := omega) only [go_sem, Nat.reduceAdd, Nat.reduceSub, Nat.reduceLeDiff, Nat.reduceMul, reduceIte, reduceCtorEq, Int.reduceNeg, Int.reduceToNat, Nat.reduceLT, Int.reduceLE, Int.reduceLT, Int.reduceAdd, Int.reduceSub, Int.reduceMul, maxLenI, wrap64, read1N, over1N, flat0N, shl1N, shl1M, List.length_set, List.length_replicate, Int.toNat_natCast_add_one, testN, hasN, orN, if_pos, if_neg]; rfl) ?_
  refine OpsA.nil ?_
  change RunA _ _ _ _ _
  refine RunA.split 10 rfl (fun e1 => ?_) (fun e1 => ?_)
  · try simp only [e1]
    have qe1 := e1; try simp only [decide_eq_true_eq, decide_eq_false_iff_not, Bool.not_eq_true', Bool.not_eq_false', Bool.not_eq_eq_eq_not, Bool.not_true, Bool.not_false, Int.not_le, Int.not_lt, beq_iff_eq, bne_iff_ne, ge_iff_le, gt_iff_lt, beq_eq_false_iff_ne, ne_eq, bne_eq_false_iff_eq] at qe1
    refine RunA.condT rfl ?_
    refine RunA.skip ?_
    change RunA _ _ _ _ _
    refine RunA.seq ?_
    refine RunA.block ?_
    refine RunA.seq ?_
    refine RunA.region good ?_
    refine OpsA.pre 2 (by simp (maxSteps := 2000000) (disch := omega) only [go_sem, Nat.reduceAdd, Nat.reduceSub, Nat.reduceLeDiff, Nat.reduceMul, reduceIte, reduceCtorEq, Int.reduceNeg, Int.reduceToNat, Nat.reduceLT, Int.reduceLE, Int.reduceLT, Int.reduceAdd, Int.reduceSub, Int.reduceMul, maxLenI, wrap64, read1N, over1N, flat0N, shl1N, shl1M, List.length_set, List.length_replicate, Int.toNat_natCast_add_one, testN, hasN, orN, if_pos, if_neg]; rfl) ?_
    refine OpsA.callQ rfl rfl rfl hb45 (c45N _ _ hs (by omega)) ?_
    refine OpsA.nil ?_
    change RunA _ _ _ _ _
    refine RunA.split 15 rfl (fun e2 => ?_) (fun e2 => ?_)
    · try simp only [e2]
      have qe2 := e2; try simp only [decide_eq_true_eq, decide_eq_false_iff_not, Bool.not_eq_true', Bool.not_eq_false', Bool.not_eq_eq_eq_not, Bool.not_true, Bool.not_false, Int.not_le, Int.not_lt, beq_iff_eq, bne_iff_ne, ge_iff_le, gt_iff_lt, beq_eq_false_iff_ne, ne_eq, bne_eq_false_iff_eq] at qe2
      refine RunA.condT rfl ?_
      refine RunA.region good ?_
      refine OpsA.pre 6 (by simp (maxSteps := 2000000) (disch := omega) only [go_sem, Nat.reduceAdd, Nat.reduceSub, Nat.reduceLeDiff, Nat.reduceMul, reduceIte, reduceCtorEq, Int.reduceNeg, Int.reduceToNat, Nat.reduceLT, Int.reduceLE, Int.reduceLT, Int.reduceAdd, Int.reduceSub, Int.reduceMul, maxLenI, wrap64, read1N, over1N, flat0N, shl1N, shl1M, List.length_set, List.length_replicate, Int.toNat_natCast_add_one, testN, hasN, orN, if_pos, if_neg]; rfl) ?_
      refine OpsA.pre 1 (by simp (maxSteps := 2000000) (disch := omega) only [go_sem, Nat.reduceAdd, Nat.reduceSub, Nat.reduceLeDiff, Nat.reduceMul, reduceIte, reduceCtorEq, Int.reduceNeg, Int.reduceToNat, Nat.reduceLT, Int.reduceLE, Int.reduceLT, Int.reduceAdd, Int.reduceSub, Int.reduceMul, maxLenI, wrap64, read1N, over1N, flat0N, shl1N, shl1M, List.length_set, List.length_replicate, Int.toNat_natCast_add_one, testN, hasN, orN, if_pos, if_neg]; rfl) ?_
      refine OpsA.nil ?_
      change RunA _ _ _ _ _
      refine RunA.region good ?_
      refine OpsA.pre 3 (by simp (maxSteps := 2000000) (disch := omega) only [go_sem, Nat.reduceAdd, Nat.reduceSub, Nat.reduceLeDiff, Nat.reduceMul, reduceIte, reduceCtorEq, Int.reduceNeg, Int.reduceToNat, Nat.reduceLT, Int.reduceLE, Int.reduceLT, Int.reduceAdd, Int.reduceSub, Int.reduceMul, maxLenI, wrap64, read1N, over1N, flat0N, shl1N, shl1M, List.length_set, List.length_replicate, Int.toNat_natCast_add_one, testN, hasN, orN, if_pos, if_neg]; rfl) ?_
      refine OpsA.nil ?_
      exact ⟨r.length - (i + 1), by omega, [vecN r, .int .i64 ((s : Nat) : Int), .any, .any, .int .i64 0, .int .i64 ((applyTo r s (i + 1) : Nat) : Int), .int .i64 (((i + 1) : Nat) : Int), .any, .any, .any, .any, .any, .any, .any, .any, .any, .any, .any, .any, .any, .any, .any, .any], ⟨(.inl (by first | rfl | (congr 1; omega) | (rw [applyT (by assumption)]) | (rw [applyF (by assumption)]))), (.inl (by first | rfl | (congr 1; omega) | (rw [applyT (by assumption)]) | (rw [applyF (by assumption)]))), (.inr rfl), (.inr rfl), (.inl (by first | rfl | (congr 1; omega) | (rw [applyT (by assumption)]) | (rw [applyF (by assumption)]))), (.inl (by first | rfl | (congr 1; omega) | (rw [applyT (by assumption)]) | (rw [applyF (by assumption)]))), (.inl (by first | rfl | (congr 1; omega) | (rw [applyT (by assumption)]) | (rw [applyF (by assumption)]))), (.inr rfl), (.inr rfl), (.inr rfl), (.inr rfl), (.inr rfl), (.inr rfl), (.inr rfl), (.inr rfl), (.inr rfl), (.inr rfl), (.inr rfl), (.inr rfl), (.inr rfl), (.inr rfl), (.inr rfl), (.inr rfl), trivial⟩, (i + 1), ⟨rfl, by omega⟩, rfl⟩
    · try simp only [e2]
      have qe2 := e2; try simp only [decide_eq_true_eq, decide_eq_false_iff_not, Bool.not_eq_true', Bool.not_eq_false', Bool.not_eq_eq_eq_not, Bool.not_true, Bool.not_false, Int.not_le, Int.not_lt, beq_iff_eq, bne_iff_ne, ge_iff_le, gt_iff_lt, beq_eq_false_iff_ne, ne_eq, bne_eq_false_iff_eq] at qe2
      refine RunA.condF rfl ?_
      refine RunA.skip ?_
      change RunA _ _ _ _ _
      refine RunA.region good ?_
      refine OpsA.pre 3 (by simp (maxSteps := 2000000) (disch := omega) only [go_sem, Nat.reduceAdd, Nat.reduceSub, Nat.reduceLeDiff, Nat.reduceMul, reduceIte, reduceCtorEq, Int.reduceNeg, Int.reduceToNat, Nat.reduceLT, Int.reduceLE, Int.reduceLT, Int.reduceAdd, Int.reduceSub, Int.reduceMul, maxLenI, wrap64, read1N, over1N, flat0N, shl1N, shl1M, List.length_set, List.length_replicate, Int.toNat_natCast_add_one, testN, hasN, orN, if_pos, if_neg]; rfl) ?_
      refine OpsA.nil ?_
      exact ⟨r.length - (i + 1), by omega, [vecN r, .int .i64 ((s : Nat) : Int), .any, .any, .int .i64 0, .int .i64 ((applyTo r s (i + 1) : Nat) : Int), .int .i64 (((i + 1) : Nat) : Int), .any, .any, .any, .any, .any, .any, .any, .any, .any, .any, .any, .any, .any, .any, .any, .any], ⟨(.inl (by first | rfl | (congr 1; omega) | (rw [applyT (by assumption)]) | (rw [applyF (by assumption)]))), (.inl (by first | rfl | (congr 1; omega) | (rw [applyT (by assumption)]) | (rw [applyF (by assumption)]))), (.inr rfl), (.inr rfl), (.inl (by first | rfl | (congr 1; omega) | (rw [applyT (by assumption)]) | (rw [applyF (by assumption)]))), (.inl (by first | rfl | (congr 1; omega) | (rw [applyT (by assumption)]) | (rw [applyF (by assumption)]))), (.inl (by first | rfl | (congr 1; omega) | (rw [applyT (by assumption)]) | (rw [applyF (by assumption)]))), (.inr rfl), (.inr rfl), (.inr rfl), (.inr rfl), (.inr rfl), (.inr rfl), (.inr rfl), (.inr rfl), (.inr rfl), (.inr rfl), (.inr rfl), (.inr rfl), (.inr rfl), (.inr rfl), (.inr rfl), (.inr rfl), trivial⟩, (i + 1), ⟨rfl, by omega⟩, rfl⟩
  · try simp only [e1]
    have qe1 := e1; try simp only [decide_eq_true_eq, decide_eq_false_iff_not, Bool.not_eq_true', Bool.not_eq_false', Bool.not_eq_eq_eq_not, Bool.not_true, Bool.not_false, Int.not_le, Int.not_lt, beq_iff_eq, bne_iff_ne, ge_iff_le, gt_iff_lt, beq_eq_false_iff_ne, ne_eq, bne_eq_false_iff_eq] at qe1
    refine RunA.condF rfl ?_
    refine RunA.exit ?_
    change RunA _ _ _ _ _
    refine RunA.seq ?_
    refine RunA.region good ?_
    refine OpsA.pre 2 (by simp (maxSteps := 2000000) (disch := omega) only [go_sem, Nat.reduceAdd, Nat.reduceSub, Nat.reduceLeDiff, Nat.reduceMul, reduceIte, reduceCtorEq, Int.reduceNeg, Int.reduceToNat, Nat.reduceLT, Int.reduceLE, Int.reduceLT, Int.reduceAdd, Int.reduceSub, Int.reduceMul, maxLenI, wrap64, read1N, over1N, flat0N, shl1N, shl1M, List.length_set, List.length_replicate, Int.toNat_natCast_add_one, testN, hasN, orN, if_pos, if_neg]; rfl) ?_
    refine OpsA.nil ?_
    change RunA _ _ _ _ _
    refine RunA.ret ?_
    refine Ends.mk (by simp only [res49, resA, resAs, resA1]; first | rfl | (simp (maxSteps := 2000000) (disch := omega) only [go_sem, Nat.reduceAdd, Nat.reduceSub, Nat.reduceLeDiff, Nat.reduceMul, reduceIte, reduceCtorEq, Int.reduceNeg, Int.reduceToNat, Nat.reduceLT, Int.reduceLE, Int.reduceLT, Int.reduceAdd, Int.reduceSub, Int.reduceMul, maxLenI, wrap64, read1N, over1N, flat0N, shl1N, shl1M, List.length_set, List.length_replicate, Int.toNat_natCast_add_one, testN, hasN, orN, if_pos, if_neg]; rfl)) ?_
    exact ⟨[], _, (List.append_nil _).symm, by first | rfl | rfl, by (show AV.int .i64 _ = _; rw [applyN, show i = r.length from by omega])⟩

theorem c41 {h : Heap} (r : List Nat) (s : Nat) (hr : ∀ x ∈ r, x < 512) (hs : s < 512) (hl : r.length ≤ 9) : CallA Try.prog cfg 41 [vecN r, .int .i64 ((s : Nat) : Int)] h (fun y' h' => y' = .int .i64 ((applyN r s : Nat) : Int) ∧ h' = h) := by
  refine CallA.body (Q := fun y' => y' = .int .i64 ((applyN r s : Nat) : Int)) good fn41 rfl ?_
  simp only [ntm41, List.length_cons, List.length_nil, Nat.reduceAdd, Nat.reduceSub, List.replicate, List.cons_append, List.nil_append]
  refine RunA.seq ?_
  refine RunA.region good ?_
  refine OpsA.pre 1 (by simp (maxSteps := 2000000) (disch := omega) only [go_sem, Nat.reduceAdd, Nat.reduceSub, Nat.reduceLeDiff, Nat.reduceMul, reduceIte, reduceCtorEq, Int.reduceNeg, Int.reduceToNat, Nat.reduceLT, Int.reduceLE, Int.reduceLT, Int.reduceAdd, Int.reduceSub, Int.reduceMul, maxLenI, wrap64, read1N, over1N, flat0N, shl1N, shl1M, List.length_set, List.length_replicate, Int.toNat_natCast_add_one, testN, hasN, orN]; rfl) ?_
  refine OpsA.nil ?_
  change RunA _ _ _ _ _
  refine RunA.seq ?_
  refine RunA.region good ?_
  refine OpsA.pre 2 (by simp (maxSteps := 2000000) (disch := omega) only [go_sem, Nat.reduceAdd, Nat.reduceSub, Nat.reduceLeDiff, Nat.reduceMul, reduceIte, reduceCtorEq, Int.reduceNeg, Int.reduceToNat, Nat.reduceLT, Int.reduceLE, Int.reduceLT, Int.reduceAdd, Int.reduceSub, Int.reduceMul, maxLenI, wrap64, read1N, over1N, flat0N, shl1N, shl1M, List.length_set, List.length_replicate, Int.toNat_natCast_add_one, testN, hasN, orN]; rfl) ?_
  refine OpsA.callQ rfl rfl rfl hb56 (c56 _ _ hr hs hl) ?_
  refine OpsA.pre 1 (by simp (maxSteps := 2000000) (disch := omega) only [go_sem, Nat.reduceAdd, Nat.reduceSub, Nat.reduceLeDiff, Nat.reduceMul, reduceIte, reduceCtorEq, Int.reduceNeg, Int.reduceToNat, Nat.reduceLT, Int.reduceLE, Int.reduceLT, Int.reduceAdd, Int.reduceSub, Int.reduceMul, maxLenI, wrap64, read1N, over1N, flat0N, shl1N, shl1M, List.length_set, List.length_replicate, Int.toNat_natCast_add_one, testN, hasN, orN]; rfl) ?_
  refine OpsA.nil ?_
  change RunA _ _ _ _ _
  refine RunA.ret ?_
  refine Ends.mk (by simp only [res41, resA, resAs, resA1]; first | rfl | (simp (maxSteps := 2000000) (disch := omega) only [go_sem, Nat.reduceAdd, Nat.reduceSub, Nat.reduceLeDiff, Nat.reduceMul, reduceIte, reduceCtorEq, Int.reduceNeg, Int.reduceToNat, Nat.reduceLT, Int.reduceLE, Int.reduceLT, Int.reduceAdd, Int.reduceSub, Int.reduceMul, maxLenI, wrap64, read1N, over1N, flat0N, shl1N, shl1M, List.length_set, List.length_replicate, Int.toNat_natCast_add_one, testN, hasN, orN]; rfl)) ?_
  exact ⟨[], _, (List.append_nil _).symm, by first | rfl | rfl, by rfl⟩

theorem c46 {h : Heap} (nm : ByteArray) (b : Bool) (z : Int) : CallA Try.prog cfg 46 [.agg [.str nm, .bool b, .int .i64 z]] h (fun y' h' => y' = .int .i64 (if z = 0 ∧ b = false then 1 else 8) ∧ h' = h) := by
  refine CallA.body (Q := fun y' => y' = .int .i64 (if z = 0 ∧ b = false then 1 else 8)) good fn46 rfl ?_
  simp only [ntm46, List.length_cons, List.length_nil, Nat.reduceAdd, Nat.reduceSub, List.replicate, List.cons_append, List.nil_append]
  refine RunA.seq ?_
  refine RunA.region good ?_
  refine OpsA.pre 2 (by simp (maxSteps := 2000000) (disch := omega) only [go_sem, Nat.reduceAdd, Nat.reduceSub, Nat.reduceLeDiff, Nat.reduceMul, reduceIte, reduceCtorEq, Int.reduceNeg, Int.reduceToNat, Nat.reduceLT, Int.reduceLE, Int.reduceLT, Int.reduceAdd, Int.reduceSub, Int.reduceMul, maxLenI, wrap64, read1N, over1N, flat0N, shl1N, shl1M, List.length_set, List.length_replicate, Int.toNat_natCast_add_one]; rfl) ?_
  refine OpsA.nil ?_
  change RunA _ _ _ _ _
  refine RunA.seq ?_
  refine RunA.seq ?_
  refine RunA.region good ?_
  refine OpsA.pre 4 (by simp (maxSteps := 2000000) (disch := omega) only [go_sem, Nat.reduceAdd, Nat.reduceSub, Nat.reduceLeDiff, Nat.reduceMul, reduceIte, reduceCtorEq, Int.reduceNeg, Int.reduceToNat, Nat.reduceLT, Int.reduceLE, Int.reduceLT, Int.reduceAdd, Int.reduceSub, Int.reduceMul, maxLenI, wrap64, read1N, over1N, flat0N, shl1N, shl1M, List.length_set, List.length_replicate, Int.toNat_natCast_add_one]; rfl) ?_
  refine OpsA.split 6 rfl (fun e1 => ?_) (fun e1 => ?_)
  · try simp only [e1]
    have qe1 := e1; try simp only [decide_eq_true_eq, decide_eq_false_iff_not, Bool.not_eq_true', Bool.not_eq_false', Bool.not_eq_eq_eq_not, Bool.not_true, Bool.not_false, Int.not_le, Int.not_lt, beq_iff_eq, bne_iff_ne, ge_iff_le, gt_iff_lt, beq_eq_false_iff_ne, ne_eq, bne_eq_false_iff_eq] at qe1
    refine OpsA.pre 4 (by simp (maxSteps := 2000000) (disch := omega) only [go_sem, Nat.reduceAdd, Nat.reduceSub, Nat.reduceLeDiff, Nat.reduceMul, reduceIte, reduceCtorEq, Int.reduceNeg, Int.reduceToNat, Nat.reduceLT, Int.reduceLE, Int.reduceLT, Int.reduceAdd, Int.reduceSub, Int.reduceMul, maxLenI, wrap64, read1N, over1N, flat0N, shl1N, shl1M, List.length_set, List.length_replicate, Int.toNat_natCast_add_one]; rfl) ?_
    refine OpsA.nil ?_
    change RunA _ _ _ _ _
    refine RunA.split 10 rfl (fun e2 => ?_) (fun e2 => ?_)
    · try simp only [e2]
      have qe2 := e2; try simp only [decide_eq_true_eq, decide_eq_false_iff_not, Bool.not_eq_true', Bool.not_eq_false', Bool.not_eq_eq_eq_not, Bool.not_true, Bool.not_false, Int.not_le, Int.not_lt, beq_iff_eq, bne_iff_ne, ge_iff_le, gt_iff_lt, beq_eq_false_iff_ne, ne_eq, bne_eq_false_iff_eq] at qe2
      refine RunA.condT rfl ?_
      refine RunA.seq ?_
      refine RunA.region good ?_
      refine OpsA.pre 1 (by simp (maxSteps := 2000000) (disch := omega) only [go_sem, Nat.reduceAdd, Nat.reduceSub, Nat.reduceLeDiff, Nat.reduceMul, reduceIte, reduceCtorEq, Int.reduceNeg, Int.reduceToNat, Nat.reduceLT, Int.reduceLE, Int.reduceLT, Int.reduceAdd, Int.reduceSub, Int.reduceMul, maxLenI, wrap64, read1N, over1N, flat0N, shl1N, shl1M, List.length_set, List.length_replicate, Int.toNat_natCast_add_one]; rfl) ?_
      refine OpsA.nil ?_
      change RunA _ _ _ _ _
      refine RunA.ret ?_
      refine Ends.mk (by simp only [res46, resA, resAs, resA1]; first | rfl | (simp (maxSteps := 2000000) (disch := omega) only [go_sem, Nat.reduceAdd, Nat.reduceSub, Nat.reduceLeDiff, Nat.reduceMul, reduceIte, reduceCtorEq, Int.reduceNeg, Int.reduceToNat, Nat.reduceLT, Int.reduceLE, Int.reduceLT, Int.reduceAdd, Int.reduceSub, Int.reduceMul, maxLenI, wrap64, read1N, over1N, flat0N, shl1N, shl1M, List.length_set, List.length_replicate, Int.toNat_natCast_add_one]; rfl)) ?_
      exact ⟨_, _, rfl, by first | rfl | (simp only [frzT, frzP, optMap, get_app, get_app0]; rfl), by (show AV.int .i64 _ = _; simp [*])⟩
    · try simp only [e2]
      have qe2 := e2; try simp only [decide_eq_true_eq, decide_eq_false_iff_not, Bool.not_eq_true', Bool.not_eq_false', Bool.not_eq_eq_eq_not, Bool.not_true, Bool.not_false, Int.not_le, Int.not_lt, beq_iff_eq, bne_iff_ne, ge_iff_le, gt_iff_lt, beq_eq_false_iff_ne, ne_eq, bne_eq_false_iff_eq] at qe2
      refine RunA.condF rfl ?_
      refine RunA.skip ?_
      change RunA _ _ _ _ _
      refine RunA.seq ?_
      refine RunA.region good ?_
      refine OpsA.pre 1 (by simp (maxSteps := 2000000) (disch := omega) only [go_sem, Nat.reduceAdd, Nat.reduceSub, Nat.reduceLeDiff, Nat.reduceMul, reduceIte, reduceCtorEq, Int.reduceNeg, Int.reduceToNat, Nat.reduceLT, Int.reduceLE, Int.reduceLT, Int.reduceAdd, Int.reduceSub, Int.reduceMul, maxLenI, wrap64, read1N, over1N, flat0N, shl1N, shl1M, List.length_set, List.length_replicate, Int.toNat_natCast_add_one]; rfl) ?_
      refine OpsA.nil ?_
      change RunA _ _ _ _ _
      refine RunA.ret ?_
      refine Ends.mk (by simp only [res46, resA, resAs, resA1]; first | rfl | (simp (maxSteps := 2000000) (disch := omega) only [go_sem, Nat.reduceAdd, Nat.reduceSub, Nat.reduceLeDiff, Nat.reduceMul, reduceIte, reduceCtorEq, Int.reduceNeg, Int.reduceToNat, Nat.reduceLT, Int.reduceLE, Int.reduceLT, Int.reduceAdd, Int.reduceSub, Int.reduceMul, maxLenI, wrap64, read1N, over1N, flat0N, shl1N, shl1M, List.length_set, List.length_replicate, Int.toNat_natCast_add_one]; rfl)) ?_
      exact ⟨_, _, rfl, by first | rfl | (simp only [frzT, frzP, optMap, get_app, get_app0]; rfl), by (show AV.int .i64 _ = _; simp [*])⟩
  · try simp only [e1]
    have qe1 := e1; try simp only [decide_eq_true_eq, decide_eq_false_iff_not, Bool.not_eq_true', Bool.not_eq_false', Bool.not_eq_eq_eq_not, Bool.not_true, Bool.not_false, Int.not_le, Int.not_lt, beq_iff_eq, bne_iff_ne, ge_iff_le, gt_iff_lt, beq_eq_false_iff_ne, ne_eq, bne_eq_false_iff_eq] at qe1
    refine OpsA.pre 4 (by simp (maxSteps := 2000000) (disch := omega) only [go_sem, Nat.reduceAdd, Nat.reduceSub, Nat.reduceLeDiff, Nat.reduceMul, reduceIte, reduceCtorEq, Int.reduceNeg, Int.reduceToNat, Nat.reduceLT, Int.reduceLE, Int.reduceLT, Int.reduceAdd, Int.reduceSub, Int.reduceMul, maxLenI, wrap64, read1N, over1N, flat0N, shl1N, shl1M, List.length_set, List.length_replicate, Int.toNat_natCast_add_one]; rfl) ?_
    refine OpsA.nil ?_
    change RunA _ _ _ _ _
    refine RunA.condF rfl ?_
    refine RunA.skip ?_
    change RunA _ _ _ _ _
    refine RunA.seq ?_
    refine RunA.region good ?_
    refine OpsA.pre 1 (by simp (maxSteps := 2000000) (disch := omega) only [go_sem, Nat.reduceAdd, Nat.reduceSub, Nat.reduceLeDiff, Nat.reduceMul, reduceIte, reduceCtorEq, Int.reduceNeg, Int.reduceToNat, Nat.reduceLT, Int.reduceLE, Int.reduceLT, Int.reduceAdd, Int.reduceSub, Int.reduceMul, maxLenI, wrap64, read1N, over1N, flat0N, shl1N, shl1M, List.length_set, List.length_replicate, Int.toNat_natCast_add_one]; rfl) ?_
    refine OpsA.nil ?_
    change RunA _ _ _ _ _
    refine RunA.ret ?_
    refine Ends.mk (by simp only [res46, resA, resAs, resA1]; first | rfl | (simp (maxSteps := 2000000) (disch := omega) only [go_sem, Nat.reduceAdd, Nat.reduceSub, Nat.reduceLeDiff, Nat.reduceMul, reduceIte, reduceCtorEq, Int.reduceNeg, Int.reduceToNat, Nat.reduceLT, Int.reduceLE, Int.reduceLT, Int.reduceAdd, Int.reduceSub, Int.reduceMul, maxLenI, wrap64, read1N, over1N, flat0N, shl1N, shl1M, List.length_set, List.length_replicate, Int.toNat_natCast_add_one]; rfl)) ?_
    exact ⟨_, _, rfl, by first | rfl | (simp only [frzT, frzP, optMap, get_app, get_app0]; rfl), by (show AV.int .i64 _ = _; simp [*])⟩

theorem c47 {h : Heap} (nm : ByteArray) (b : Bool) (z : Int) : CallA Try.prog cfg 47 [.agg [.str nm, .bool b, .int .i64 z]] h (fun y' h' => y' = .int .i64 (if z = 0 ∧ b = false then 1 else 8) ∧ h' = h) := by
  refine CallA.body (Q := fun y' => y' = .int .i64 (if z = 0 ∧ b = false then 1 else 8)) good fn47 rfl ?_
  simp only [ntm47, List.length_cons, List.length_nil, Nat.reduceAdd, Nat.reduceSub, List.replicate, List.cons_append, List.nil_append]
  refine RunA.seq ?_
  refine RunA.region good ?_
  refine OpsA.pre 2 (by simp (maxSteps := 2000000) (disch := omega) only [go_sem, Nat.reduceAdd, Nat.reduceSub, Nat.reduceLeDiff, Nat.reduceMul, reduceIte, reduceCtorEq, Int.reduceNeg, Int.reduceToNat, Nat.reduceLT, Int.reduceLE, Int.reduceLT, Int.reduceAdd, Int.reduceSub, Int.reduceMul, maxLenI, wrap64, read1N, over1N, flat0N, shl1N, shl1M, List.length_set, List.length_replicate, Int.toNat_natCast_add_one]; rfl) ?_
  refine OpsA.nil ?_
  change RunA _ _ _ _ _
  refine RunA.seq ?_
  refine RunA.seq ?_
  refine RunA.region good ?_
  refine OpsA.pre 4 (by simp (maxSteps := 2000000) (disch := omega) only [go_sem, Nat.reduceAdd, Nat.reduceSub, Nat.reduceLeDiff, Nat.reduceMul, reduceIte, reduceCtorEq, Int.reduceNeg, Int.reduceToNat, Nat.reduceLT, Int.reduceLE, Int.reduceLT, Int.reduceAdd, Int.reduceSub, Int.reduceMul, maxLenI, wrap64, read1N, over1N, flat0N, shl1N, shl1M, List.length_set, List.length_replicate, Int.toNat_natCast_add_one]; rfl) ?_
  refine OpsA.split 6 rfl (fun e1 => ?_) (fun e1 => ?_)
  · try simp only [e1]
    have qe1 := e1; try simp only [decide_eq_true_eq, decide_eq_false_iff_not, Bool.not_eq_true', Bool.not_eq_false', Bool.not_eq_eq_eq_not, Bool.not_true, Bool.not_false, Int.not_le, Int.not_lt, beq_iff_eq, bne_iff_ne, ge_iff_le, gt_iff_lt, beq_eq_false_iff_ne, ne_eq, bne_eq_false_iff_eq] at qe1
    refine OpsA.pre 4 (by simp (maxSteps := 2000000) (disch := omega) only [go_sem, Nat.reduceAdd, Nat.reduceSub, Nat.reduceLeDiff, Nat.reduceMul, reduceIte, reduceCtorEq, Int.reduceNeg, Int.reduceToNat, Nat.reduceLT, Int.reduceLE, Int.reduceLT, Int.reduceAdd, Int.reduceSub, Int.reduceMul, maxLenI, wrap64, read1N, over1N, flat0N, shl1N, shl1M, List.length_set, List.length_replicate, Int.toNat_natCast_add_one]; rfl) ?_
    refine OpsA.nil ?_
    change RunA _ _ _ _ _
    refine RunA.split 10 rfl (fun e2 => ?_) (fun e2 => ?_)
    · try simp only [e2]
      have qe2 := e2; try simp only [decide_eq_true_eq, decide_eq_false_iff_not, Bool.not_eq_true', Bool.not_eq_false', Bool.not_eq_eq_eq_not, Bool.not_true, Bool.not_false, Int.not_le, Int.not_lt, beq_iff_eq, bne_iff_ne, ge_iff_le, gt_iff_lt, beq_eq_false_iff_ne, ne_eq, bne_eq_false_iff_eq] at qe2
      refine RunA.condT rfl ?_
      refine RunA.seq ?_
      refine RunA.region good ?_
      refine OpsA.pre 1 (by simp (maxSteps := 2000000) (disch := omega) only [go_sem, Nat.reduceAdd, Nat.reduceSub, Nat.reduceLeDiff, Nat.reduceMul, reduceIte, reduceCtorEq, Int.reduceNeg, Int.reduceToNat, Nat.reduceLT, Int.reduceLE, Int.reduceLT, Int.reduceAdd, Int.reduceSub, Int.reduceMul, maxLenI, wrap64, read1N, over1N, flat0N, shl1N, shl1M, List.length_set, List.length_replicate, Int.toNat_natCast_add_one]; rfl) ?_
      refine OpsA.nil ?_
      change RunA _ _ _ _ _
      refine RunA.ret ?_
      refine Ends.mk (by simp only [res47, resA, resAs, resA1]; first | rfl | (simp (maxSteps := 2000000) (disch := omega) only [go_sem, Nat.reduceAdd, Nat.reduceSub, Nat.reduceLeDiff, Nat.reduceMul, reduceIte, reduceCtorEq, Int.reduceNeg, Int.reduceToNat, Nat.reduceLT, Int.reduceLE, Int.reduceLT, Int.reduceAdd, Int.reduceSub, Int.reduceMul, maxLenI, wrap64, read1N, over1N, flat0N, shl1N, shl1M, List.length_set, List.length_replicate, Int.toNat_natCast_add_one]; rfl)) ?_
      exact ⟨_, _, rfl, by first | rfl | (simp only [frzT, frzP, optMap, get_app, get_app0]; rfl), by (show AV.int .i64 _ = _; simp [*])⟩
    · try simp only [e2]
      have qe2 := e2; try simp only [decide_eq_true_eq, decide_eq_false_iff_not, Bool.not_eq_true', Bool.not_eq_false', Bool.not_eq_eq_eq_not, Bool.not_true, Bool.not_false, Int.not_le, Int.not_lt, beq_iff_eq, bne_iff_ne, ge_iff_le, gt_iff_lt, beq_eq_false_iff_ne, ne_eq, bne_eq_false_iff_eq] at qe2
      refine RunA.condF rfl ?_
      refine RunA.skip ?_
      change RunA _ _ _ _ _
      refine RunA.seq ?_
      refine RunA.region good ?_
      refine OpsA.pre 1 (by simp (maxSteps := 2000000) (disch := omega) only [go_sem, Nat.reduceAdd, Nat.reduceSub, Nat.reduceLeDiff, Nat.reduceMul, reduceIte, reduceCtorEq, Int.reduceNeg, Int.reduceToNat, Nat.reduceLT, Int.reduceLE, Int.reduceLT, Int.reduceAdd, Int.reduceSub, Int.reduceMul, maxLenI, wrap64, read1N, over1N, flat0N, shl1N, shl1M, List.length_set, List.length_replicate, Int.toNat_natCast_add_one]; rfl) ?_
      refine OpsA.nil ?_
      change RunA _ _ _ _ _
      refine RunA.ret ?_
      refine Ends.mk (by simp only [res47, resA, resAs, resA1]; first | rfl | (simp (maxSteps := 2000000) (disch := omega) only [go_sem, Nat.reduceAdd, Nat.reduceSub, Nat.reduceLeDiff, Nat.reduceMul, reduceIte, reduceCtorEq, Int.reduceNeg, Int.reduceToNat, Nat.reduceLT, Int.reduceLE, Int.reduceLT, Int.reduceAdd, Int.reduceSub, Int.reduceMul, maxLenI, wrap64, read1N, over1N, flat0N, shl1N, shl1M, List.length_set, List.length_replicate, Int.toNat_natCast_add_one]; rfl)) ?_
      exact ⟨_, _, rfl, by first | rfl | (simp only [frzT, frzP, optMap, get_app, get_app0]; rfl), by (show AV.int .i64 _ = _; simp [*])⟩
  · try simp only [e1]
    have qe1 := e1; try simp only [decide_eq_true_eq, decide_eq_false_iff_not, Bool.not_eq_true', Bool.not_eq_false', Bool.not_eq_eq_eq_not, Bool.not_true, Bool.not_false, Int.not_le, Int.not_lt, beq_iff_eq, bne_iff_ne, ge_iff_le, gt_iff_lt, beq_eq_false_iff_ne, ne_eq, bne_eq_false_iff_eq] at qe1
    refine OpsA.pre 4 (by simp (maxSteps := 2000000) (disch := omega) only [go_sem, Nat.reduceAdd, Nat.reduceSub, Nat.reduceLeDiff, Nat.reduceMul, reduceIte, reduceCtorEq, Int.reduceNeg, Int.reduceToNat, Nat.reduceLT, Int.reduceLE, Int.reduceLT, Int.reduceAdd, Int.reduceSub, Int.reduceMul, maxLenI, wrap64, read1N, over1N, flat0N, shl1N, shl1M, List.length_set, List.length_replicate, Int.toNat_natCast_add_one]; rfl) ?_
    refine OpsA.nil ?_
    change RunA _ _ _ _ _
    refine RunA.condF rfl ?_
    refine RunA.skip ?_
    change RunA _ _ _ _ _
    refine RunA.seq ?_
    refine RunA.region good ?_
    refine OpsA.pre 1 (by simp (maxSteps := 2000000) (disch := omega) only [go_sem, Nat.reduceAdd, Nat.reduceSub, Nat.reduceLeDiff, Nat.reduceMul, reduceIte, reduceCtorEq, Int.reduceNeg, Int.reduceToNat, Nat.reduceLT, Int.reduceLE, Int.reduceLT, Int.reduceAdd, Int.reduceSub, Int.reduceMul, maxLenI, wrap64, read1N, over1N, flat0N, shl1N, shl1M, List.length_set, List.length_replicate, Int.toNat_natCast_add_one]; rfl) ?_
    refine OpsA.nil ?_
    change RunA _ _ _ _ _
    refine RunA.ret ?_
    refine Ends.mk (by simp only [res47, resA, resAs, resA1]; first | rfl | (simp (maxSteps := 2000000) (disch := omega) only [go_sem, Nat.reduceAdd, Nat.reduceSub, Nat.reduceLeDiff, Nat.reduceMul, reduceIte, reduceCtorEq, Int.reduceNeg, Int.reduceToNat, Nat.reduceLT, Int.reduceLE, Int.reduceLT, Int.reduceAdd, Int.reduceSub, Int.reduceMul, maxLenI, wrap64, read1N, over1N, flat0N, shl1N, shl1M, List.length_set, List.length_replicate, Int.toNat_natCast_add_one]; rfl)) ?_
    exact ⟨_, _, rfl, by first | rfl | (simp only [frzT, frzP, optMap, get_app, get_app0]; rfl), by (show AV.int .i64 _ = _; simp [*])⟩

end Go.Proofs.Ytlmclkamedhmhaa
