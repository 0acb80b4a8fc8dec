/-
  RELATIONS OF DEPTHS: composition, union, what is made, the sanity check. Written in part by a program of mine (gen14.py, walk.py). Conditions: none.
-/
import Derived.Test.YtlmclkamedhmhaaDep14C
namespace Go.Proofs.Ytlmclkamedhmhaa
open Go.Ab
set_option linter.unusedSimpArgs false
set_option linter.unusedVariables false
set_option maxRecDepth 10000
attribute [local go_sem] opsE opsSE stepS quietA wantA plainA pureA readA effA callPureA lenA minA maxA rho embT emb putA List.set List.getD_cons_zero List.getD_cons_succ List.getD_nil binA intBin isShift unA buildA fillA over partA loadA readAt writeAt newVarA virts addOff AV.cellsOf AV.storable AV.one UD.isAgg UD.known rd lenOf appendA sliceA boundA virtNone get_app get_app0 set_app set_app0 Array.toList List.take_succ_cons List.take_zero List.drop_succ_cons List.drop_zero List.getElem?_cons_succ List.getElem?_cons_zero List.getElem?_toArray Option.bind_some Option.map_some Option.map_none List.map_cons List.map_nil List.length_cons List.length_nil List.length_append Nat.zero_add Nat.add_zero Nat.le_refl Nat.one_mul Nat.mul_one List.append_assoc List.cons_append List.nil_append List.append_nil and_self and_true true_and true_or or_true if_true if_false Bool.false_eq_true not_false_eq_true bTT bTF bFT bFF Bool.not_true Bool.not_false decide_true decide_false Int.toNat_zero Int.toNat_one Int.toNat_natCast List.size_toArray ut3 sz3 ti3 ut4 sz4 ti4 ut34 sz34 ti34 ut53 sz53 ti53 ut63 sz63 ti63 vecI vecN deadB List.length_map Int.natCast_nonneg List.map_nil

theorem UpTo.all2 {v : Nat → Nat} {zs : List Nat} {i n : Nat} (h : UpTo v i zs) (hl : zs.length = n) (hi : ∀ d, i ≤ d → d < n → v d = 0) : zs = (List.range n).map v := by
  refine List.ext_getElem (by simp [hl]) fun d k1 k2 => ?_
  by_cases hd : d < i
  · have := h.1 d hd
    simp
    simpa [List.getD, k1] using this
  · have := h.2 d (by omega)
    have e := hi d (by omega) (by omega)
    simp [e]
    simpa [List.getD, k1] using this
theorem pow_le {k : Nat} (hk : k ≤ 8) : 0 < 2 ^ (k + 1) ∧ 2 ^ (k + 1) ≤ 512 := by
  have : k = 0 ∨ k = 1 ∨ k = 2 ∨ k = 3 ∨ k = 4 ∨ k = 5 ∨ k = 6 ∨ k = 7 ∨ k = 8 := by omega
  rcases this with rfl | rfl | rfl | rfl | rfl | rfl | rfl | rfl | rfl <;> decide
def relV (l : List Int) (k d : Nat) : Nat := if d < l.length then withinN (l.getD d 0) ((2 ^ (k + 1) : Nat) : Int) else 0
def relN (l : List Int) (k : Nat) : List Nat := (List.range (k + 1)).map (relV l k)

theorem c32 {h : Heap} (a b : List Nat) (hb : ∀ x ∈ b, x < 512) (hl : b.length ≤ 9) (ha : ∀ x ∈ a, x < 512) (hla : a.length ≤ 9) : CallA Try.prog cfg 32 [vecN a, vecN b] h (fun y' h' => y' = vecN (composeN a b) ∧ h' = h) := by
  refine CallA.body (Q := fun y' => y' = vecN (composeN a b)) good fn32 rfl ?_
  simp only [ntm32, List.length_cons, List.length_nil, Nat.reduceAdd, Nat.reduceSub, List.replicate, List.cons_append, List.nil_append]
  refine RunA.seq ?_
  refine RunA.region good ?_
  refine OpsA.pre 1 (by simp (maxSteps := 2000000) (disch := omega) only [go_sem, Nat.reduceAdd, Nat.reduceSub, Nat.reduceLeDiff, Nat.reduceMul, reduceIte, reduceCtorEq, Int.reduceNeg, Int.reduceToNat, Nat.reduceLT, Int.reduceLE, Int.reduceLT, Int.reduceAdd, Int.reduceSub, Int.reduceMul, maxLenI, wrap64, read1N, over1N, flat0N, shl1N, shl1M, List.length_set, List.length_replicate, Int.toNat_natCast_add_one, testN, hasN, orN, over1N, if_pos, if_neg]; rfl) ?_
  refine OpsA.nil ?_
  change RunA _ _ _ _ _
  refine RunA.seq ?_
  refine RunA.region good ?_
  refine OpsA.pre 4 (by simp (maxSteps := 2000000) (disch := omega) only [go_sem, Nat.reduceAdd, Nat.reduceSub, Nat.reduceLeDiff, Nat.reduceMul, reduceIte, reduceCtorEq, Int.reduceNeg, Int.reduceToNat, Nat.reduceLT, Int.reduceLE, Int.reduceLT, Int.reduceAdd, Int.reduceSub, Int.reduceMul, maxLenI, wrap64, read1N, over1N, flat0N, shl1N, shl1M, List.length_set, List.length_replicate, Int.toNat_natCast_add_one, testN, hasN, orN, over1N, if_pos, if_neg]; rfl) ?_
  refine OpsA.nil ?_
  change RunA _ _ _ _ _
  refine RunA.seq ?_
  refine RunA.seq ?_
  refine RunA.region good ?_
  refine OpsA.pre 3 (by simp (maxSteps := 2000000) (disch := omega) only [go_sem, Nat.reduceAdd, Nat.reduceSub, Nat.reduceLeDiff, Nat.reduceMul, reduceIte, reduceCtorEq, Int.reduceNeg, Int.reduceToNat, Nat.reduceLT, Int.reduceLE, Int.reduceLT, Int.reduceAdd, Int.reduceSub, Int.reduceMul, maxLenI, wrap64, read1N, over1N, flat0N, shl1N, shl1M, List.length_set, List.length_replicate, Int.toNat_natCast_add_one, testN, hasN, orN, over1N, if_pos, if_neg]; rfl) ?_
  refine OpsA.nil ?_
  change RunA _ _ _ _ _
  refine RunA.block ?_
  refine RunA.loopL (fun m st => ∃ (i : Nat) (zs : List Nat), (m = a.length - i ∧ UpTo (fun d => applyN b (a.getD d 0)) i zs ∧ zs.length = a.length ∧ i ≤ a.length) ∧ st = ⟨[vecN a, vecN b, .any, .any, .nils, .own h.length 0 0 a.length, .any, .any, .any, .any, .any, vecN a, .int .i64 ((a.length : Nat) : Int), .int .i64 ((i : Nat) : Int), .any, .any, .any, .any, .any, .any, .any, .any, .any, .any, .any, .any], h ++ [⟨0, false, 3, 1, zs.map cellN⟩]⟩) _ ⟨[vecN a, vecN b, .any, .any, .nils, .own h.length 0 0 a.length, .any, .any, .any, .any, .any, vecN a, .int .i64 ((a.length : Nat) : Int), .int .i64 ((0 : Nat) : Int), .any, .any, .any, .any, .any, .any, .any, .any, .any, .any, .any, .any], ⟨(.inl (by first | rfl | (congr 1; omega))), (.inl (by first | rfl | (congr 1; omega))), (.inr rfl), (.inr rfl), (.inl (by first | rfl | (congr 1; omega))), (.inl (by first | rfl | (congr 1; omega))), (.inr rfl), (.inr rfl), (.inr rfl), (.inr rfl), (.inr rfl), (.inl (by first | rfl | (congr 1; omega))), (.inl (by first | rfl | (congr 1; omega))), (.inl (by first | rfl | (congr 1; omega))), (.inr rfl), (.inr rfl), (.inr rfl), (.inr rfl), (.inr rfl), (.inr rfl), (.inr rfl), (.inr rfl), (.inr rfl), (.inr rfl), (.inr rfl), (.inr rfl), trivial⟩, 0, (List.replicate a.length 0), ⟨rfl, UpTo.zero _ _, by simp, by omega⟩, rfl⟩ ?_
  rintro m sl h' ⟨i, zs, ⟨hm, hI, hz, hi⟩, hst⟩
  obtain ⟨rfl, rfl⟩ := St.mk.inj hst
  have hga := getD_lt ha i
  refine RunA.seq ?_
  refine RunA.region good ?_
  refine OpsA.pre 1 (by simp (maxSteps := 2000000) (disch := omega) only [go_sem, Nat.reduceAdd, Nat.reduceSub, Nat.reduceLeDiff, Nat.reduceMul, reduceIte, reduceCtorEq, Int.reduceNeg, Int.reduceToNat, Nat.reduceLT, Int.reduceLE, Int.reduceLT, Int.reduceAdd, Int.reduceSub, Int.reduceMul, maxLenI, wrap64, read1N, over1N, flat0N, shl1N, shl1M, List.length_set, List.length_replicate, Int.toNat_natCast_add_one, testN, hasN, orN, over1N, if_pos, if_neg]; rfl) ?_
  refine OpsA.nil ?_
  change RunA _ _ _ _ _
  refine RunA.seq ?_
  refine RunA.split 14 rfl (fun e1 => ?_) (fun e1 => ?_)
  · try simp only [e1]
    have qe1 := e1; try simp only [decide_eq_true_eq, decide_eq_false_iff_not, Bool.not_eq_true', Bool.not_eq_false', Bool.not_eq_eq_eq_not, Bool.not_true, Bool.not_false, Int.not_le, Int.not_lt, beq_iff_eq, bne_iff_ne, ge_iff_le, gt_iff_lt, beq_eq_false_iff_ne, ne_eq, bne_eq_false_iff_eq] at qe1
    refine RunA.condT rfl ?_
    refine RunA.skip ?_
    change RunA _ _ _ _ _
    refine RunA.seq ?_
    refine RunA.block ?_
    refine RunA.seq ?_
    refine RunA.region good ?_
    refine OpsA.pre 5 (by simp (maxSteps := 2000000) (disch := omega) only [go_sem, Nat.reduceAdd, Nat.reduceSub, Nat.reduceLeDiff, Nat.reduceMul, reduceIte, reduceCtorEq, Int.reduceNeg, Int.reduceToNat, Nat.reduceLT, Int.reduceLE, Int.reduceLT, Int.reduceAdd, Int.reduceSub, Int.reduceMul, maxLenI, wrap64, read1N, over1N, flat0N, shl1N, shl1M, List.length_set, List.length_replicate, Int.toNat_natCast_add_one, testN, hasN, orN, over1N, if_pos, if_neg]; rfl) ?_
    refine OpsA.nil ?_
    change RunA _ _ _ _ _
    refine RunA.region good ?_
    refine OpsA.pre 4 (by simp (maxSteps := 2000000) (disch := omega) only [go_sem, Nat.reduceAdd, Nat.reduceSub, Nat.reduceLeDiff, Nat.reduceMul, reduceIte, reduceCtorEq, Int.reduceNeg, Int.reduceToNat, Nat.reduceLT, Int.reduceLE, Int.reduceLT, Int.reduceAdd, Int.reduceSub, Int.reduceMul, maxLenI, wrap64, read1N, over1N, flat0N, shl1N, shl1M, List.length_set, List.length_replicate, Int.toNat_natCast_add_one, testN, hasN, orN, over1N, if_pos, if_neg]; rfl) ?_
    refine OpsA.callQ rfl rfl rfl hb41 (c41 _ _ hb hga hl) ?_
    refine OpsA.pre 2 (by simp (maxSteps := 2000000) (disch := omega) only [go_sem, Nat.reduceAdd, Nat.reduceSub, Nat.reduceLeDiff, Nat.reduceMul, reduceIte, reduceCtorEq, Int.reduceNeg, Int.reduceToNat, Nat.reduceLT, Int.reduceLE, Int.reduceLT, Int.reduceAdd, Int.reduceSub, Int.reduceMul, maxLenI, wrap64, read1N, over1N, flat0N, shl1N, shl1M, List.length_set, List.length_replicate, Int.toNat_natCast_add_one, testN, hasN, orN, over1N, if_pos, if_neg]; rfl) ?_
    refine OpsA.nil ?_
    change RunA _ _ _ _ _
    refine RunA.region good ?_
    refine OpsA.pre 2 (by simp (maxSteps := 2000000) (disch := omega) only [go_sem, Nat.reduceAdd, Nat.reduceSub, Nat.reduceLeDiff, Nat.reduceMul, reduceIte, reduceCtorEq, Int.reduceNeg, Int.reduceToNat, Nat.reduceLT, Int.reduceLE, Int.reduceLT, Int.reduceAdd, Int.reduceSub, Int.reduceMul, maxLenI, wrap64, read1N, over1N, flat0N, shl1N, shl1M, List.length_set, List.length_replicate, Int.toNat_natCast_add_one, testN, hasN, orN, over1N, if_pos, if_neg]; rfl) ?_
    refine OpsA.nil ?_
    exact ⟨a.length - (i + 1), by omega, [vecN a, vecN b, .any, .any, .nils, .own h.length 0 0 a.length, .any, .any, .any, .any, .any, vecN a, .int .i64 ((a.length : Nat) : Int), .int .i64 (((i + 1) : Nat) : Int), .any, .any, .any, .any, .any, .any, .any, .any, .any, .any, .any, .any], ⟨(.inl (by first | rfl | (congr 1; omega))), (.inl (by first | rfl | (congr 1; omega))), (.inr rfl), (.inr rfl), (.inl (by first | rfl | (congr 1; omega))), (.inl (by first | rfl | (congr 1; omega))), (.inr rfl), (.inr rfl), (.inr rfl), (.inr rfl), (.inr rfl), (.inl (by first | rfl | (congr 1; omega))), (.inl (by first | rfl | (congr 1; omega))), (.inl (by first | rfl | (congr 1; omega))), (.inr rfl), (.inr rfl), (.inr rfl), (.inr rfl), (.inr rfl), (.inr rfl), (.inr rfl), (.inr rfl), (.inr rfl), (.inr rfl), (.inr rfl), (.inr rfl), trivial⟩, (i + 1), (zs.set i _), ⟨rfl, UpTo.set (by omega) hI (rfl), by simp only [List.length_set]; exact hz, by omega⟩, rfl⟩
  · try simp only [e1]
    have qe1 := e1; try simp only [decide_eq_true_eq, decide_eq_false_iff_not, Bool.not_eq_true', Bool.not_eq_false', Bool.not_eq_eq_eq_not, Bool.not_true, Bool.not_false, Int.not_le, Int.not_lt, beq_iff_eq, bne_iff_ne, ge_iff_le, gt_iff_lt, beq_eq_false_iff_ne, ne_eq, bne_eq_false_iff_eq] at qe1
    refine RunA.condF rfl ?_
    refine RunA.exit ?_
    change RunA _ _ _ _ _
    refine RunA.seq ?_
    refine RunA.region good ?_
    refine OpsA.pre 2 (by simp (maxSteps := 2000000) (disch := omega) only [go_sem, Nat.reduceAdd, Nat.reduceSub, Nat.reduceLeDiff, Nat.reduceMul, reduceIte, reduceCtorEq, Int.reduceNeg, Int.reduceToNat, Nat.reduceLT, Int.reduceLE, Int.reduceLT, Int.reduceAdd, Int.reduceSub, Int.reduceMul, maxLenI, wrap64, read1N, over1N, flat0N, shl1N, shl1M, List.length_set, List.length_replicate, Int.toNat_natCast_add_one, testN, hasN, orN, over1N, if_pos, if_neg]; rfl) ?_
    refine OpsA.nil ?_
    change RunA _ _ _ _ _
    refine RunA.ret ?_
    refine Ends.mk (by simp only [res32, resA, resAs, resA1]; first | rfl | (simp (maxSteps := 2000000) (disch := omega) only [go_sem, Nat.reduceAdd, Nat.reduceSub, Nat.reduceLeDiff, Nat.reduceMul, reduceIte, reduceCtorEq, Int.reduceNeg, Int.reduceToNat, Nat.reduceLT, Int.reduceLE, Int.reduceLT, Int.reduceAdd, Int.reduceSub, Int.reduceMul, maxLenI, wrap64, read1N, over1N, flat0N, shl1N, shl1M, List.length_set, List.length_replicate, Int.toNat_natCast_add_one, testN, hasN, orN, over1N, if_pos, if_neg]; rfl)) ?_
    exact ⟨_, _, rfl, by first | rfl | exact frz_row0 hz, by (show _ = vecN (composeN a b); rw [hI.all hz (by omega)]; simp [vecN, composeN])⟩

theorem c50 {h : Heap} (a b : List Nat) (hb : ∀ x ∈ b, x < 512) (hl : b.length ≤ 9) (ha : ∀ x ∈ a, x < 512) (hla : a.length ≤ 9) : CallA Try.prog cfg 50 [vecN a, vecN b] h (fun y' h' => y' = vecN (composeN a b) ∧ h' = h) := by
  refine CallA.body (Q := fun y' => y' = vecN (composeN a b)) good fn50 rfl ?_
  simp only [ntm50, List.length_cons, List.length_nil, Nat.reduceAdd, Nat.reduceSub, List.replicate, List.cons_append, List.nil_append]
  refine RunA.seq ?_
  refine RunA.region good ?_
  refine OpsA.pre 1 (by simp (maxSteps := 2000000) (disch := omega) only [go_sem, Nat.reduceAdd, Nat.reduceSub, Nat.reduceLeDiff, Nat.reduceMul, reduceIte, reduceCtorEq, Int.reduceNeg, Int.reduceToNat, Nat.reduceLT, Int.reduceLE, Int.reduceLT, Int.reduceAdd, Int.reduceSub, Int.reduceMul, maxLenI, wrap64, read1N, over1N, flat0N, shl1N, shl1M, List.length_set, List.length_replicate, Int.toNat_natCast_add_one, testN, hasN, orN, over1N, if_pos, if_neg]; rfl) ?_
  refine OpsA.nil ?_
  change RunA _ _ _ _ _
  refine RunA.seq ?_
  refine RunA.region good ?_
  refine OpsA.pre 4 (by simp (maxSteps := 2000000) (disch := omega) only [go_sem, Nat.reduceAdd, Nat.reduceSub, Nat.reduceLeDiff, Nat.reduceMul, reduceIte, reduceCtorEq, Int.reduceNeg, Int.reduceToNat, Nat.reduceLT, Int.reduceLE, Int.reduceLT, Int.reduceAdd, Int.reduceSub, Int.reduceMul, maxLenI, wrap64, read1N, over1N, flat0N, shl1N, shl1M, List.length_set, List.length_replicate, Int.toNat_natCast_add_one, testN, hasN, orN, over1N, if_pos, if_neg]; rfl) ?_
  refine OpsA.nil ?_
  change RunA _ _ _ _ _
  refine RunA.seq ?_
  refine RunA.seq ?_
  refine RunA.region good ?_
  refine OpsA.pre 1 (by simp (maxSteps := 2000000) (disch := omega) only [go_sem, Nat.reduceAdd, Nat.reduceSub, Nat.reduceLeDiff, Nat.reduceMul, reduceIte, reduceCtorEq, Int.reduceNeg, Int.reduceToNat, Nat.reduceLT, Int.reduceLE, Int.reduceLT, Int.reduceAdd, Int.reduceSub, Int.reduceMul, maxLenI, wrap64, read1N, over1N, flat0N, shl1N, shl1M, List.length_set, List.length_replicate, Int.toNat_natCast_add_one, testN, hasN, orN, over1N, if_pos, if_neg]; rfl) ?_
  refine OpsA.nil ?_
  change RunA _ _ _ _ _
  refine RunA.block ?_
  refine RunA.loopL (fun m st => ∃ (i : Nat) (zs : List Nat), (m = a.length - i ∧ UpTo (fun d => applyN b (a.getD d 0)) i zs ∧ zs.length = a.length ∧ i ≤ a.length) ∧ st = ⟨[vecN a, vecN b, .any, .any, .nils, .own h.length 0 0 a.length, .int .i64 ((i : Nat) : Int), .any, .any, .any, .any, .any, .any, .any, .any, .any, .any, .any, .any, .any, .any, .any, .any, .any, .any, .any], h ++ [⟨0, false, 3, 1, zs.map cellN⟩]⟩) _ ⟨[vecN a, vecN b, .any, .any, .nils, .own h.length 0 0 a.length, .int .i64 ((0 : Nat) : Int), .any, .any, .any, .any, .any, .any, .any, .any, .any, .any, .any, .any, .any, .any, .any, .any, .any, .any, .any], ⟨(.inl (by first | rfl | (congr 1; omega))), (.inl (by first | rfl | (congr 1; omega))), (.inr rfl), (.inr rfl), (.inl (by first | rfl | (congr 1; omega))), (.inl (by first | rfl | (congr 1; omega))), (.inl (by first | rfl | (congr 1; omega))), (.inr rfl), (.inr rfl), (.inr rfl), (.inr rfl), (.inr rfl), (.inr rfl), (.inr rfl), (.inr rfl), (.inr rfl), (.inr rfl), (.inr rfl), (.inr rfl), (.inr rfl), (.inr rfl), (.inr rfl), (.inr rfl), (.inr rfl), (.inr rfl), (.inr rfl), trivial⟩, 0, (List.replicate a.length 0), ⟨rfl, UpTo.zero _ _, by simp, by omega⟩, rfl⟩ ?_
  rintro m sl h' ⟨i, zs, ⟨hm, hI, hz, hi⟩, hst⟩
  obtain ⟨rfl, rfl⟩ := St.mk.inj hst
  have hga := getD_lt ha i
  refine RunA.seq ?_
  refine RunA.seq ?_
  refine RunA.region good ?_
  refine OpsA.pre 4 (by simp (maxSteps := 2000000) (disch := omega) only [go_sem, Nat.reduceAdd, Nat.reduceSub, Nat.reduceLeDiff, Nat.reduceMul, reduceIte, reduceCtorEq, Int.reduceNeg, Int.reduceToNat, Nat.reduceLT, Int.reduceLE, Int.reduceLT, Int.reduceAdd, Int.reduceSub, Int.reduceMul, maxLenI, wrap64, read1N, over1N, flat0N, shl1N, shl1M, List.length_set, List.length_replicate, Int.toNat_natCast_add_one, testN, hasN, orN, over1N, if_pos, if_neg]; rfl) ?_
  refine OpsA.nil ?_
  change RunA _ _ _ _ _
  refine RunA.split 13 rfl (fun e1 => ?_) (fun e1 => ?_)
  · try simp only [e1]
    have qe1 := e1; try simp only [decide_eq_true_eq, decide_eq_false_iff_not, Bool.not_eq_true', Bool.not_eq_false', Bool.not_eq_eq_eq_not, Bool.not_true, Bool.not_false, Int.not_le, Int.not_lt, beq_iff_eq, bne_iff_ne, ge_iff_le, gt_iff_lt, beq_eq_false_iff_ne, ne_eq, bne_eq_false_iff_eq] at qe1
    refine RunA.condT rfl ?_
    refine RunA.skip ?_
    change RunA _ _ _ _ _
    refine RunA.seq ?_
    refine RunA.block ?_
    refine RunA.region good ?_
    refine OpsA.pre 6 (by simp (maxSteps := 2000000) (disch := omega) only [go_sem, Nat.reduceAdd, Nat.reduceSub, Nat.reduceLeDiff, Nat.reduceMul, reduceIte, reduceCtorEq, Int.reduceNeg, Int.reduceToNat, Nat.reduceLT, Int.reduceLE, Int.reduceLT, Int.reduceAdd, Int.reduceSub, Int.reduceMul, maxLenI, wrap64, read1N, over1N, flat0N, shl1N, shl1M, List.length_set, List.length_replicate, Int.toNat_natCast_add_one, testN, hasN, orN, over1N, if_pos, if_neg]; rfl) ?_
    refine OpsA.pre 1 (by simp (maxSteps := 2000000) (disch := omega) only [go_sem, Nat.reduceAdd, Nat.reduceSub, Nat.reduceLeDiff, Nat.reduceMul, reduceIte, reduceCtorEq, Int.reduceNeg, Int.reduceToNat, Nat.reduceLT, Int.reduceLE, Int.reduceLT, Int.reduceAdd, Int.reduceSub, Int.reduceMul, maxLenI, wrap64, read1N, over1N, flat0N, shl1N, shl1M, List.length_set, List.length_replicate, Int.toNat_natCast_add_one, testN, hasN, orN, over1N, if_pos, if_neg]; rfl) ?_
    refine OpsA.callQ rfl rfl rfl hb49 (c49 _ _ hb hga hl) ?_
    refine OpsA.pre 2 (by simp (maxSteps := 2000000) (disch := omega) only [go_sem, Nat.reduceAdd, Nat.reduceSub, Nat.reduceLeDiff, Nat.reduceMul, reduceIte, reduceCtorEq, Int.reduceNeg, Int.reduceToNat, Nat.reduceLT, Int.reduceLE, Int.reduceLT, Int.reduceAdd, Int.reduceSub, Int.reduceMul, maxLenI, wrap64, read1N, over1N, flat0N, shl1N, shl1M, List.length_set, List.length_replicate, Int.toNat_natCast_add_one, testN, hasN, orN, over1N, if_pos, if_neg]; rfl) ?_
    refine OpsA.nil ?_
    change RunA _ _ _ _ _
    refine RunA.region good ?_
    refine OpsA.pre 3 (by simp (maxSteps := 2000000) (disch := omega) only [go_sem, Nat.reduceAdd, Nat.reduceSub, Nat.reduceLeDiff, Nat.reduceMul, reduceIte, reduceCtorEq, Int.reduceNeg, Int.reduceToNat, Nat.reduceLT, Int.reduceLE, Int.reduceLT, Int.reduceAdd, Int.reduceSub, Int.reduceMul, maxLenI, wrap64, read1N, over1N, flat0N, shl1N, shl1M, List.length_set, List.length_replicate, Int.toNat_natCast_add_one, testN, hasN, orN, over1N, if_pos, if_neg]; rfl) ?_
    refine OpsA.nil ?_
    exact ⟨a.length - (i + 1), by omega, [vecN a, vecN b, .any, .any, .nils, .own h.length 0 0 a.length, .int .i64 (((i + 1) : Nat) : Int), .any, .any, .any, .any, .any, .any, .any, .any, .any, .any, .any, .any, .any, .any, .any, .any, .any, .any, .any], ⟨(.inl (by first | rfl | (congr 1; omega))), (.inl (by first | rfl | (congr 1; omega))), (.inr rfl), (.inr rfl), (.inl (by first | rfl | (congr 1; omega))), (.inl (by first | rfl | (congr 1; omega))), (.inl (by first | rfl | (congr 1; omega))), (.inr rfl), (.inr rfl), (.inr rfl), (.inr rfl), (.inr rfl), (.inr rfl), (.inr rfl), (.inr rfl), (.inr rfl), (.inr rfl), (.inr rfl), (.inr rfl), (.inr rfl), (.inr rfl), (.inr rfl), (.inr rfl), (.inr rfl), (.inr rfl), (.inr rfl), trivial⟩, (i + 1), (zs.set i _), ⟨rfl, UpTo.set (by omega) hI (rfl), by simp only [List.length_set]; exact hz, by omega⟩, rfl⟩
  · try simp only [e1]
    have qe1 := e1; try simp only [decide_eq_true_eq, decide_eq_false_iff_not, Bool.not_eq_true', Bool.not_eq_false', Bool.not_eq_eq_eq_not, Bool.not_true, Bool.not_false, Int.not_le, Int.not_lt, beq_iff_eq, bne_iff_ne, ge_iff_le, gt_iff_lt, beq_eq_false_iff_ne, ne_eq, bne_eq_false_iff_eq] at qe1
    refine RunA.condF rfl ?_
    refine RunA.exit ?_
    change RunA _ _ _ _ _
    refine RunA.seq ?_
    refine RunA.region good ?_
    refine OpsA.pre 2 (by simp (maxSteps := 2000000) (disch := omega) only [go_sem, Nat.reduceAdd, Nat.reduceSub, Nat.reduceLeDiff, Nat.reduceMul, reduceIte, reduceCtorEq, Int.reduceNeg, Int.reduceToNat, Nat.reduceLT, Int.reduceLE, Int.reduceLT, Int.reduceAdd, Int.reduceSub, Int.reduceMul, maxLenI, wrap64, read1N, over1N, flat0N, shl1N, shl1M, List.length_set, List.length_replicate, Int.toNat_natCast_add_one, testN, hasN, orN, over1N, if_pos, if_neg]; rfl) ?_
    refine OpsA.nil ?_
    change RunA _ _ _ _ _
    refine RunA.ret ?_
    refine Ends.mk (by simp only [res50, resA, resAs, resA1]; first | rfl | (simp (maxSteps := 2000000) (disch := omega) only [go_sem, Nat.reduceAdd, Nat.reduceSub, Nat.reduceLeDiff, Nat.reduceMul, reduceIte, reduceCtorEq, Int.reduceNeg, Int.reduceToNat, Nat.reduceLT, Int.reduceLE, Int.reduceLT, Int.reduceAdd, Int.reduceSub, Int.reduceMul, maxLenI, wrap64, read1N, over1N, flat0N, shl1N, shl1M, List.length_set, List.length_replicate, Int.toNat_natCast_add_one, testN, hasN, orN, over1N, if_pos, if_neg]; rfl)) ?_
    exact ⟨_, _, rfl, by first | rfl | exact frz_row0 hz, by (show _ = vecN (composeN a b); rw [hI.all hz (by omega)]; simp [vecN, composeN])⟩

def plan48_5 : Plan := ⟨[[], [], [], [], [2, 3], [2, 3, 4], [], [], [6, 7], [6, 7, 8], [2, 3, 4, 5, 6, 7, 8, 9], [0, 1, 2, 3, 4, 5, 6, 7, 8, 9, 10], [0, 1, 2, 3, 4, 5, 6, 7, 8, 9, 10, 11]], [false, false, false, false, false, false, false, false, false, false, false, false, true]⟩
theorem plan48_5E (i : Nat) : plan48_5.isE i = [false, false, false, false, false, false, false, false, false, false, false, false, true].getD i false := rfl

theorem c48 {h : Heap} (a b : List Nat) (hb : ∀ x ∈ b, x < 512) (ha : ∀ x ∈ a, x < 512) (hla : a.length ≤ 9) (hab : b.length = a.length) : CallA Try.prog cfg 48 [vecN a, vecN b] h (fun y' h' => y' = vecN (unionN a b) ∧ h' = h) := by
  refine CallA.body (Q := fun y' => y' = vecN (unionN a b)) good fn48 rfl ?_
  simp only [ntm48, List.length_cons, List.length_nil, Nat.reduceAdd, Nat.reduceSub, List.replicate, List.cons_append, List.nil_append]
  refine RunA.seq ?_
  refine RunA.region good ?_
  refine OpsA.pre 1 (by simp (maxSteps := 2000000) (disch := omega) only [go_sem, Nat.reduceAdd, Nat.reduceSub, Nat.reduceLeDiff, Nat.reduceMul, reduceIte, reduceCtorEq, Int.reduceNeg, Int.reduceToNat, Nat.reduceLT, Int.reduceLE, Int.reduceLT, Int.reduceAdd, Int.reduceSub, Int.reduceMul, maxLenI, wrap64, read1N, over1N, flat0N, shl1N, shl1M, List.length_set, List.length_replicate, Int.toNat_natCast_add_one, testN, hasN, orN, over1N, if_pos, if_neg]; rfl) ?_
  refine OpsA.nil ?_
  change RunA _ _ _ _ _
  refine RunA.seq ?_
  refine RunA.region good ?_
  refine OpsA.pre 4 (by simp (maxSteps := 2000000) (disch := omega) only [go_sem, Nat.reduceAdd, Nat.reduceSub, Nat.reduceLeDiff, Nat.reduceMul, reduceIte, reduceCtorEq, Int.reduceNeg, Int.reduceToNat, Nat.reduceLT, Int.reduceLE, Int.reduceLT, Int.reduceAdd, Int.reduceSub, Int.reduceMul, maxLenI, wrap64, read1N, over1N, flat0N, shl1N, shl1M, List.length_set, List.length_replicate, Int.toNat_natCast_add_one, testN, hasN, orN, over1N, if_pos, if_neg]; rfl) ?_
  refine OpsA.nil ?_
  change RunA _ _ _ _ _
  refine RunA.seq ?_
  refine RunA.seq ?_
  refine RunA.region good ?_
  refine OpsA.pre 3 (by simp (maxSteps := 2000000) (disch := omega) only [go_sem, Nat.reduceAdd, Nat.reduceSub, Nat.reduceLeDiff, Nat.reduceMul, reduceIte, reduceCtorEq, Int.reduceNeg, Int.reduceToNat, Nat.reduceLT, Int.reduceLE, Int.reduceLT, Int.reduceAdd, Int.reduceSub, Int.reduceMul, maxLenI, wrap64, read1N, over1N, flat0N, shl1N, shl1M, List.length_set, List.length_replicate, Int.toNat_natCast_add_one, testN, hasN, orN, over1N, if_pos, if_neg]; rfl) ?_
  refine OpsA.nil ?_
  change RunA _ _ _ _ _
  refine RunA.block ?_
  refine RunA.loopL (fun m st => ∃ (i : Nat) (zs : List Nat), (m = a.length - i ∧ UpTo (fun d => a.getD d 0 ||| b.getD d 0) i zs ∧ zs.length = a.length ∧ i ≤ a.length) ∧ st = ⟨[vecN a, vecN b, .any, .any, .nils, .own h.length 0 0 a.length, .any, .any, .any, .any, .any, .int .i64 ((a.length : Nat) : Int), .int .i64 ((i : Nat) : Int), .any, .any, .any, .any, .any, .any, .any, .any, .any, .any, .any, .any, .any, .any, .any, .any], h ++ [⟨0, false, 3, 1, zs.map cellN⟩]⟩) _ ⟨[vecN a, vecN b, .any, .any, .nils, .own h.length 0 0 a.length, .any, .any, .any, .any, .any, .int .i64 ((a.length : Nat) : Int), .int .i64 ((0 : Nat) : Int), .any, .any, .any, .any, .any, .any, .any, .any, .any, .any, .any, .any, .any, .any, .any, .any], ⟨(.inl (by first | rfl | (congr 1; omega))), (.inl (by first | rfl | (congr 1; omega))), (.inr rfl), (.inr rfl), (.inl (by first | rfl | (congr 1; omega))), (.inl (by first | rfl | (congr 1; omega))), (.inr rfl), (.inr rfl), (.inr rfl), (.inr rfl), (.inr rfl), (.inl (by first | rfl | (congr 1; omega))), (.inl (by first | rfl | (congr 1; omega))), (.inr rfl), (.inr rfl), (.inr rfl), (.inr rfl), (.inr rfl), (.inr rfl), (.inr rfl), (.inr rfl), (.inr rfl), (.inr rfl), (.inr rfl), (.inr rfl), (.inr rfl), (.inr rfl), (.inr rfl), (.inr rfl), trivial⟩, 0, (List.replicate a.length 0), ⟨rfl, UpTo.zero _ _, by simp, by omega⟩, rfl⟩ ?_
  rintro m sl h' ⟨i, zs, ⟨hm, hI, hz, hi⟩, hst⟩
  obtain ⟨rfl, rfl⟩ := St.mk.inj hst
  have hga := getD_lt ha i; have hgb := getD_lt hb i
  refine RunA.seq ?_
  refine RunA.region good ?_
  refine OpsA.pre 1 (by simp (maxSteps := 2000000) (disch := omega) only [go_sem, Nat.reduceAdd, Nat.reduceSub, Nat.reduceLeDiff, Nat.reduceMul, reduceIte, reduceCtorEq, Int.reduceNeg, Int.reduceToNat, Nat.reduceLT, Int.reduceLE, Int.reduceLT, Int.reduceAdd, Int.reduceSub, Int.reduceMul, maxLenI, wrap64, read1N, over1N, flat0N, shl1N, shl1M, List.length_set, List.length_replicate, Int.toNat_natCast_add_one, testN, hasN, orN, over1N, if_pos, if_neg]; rfl) ?_
  refine OpsA.nil ?_
  change RunA _ _ _ _ _
  refine RunA.seq ?_
  refine RunA.split 13 rfl (fun e1 => ?_) (fun e1 => ?_)
  · try simp only [e1]
    have qe1 := e1; try simp only [decide_eq_true_eq, decide_eq_false_iff_not, Bool.not_eq_true', Bool.not_eq_false', Bool.not_eq_eq_eq_not, Bool.not_true, Bool.not_false, Int.not_le, Int.not_lt, beq_iff_eq, bne_iff_ne, ge_iff_le, gt_iff_lt, beq_eq_false_iff_ne, ne_eq, bne_eq_false_iff_eq] at qe1
    refine RunA.condT rfl ?_
    refine RunA.skip ?_
    change RunA _ _ _ _ _
    refine RunA.seq ?_
    refine RunA.block ?_
    refine RunA.seq ?_
    refine RunA.region good ?_
    refine OpsA.pre 2 (by simp (maxSteps := 2000000) (disch := omega) only [go_sem, Nat.reduceAdd, Nat.reduceSub, Nat.reduceLeDiff, Nat.reduceMul, reduceIte, reduceCtorEq, Int.reduceNeg, Int.reduceToNat, Nat.reduceLT, Int.reduceLE, Int.reduceLT, Int.reduceAdd, Int.reduceSub, Int.reduceMul, maxLenI, wrap64, read1N, over1N, flat0N, shl1N, shl1M, List.length_set, List.length_replicate, Int.toNat_natCast_add_one, testN, hasN, orN, over1N, if_pos, if_neg]; rfl) ?_
    refine OpsA.nil ?_
    change RunA _ _ _ _ _
    refine RunA.solo good plan48_5 (by kernel_rfl) (by kernel_rfl) ?_
    refine OpsS.pre 6 (by simp (maxSteps := 2000000) (disch := omega) only [go_sem, Nat.reduceAdd, Nat.reduceSub, Nat.reduceLeDiff, Nat.reduceMul, reduceIte, reduceCtorEq, Int.reduceNeg, Int.reduceToNat, Nat.reduceLT, Int.reduceLE, Int.reduceLT, Int.reduceAdd, Int.reduceSub, Int.reduceMul, maxLenI, wrap64, read1N, over1N, flat0N, shl1N, shl1M, List.length_set, List.length_replicate, Int.toNat_natCast_add_one, testN, hasN, orN, over1N, if_pos, if_neg, plan48_5E]; rfl) ?_
    refine OpsS.pre 6 (by simp (maxSteps := 2000000) (disch := omega) only [go_sem, Nat.reduceAdd, Nat.reduceSub, Nat.reduceLeDiff, Nat.reduceMul, reduceIte, reduceCtorEq, Int.reduceNeg, Int.reduceToNat, Nat.reduceLT, Int.reduceLE, Int.reduceLT, Int.reduceAdd, Int.reduceSub, Int.reduceMul, maxLenI, wrap64, read1N, over1N, flat0N, shl1N, shl1M, List.length_set, List.length_replicate, Int.toNat_natCast_add_one, testN, hasN, orN, over1N, if_pos, if_neg, plan48_5E]; rfl) ?_
    refine OpsS.pre 1 (by simp (maxSteps := 2000000) (disch := omega) only [go_sem, Nat.reduceAdd, Nat.reduceSub, Nat.reduceLeDiff, Nat.reduceMul, reduceIte, reduceCtorEq, Int.reduceNeg, Int.reduceToNat, Nat.reduceLT, Int.reduceLE, Int.reduceLT, Int.reduceAdd, Int.reduceSub, Int.reduceMul, maxLenI, wrap64, read1N, over1N, flat0N, shl1N, shl1M, List.length_set, List.length_replicate, Int.toNat_natCast_add_one, testN, hasN, orN, over1N, if_pos, if_neg, plan48_5E]; rfl) ?_
    show _
    change RunA _ _ _ _ _
    refine RunA.region good ?_
    refine OpsA.pre 2 (by simp (maxSteps := 2000000) (disch := omega) only [go_sem, Nat.reduceAdd, Nat.reduceSub, Nat.reduceLeDiff, Nat.reduceMul, reduceIte, reduceCtorEq, Int.reduceNeg, Int.reduceToNat, Nat.reduceLT, Int.reduceLE, Int.reduceLT, Int.reduceAdd, Int.reduceSub, Int.reduceMul, maxLenI, wrap64, read1N, over1N, flat0N, shl1N, shl1M, List.length_set, List.length_replicate, Int.toNat_natCast_add_one, testN, hasN, orN, over1N, if_pos, if_neg]; rfl) ?_
    refine OpsA.nil ?_
    exact ⟨a.length - (i + 1), by omega, [vecN a, vecN b, .any, .any, .nils, .own h.length 0 0 a.length, .any, .any, .any, .any, .any, .int .i64 ((a.length : Nat) : Int), .int .i64 (((i + 1) : Nat) : Int), .any, .any, .any, .any, .any, .any, .any, .any, .any, .any, .any, .any, .any, .any, .any, .any], ⟨(.inl (by first | rfl | (congr 1; omega))), (.inl (by first | rfl | (congr 1; omega))), (.inr rfl), (.inr rfl), (.inl (by first | rfl | (congr 1; omega))), (.inl (by first | rfl | (congr 1; omega))), (.inr rfl), (.inr rfl), (.inr rfl), (.inr rfl), (.inr rfl), (.inl (by first | rfl | (congr 1; omega))), (.inl (by first | rfl | (congr 1; omega))), (.inr rfl), (.inr rfl), (.inr rfl), (.inr rfl), (.inr rfl), (.inr rfl), (.inr rfl), (.inr rfl), (.inr rfl), (.inr rfl), (.inr rfl), (.inr rfl), (.inr rfl), (.inr rfl), (.inr rfl), (.inr rfl), trivial⟩, (i + 1), (zs.set i _), ⟨rfl, UpTo.set (by omega) hI (rfl), by simp only [List.length_set]; exact hz, by omega⟩, rfl⟩
  · try simp only [e1]
    have qe1 := e1; try simp only [decide_eq_true_eq, decide_eq_false_iff_not, Bool.not_eq_true', Bool.not_eq_false', Bool.not_eq_eq_eq_not, Bool.not_true, Bool.not_false, Int.not_le, Int.not_lt, beq_iff_eq, bne_iff_ne, ge_iff_le, gt_iff_lt, beq_eq_false_iff_ne, ne_eq, bne_eq_false_iff_eq] at qe1
    refine RunA.condF rfl ?_
    refine RunA.exit ?_
    change RunA _ _ _ _ _
    refine RunA.seq ?_
    refine RunA.region good ?_
    refine OpsA.pre 2 (by simp (maxSteps := 2000000) (disch := omega) only [go_sem, Nat.reduceAdd, Nat.reduceSub, Nat.reduceLeDiff, Nat.reduceMul, reduceIte, reduceCtorEq, Int.reduceNeg, Int.reduceToNat, Nat.reduceLT, Int.reduceLE, Int.reduceLT, Int.reduceAdd, Int.reduceSub, Int.reduceMul, maxLenI, wrap64, read1N, over1N, flat0N, shl1N, shl1M, List.length_set, List.length_replicate, Int.toNat_natCast_add_one, testN, hasN, orN, over1N, if_pos, if_neg]; rfl) ?_
    refine OpsA.nil ?_
    change RunA _ _ _ _ _
    refine RunA.ret ?_
    refine Ends.mk (by simp only [res48, resA, resAs, resA1]; first | rfl | (simp (maxSteps := 2000000) (disch := omega) only [go_sem, Nat.reduceAdd, Nat.reduceSub, Nat.reduceLeDiff, Nat.reduceMul, reduceIte, reduceCtorEq, Int.reduceNeg, Int.reduceToNat, Nat.reduceLT, Int.reduceLE, Int.reduceLT, Int.reduceAdd, Int.reduceSub, Int.reduceMul, maxLenI, wrap64, read1N, over1N, flat0N, shl1N, shl1M, List.length_set, List.length_replicate, Int.toNat_natCast_add_one, testN, hasN, orN, over1N, if_pos, if_neg]; rfl)) ?_
    exact ⟨_, _, rfl, by first | rfl | exact frz_row0 hz, by (show _ = vecN (unionN a b); rw [hI.all hz (by omega)]; simp [vecN, unionN])⟩

def plan51_5 : Plan := ⟨[[], [], [], [], [2, 3], [2, 3, 4], [], [], [6, 7], [6, 7, 8], [2, 3, 4, 5, 6, 7, 8, 9], [0, 1, 2, 3, 4, 5, 6, 7, 8, 9, 10], [0, 1, 2, 3, 4, 5, 6, 7, 8, 9, 10, 11]], [false, false, false, false, false, false, false, false, false, false, false, false, true]⟩
theorem plan51_5E (i : Nat) : plan51_5.isE i = [false, false, false, false, false, false, false, false, false, false, false, false, true].getD i false := rfl

theorem c51 {h : Heap} (a b : List Nat) (hb : ∀ x ∈ b, x < 512) (ha : ∀ x ∈ a, x < 512) (hla : a.length ≤ 9) (hab : b.length = a.length) : CallA Try.prog cfg 51 [vecN a, vecN b] h (fun y' h' => y' = vecN (unionN a b) ∧ h' = h) := by
  refine CallA.body (Q := fun y' => y' = vecN (unionN a b)) good fn51 rfl ?_
  simp only [ntm51, List.length_cons, List.length_nil, Nat.reduceAdd, Nat.reduceSub, List.replicate, List.cons_append, List.nil_append]
  refine RunA.seq ?_
  refine RunA.region good ?_
  refine OpsA.pre 1 (by simp (maxSteps := 2000000) (disch := omega) only [go_sem, Nat.reduceAdd, Nat.reduceSub, Nat.reduceLeDiff, Nat.reduceMul, reduceIte, reduceCtorEq, Int.reduceNeg, Int.reduceToNat, Nat.reduceLT, Int.reduceLE, Int.reduceLT, Int.reduceAdd, Int.reduceSub, Int.reduceMul, maxLenI, wrap64, read1N, over1N, flat0N, shl1N, shl1M, List.length_set, List.length_replicate, Int.toNat_natCast_add_one, testN, hasN, orN, over1N, if_pos, if_neg]; rfl) ?_
  refine OpsA.nil ?_
  change RunA _ _ _ _ _
  refine RunA.seq ?_
  refine RunA.region good ?_
  refine OpsA.pre 4 (by simp (maxSteps := 2000000) (disch := omega) only [go_sem, Nat.reduceAdd, Nat.reduceSub, Nat.reduceLeDiff, Nat.reduceMul, reduceIte, reduceCtorEq, Int.reduceNeg, Int.reduceToNat, Nat.reduceLT, Int.reduceLE, Int.reduceLT, Int.reduceAdd, Int.reduceSub, Int.reduceMul, maxLenI, wrap64, read1N, over1N, flat0N, shl1N, shl1M, List.length_set, List.length_replicate, Int.toNat_natCast_add_one, testN, hasN, orN, over1N, if_pos, if_neg]; rfl) ?_
  refine OpsA.nil ?_
  change RunA _ _ _ _ _
  refine RunA.seq ?_
  refine RunA.seq ?_
  refine RunA.region good ?_
  refine OpsA.pre 1 (by simp (maxSteps := 2000000) (disch := omega) only [go_sem, Nat.reduceAdd, Nat.reduceSub, Nat.reduceLeDiff, Nat.reduceMul, reduceIte, reduceCtorEq, Int.reduceNeg, Int.reduceToNat, Nat.reduceLT, Int.reduceLE, Int.reduceLT, Int.reduceAdd, Int.reduceSub, Int.reduceMul, maxLenI, wrap64, read1N, over1N, flat0N, shl1N, shl1M, List.length_set, List.length_replicate, Int.toNat_natCast_add_one, testN, hasN, orN, over1N, if_pos, if_neg]; rfl) ?_
  refine OpsA.nil ?_
  change RunA _ _ _ _ _
  refine RunA.block ?_
  refine RunA.loopL (fun m st => ∃ (i : Nat) (zs : List Nat), (m = a.length - i ∧ UpTo (fun d => a.getD d 0 ||| b.getD d 0) i zs ∧ zs.length = a.length ∧ i ≤ a.length) ∧ st = ⟨[vecN a, vecN b, .any, .any, .nils, .own h.length 0 0 a.length, .int .i64 ((i : Nat) : Int), .any, .any, .any, .any, .any, .any, .any, .any, .any, .any, .any, .any, .any, .any, .any, .any, .any, .any, .any, .any, .any, .any], h ++ [⟨0, false, 3, 1, zs.map cellN⟩]⟩) _ ⟨[vecN a, vecN b, .any, .any, .nils, .own h.length 0 0 a.length, .int .i64 ((0 : Nat) : Int), .any, .any, .any, .any, .any, .any, .any, .any, .any, .any, .any, .any, .any, .any, .any, .any, .any, .any, .any, .any, .any, .any], ⟨(.inl (by first | rfl | (congr 1; omega))), (.inl (by first | rfl | (congr 1; omega))), (.inr rfl), (.inr rfl), (.inl (by first | rfl | (congr 1; omega))), (.inl (by first | rfl | (congr 1; omega))), (.inl (by first | rfl | (congr 1; omega))), (.inr rfl), (.inr rfl), (.inr rfl), (.inr rfl), (.inr rfl), (.inr rfl), (.inr rfl), (.inr rfl), (.inr rfl), (.inr rfl), (.inr rfl), (.inr rfl), (.inr rfl), (.inr rfl), (.inr rfl), (.inr rfl), (.inr rfl), (.inr rfl), (.inr rfl), (.inr rfl), (.inr rfl), (.inr rfl), trivial⟩, 0, (List.replicate a.length 0), ⟨rfl, UpTo.zero _ _, by simp, by omega⟩, rfl⟩ ?_
  rintro m sl h' ⟨i, zs, ⟨hm, hI, hz, hi⟩, hst⟩
  obtain ⟨rfl, rfl⟩ := St.mk.inj hst
  have hga := getD_lt ha i; have hgb := getD_lt hb i
  refine RunA.seq ?_
  refine RunA.seq ?_
  refine RunA.region good ?_
  refine OpsA.pre 4 (by simp (maxSteps := 2000000) (disch := omega) only [go_sem, Nat.reduceAdd, Nat.reduceSub, Nat.reduceLeDiff, Nat.reduceMul, reduceIte, reduceCtorEq, Int.reduceNeg, Int.reduceToNat, Nat.reduceLT, Int.reduceLE, Int.reduceLT, Int.reduceAdd, Int.reduceSub, Int.reduceMul, maxLenI, wrap64, read1N, over1N, flat0N, shl1N, shl1M, List.length_set, List.length_replicate, Int.toNat_natCast_add_one, testN, hasN, orN, over1N, if_pos, if_neg]; rfl) ?_
  refine OpsA.nil ?_
  change RunA _ _ _ _ _
  refine RunA.split 13 rfl (fun e1 => ?_) (fun e1 => ?_)
  · try simp only [e1]
    have qe1 := e1; try simp only [decide_eq_true_eq, decide_eq_false_iff_not, Bool.not_eq_true', Bool.not_eq_false', Bool.not_eq_eq_eq_not, Bool.not_true, Bool.not_false, Int.not_le, Int.not_lt, beq_iff_eq, bne_iff_ne, ge_iff_le, gt_iff_lt, beq_eq_false_iff_ne, ne_eq, bne_eq_false_iff_eq] at qe1
    refine RunA.condT rfl ?_
    refine RunA.skip ?_
    change RunA _ _ _ _ _
    refine RunA.seq ?_
    refine RunA.block ?_
    refine RunA.solo good plan51_5 (by kernel_rfl) (by kernel_rfl) ?_
    refine OpsS.pre 6 (by simp (maxSteps := 2000000) (disch := omega) only [go_sem, Nat.reduceAdd, Nat.reduceSub, Nat.reduceLeDiff, Nat.reduceMul, reduceIte, reduceCtorEq, Int.reduceNeg, Int.reduceToNat, Nat.reduceLT, Int.reduceLE, Int.reduceLT, Int.reduceAdd, Int.reduceSub, Int.reduceMul, maxLenI, wrap64, read1N, over1N, flat0N, shl1N, shl1M, List.length_set, List.length_replicate, Int.toNat_natCast_add_one, testN, hasN, orN, over1N, if_pos, if_neg, plan51_5E]; rfl) ?_
    refine OpsS.pre 6 (by simp (maxSteps := 2000000) (disch := omega) only [go_sem, Nat.reduceAdd, Nat.reduceSub, Nat.reduceLeDiff, Nat.reduceMul, reduceIte, reduceCtorEq, Int.reduceNeg, Int.reduceToNat, Nat.reduceLT, Int.reduceLE, Int.reduceLT, Int.reduceAdd, Int.reduceSub, Int.reduceMul, maxLenI, wrap64, read1N, over1N, flat0N, shl1N, shl1M, List.length_set, List.length_replicate, Int.toNat_natCast_add_one, testN, hasN, orN, over1N, if_pos, if_neg, plan51_5E]; rfl) ?_
    refine OpsS.pre 1 (by simp (maxSteps := 2000000) (disch := omega) only [go_sem, Nat.reduceAdd, Nat.reduceSub, Nat.reduceLeDiff, Nat.reduceMul, reduceIte, reduceCtorEq, Int.reduceNeg, Int.reduceToNat, Nat.reduceLT, Int.reduceLE, Int.reduceLT, Int.reduceAdd, Int.reduceSub, Int.reduceMul, maxLenI, wrap64, read1N, over1N, flat0N, shl1N, shl1M, List.length_set, List.length_replicate, Int.toNat_natCast_add_one, testN, hasN, orN, over1N, if_pos, if_neg, plan51_5E]; rfl) ?_
    show _
    change RunA _ _ _ _ _
    refine RunA.region good ?_
    refine OpsA.pre 3 (by simp (maxSteps := 2000000) (disch := omega) only [go_sem, Nat.reduceAdd, Nat.reduceSub, Nat.reduceLeDiff, Nat.reduceMul, reduceIte, reduceCtorEq, Int.reduceNeg, Int.reduceToNat, Nat.reduceLT, Int.reduceLE, Int.reduceLT, Int.reduceAdd, Int.reduceSub, Int.reduceMul, maxLenI, wrap64, read1N, over1N, flat0N, shl1N, shl1M, List.length_set, List.length_replicate, Int.toNat_natCast_add_one, testN, hasN, orN, over1N, if_pos, if_neg]; rfl) ?_
    refine OpsA.nil ?_
    exact ⟨a.length - (i + 1), by omega, [vecN a, vecN b, .any, .any, .nils, .own h.length 0 0 a.length, .int .i64 (((i + 1) : Nat) : Int), .any, .any, .any, .any, .any, .any, .any, .any, .any, .any, .any, .any, .any, .any, .any, .any, .any, .any, .any, .any, .any, .any], ⟨(.inl (by first | rfl | (congr 1; omega))), (.inl (by first | rfl | (congr 1; omega))), (.inr rfl), (.inr rfl), (.inl (by first | rfl | (congr 1; omega))), (.inl (by first | rfl | (congr 1; omega))), (.inl (by first | rfl | (congr 1; omega))), (.inr rfl), (.inr rfl), (.inr rfl), (.inr rfl), (.inr rfl), (.inr rfl), (.inr rfl), (.inr rfl), (.inr rfl), (.inr rfl), (.inr rfl), (.inr rfl), (.inr rfl), (.inr rfl), (.inr rfl), (.inr rfl), (.inr rfl), (.inr rfl), (.inr rfl), (.inr rfl), (.inr rfl), (.inr rfl), trivial⟩, (i + 1), (zs.set i _), ⟨rfl, UpTo.set (by omega) hI (rfl), by simp only [List.length_set]; exact hz, by omega⟩, rfl⟩
  · try simp only [e1]
    have qe1 := e1; try simp only [decide_eq_true_eq, decide_eq_false_iff_not, Bool.not_eq_true', Bool.not_eq_false', Bool.not_eq_eq_eq_not, Bool.not_true, Bool.not_false, Int.not_le, Int.not_lt, beq_iff_eq, bne_iff_ne, ge_iff_le, gt_iff_lt, beq_eq_false_iff_ne, ne_eq, bne_eq_false_iff_eq] at qe1
    refine RunA.condF rfl ?_
    refine RunA.exit ?_
    change RunA _ _ _ _ _
    refine RunA.seq ?_
    refine RunA.region good ?_
    refine OpsA.pre 2 (by simp (maxSteps := 2000000) (disch := omega) only [go_sem, Nat.reduceAdd, Nat.reduceSub, Nat.reduceLeDiff, Nat.reduceMul, reduceIte, reduceCtorEq, Int.reduceNeg, Int.reduceToNat, Nat.reduceLT, Int.reduceLE, Int.reduceLT, Int.reduceAdd, Int.reduceSub, Int.reduceMul, maxLenI, wrap64, read1N, over1N, flat0N, shl1N, shl1M, List.length_set, List.length_replicate, Int.toNat_natCast_add_one, testN, hasN, orN, over1N, if_pos, if_neg]; rfl) ?_
    refine OpsA.nil ?_
    change RunA _ _ _ _ _
    refine RunA.ret ?_
    refine Ends.mk (by simp only [res51, resA, resAs, resA1]; first | rfl | (simp (maxSteps := 2000000) (disch := omega) only [go_sem, Nat.reduceAdd, Nat.reduceSub, Nat.reduceLeDiff, Nat.reduceMul, reduceIte, reduceCtorEq, Int.reduceNeg, Int.reduceToNat, Nat.reduceLT, Int.reduceLE, Int.reduceLT, Int.reduceAdd, Int.reduceSub, Int.reduceMul, maxLenI, wrap64, read1N, over1N, flat0N, shl1N, shl1M, List.length_set, List.length_replicate, Int.toNat_natCast_add_one, testN, hasN, orN, over1N, if_pos, if_neg]; rfl)) ?_
    exact ⟨_, _, rfl, by first | rfl | exact frz_row0 hz, by (show _ = vecN (unionN a b); rw [hI.all hz (by omega)]; simp [vecN, unionN])⟩

def plan52_4 : Plan := ⟨[[], [], [0, 1], [0, 1, 2], [], [], [4, 5], [4, 5, 6], [0, 1, 2, 3, 4, 5, 6, 7], [0, 1, 2, 3, 4, 5, 6, 7, 8]], [false, false, false, false, false, false, false, false, false, false]⟩
theorem plan52_4E (i : Nat) : plan52_4.isE i = [false, false, false, false, false, false, false, false, false, false].getD i false := rfl

theorem c52 {h : Heap} (a b : List Nat) (hla : a.length ≤ 9) (hab : b.length = a.length) : CallA Try.prog cfg 52 [vecN a, vecN b] h (fun y' h' => y' = .bool (decide (withinP a b)) ∧ h' = h) := by
  refine CallA.body (Q := fun y' => y' = .bool (decide (withinP a b))) good fn52 rfl ?_
  simp only [ntm52, List.length_cons, List.length_nil, Nat.reduceAdd, Nat.reduceSub, List.replicate, List.cons_append, List.nil_append]
  refine RunA.seq ?_
  refine RunA.region good ?_
  refine OpsA.pre 1 (by simp (maxSteps := 2000000) (disch := omega) only [go_sem, Nat.reduceAdd, Nat.reduceSub, Nat.reduceLeDiff, Nat.reduceMul, reduceIte, reduceCtorEq, Int.reduceNeg, Int.reduceToNat, Nat.reduceLT, Int.reduceLE, Int.reduceLT, Int.reduceAdd, Int.reduceSub, Int.reduceMul, maxLenI, wrap64, read1N, over1N, flat0N, shl1N, shl1M, List.length_set, List.length_replicate, Int.toNat_natCast_add_one, testN, hasN, orN, over1N, if_pos, if_neg]; rfl) ?_
  refine OpsA.nil ?_
  change RunA _ _ _ _ _
  refine RunA.seq ?_
  refine RunA.seq ?_
  refine RunA.region good ?_
  refine OpsA.pre 3 (by simp (maxSteps := 2000000) (disch := omega) only [go_sem, Nat.reduceAdd, Nat.reduceSub, Nat.reduceLeDiff, Nat.reduceMul, reduceIte, reduceCtorEq, Int.reduceNeg, Int.reduceToNat, Nat.reduceLT, Int.reduceLE, Int.reduceLT, Int.reduceAdd, Int.reduceSub, Int.reduceMul, maxLenI, wrap64, read1N, over1N, flat0N, shl1N, shl1M, List.length_set, List.length_replicate, Int.toNat_natCast_add_one, testN, hasN, orN, over1N, if_pos, if_neg]; rfl) ?_
  refine OpsA.nil ?_
  change RunA _ _ _ _ _
  refine RunA.block ?_
  refine RunA.loopL (fun m st => ∃ (i : Nat), (m = a.length - i ∧ (∀ d, d < i → bits .andNot .i64 ((a.getD d 0 : Nat) : Int) ((b.getD d 0 : Nat) : Int) = 0) ∧ i ≤ a.length) ∧ st = ⟨[vecN a, vecN b, .any, .any, .any, .any, .any, .int .i64 ((a.length : Nat) : Int), .int .i64 ((i : Nat) : Int), .any, .any, .any, .any, .any, .any, .any, .any, .any, .any, .any, .any, .any], h⟩) _ ⟨[vecN a, vecN b, .any, .any, .any, .any, .any, .int .i64 ((a.length : Nat) : Int), .int .i64 ((0 : Nat) : Int), .any, .any, .any, .any, .any, .any, .any, .any, .any, .any, .any, .any, .any], ⟨(.inl (by first | rfl | (congr 1; omega))), (.inl (by first | rfl | (congr 1; omega))), (.inr rfl), (.inr rfl), (.inr rfl), (.inr rfl), (.inr rfl), (.inl (by first | rfl | (congr 1; omega))), (.inl (by first | rfl | (congr 1; omega))), (.inr rfl), (.inr rfl), (.inr rfl), (.inr rfl), (.inr rfl), (.inr rfl), (.inr rfl), (.inr rfl), (.inr rfl), (.inr rfl), (.inr rfl), (.inr rfl), (.inr rfl), trivial⟩, 0, ⟨rfl, by intro d hd; omega, by omega⟩, rfl⟩ ?_
  rintro m sl h' ⟨i, ⟨hm, hI, hi⟩, hst⟩
  obtain ⟨rfl, rfl⟩ := St.mk.inj hst
  refine RunA.seq ?_
  refine RunA.region good ?_
  refine OpsA.pre 1 (by simp (maxSteps := 2000000) (disch := omega) only [go_sem, Nat.reduceAdd, Nat.reduceSub, Nat.reduceLeDiff, Nat.reduceMul, reduceIte, reduceCtorEq, Int.reduceNeg, Int.reduceToNat, Nat.reduceLT, Int.reduceLE, Int.reduceLT, Int.reduceAdd, Int.reduceSub, Int.reduceMul, maxLenI, wrap64, read1N, over1N, flat0N, shl1N, shl1M, List.length_set, List.length_replicate, Int.toNat_natCast_add_one, testN, hasN, orN, over1N, if_pos, if_neg]; rfl) ?_
  refine OpsA.nil ?_
  change RunA _ _ _ _ _
  refine RunA.seq ?_
  refine RunA.split 9 rfl (fun e1 => ?_) (fun e1 => ?_)
  · try simp only [e1]
    have qe1 := e1; try simp only [decide_eq_true_eq, decide_eq_false_iff_not, Bool.not_eq_true', Bool.not_eq_false', Bool.not_eq_eq_eq_not, Bool.not_true, Bool.not_false, Int.not_le, Int.not_lt, beq_iff_eq, bne_iff_ne, ge_iff_le, gt_iff_lt, beq_eq_false_iff_ne, ne_eq, bne_eq_false_iff_eq] at qe1
    refine RunA.condT rfl ?_
    refine RunA.skip ?_
    change RunA _ _ _ _ _
    refine RunA.seq ?_
    refine RunA.block ?_
    refine RunA.seq ?_
    refine RunA.region good ?_
    refine OpsA.pre 2 (by simp (maxSteps := 2000000) (disch := omega) only [go_sem, Nat.reduceAdd, Nat.reduceSub, Nat.reduceLeDiff, Nat.reduceMul, reduceIte, reduceCtorEq, Int.reduceNeg, Int.reduceToNat, Nat.reduceLT, Int.reduceLE, Int.reduceLT, Int.reduceAdd, Int.reduceSub, Int.reduceMul, maxLenI, wrap64, read1N, over1N, flat0N, shl1N, shl1M, List.length_set, List.length_replicate, Int.toNat_natCast_add_one, testN, hasN, orN, over1N, if_pos, if_neg]; rfl) ?_
    refine OpsA.nil ?_
    change RunA _ _ _ _ _
    refine RunA.seq ?_
    refine RunA.solo good plan52_4 (by kernel_rfl) (by kernel_rfl) ?_
    refine OpsS.pre 6 (by simp (maxSteps := 2000000) (disch := omega) only [go_sem, Nat.reduceAdd, Nat.reduceSub, Nat.reduceLeDiff, Nat.reduceMul, reduceIte, reduceCtorEq, Int.reduceNeg, Int.reduceToNat, Nat.reduceLT, Int.reduceLE, Int.reduceLT, Int.reduceAdd, Int.reduceSub, Int.reduceMul, maxLenI, wrap64, read1N, over1N, flat0N, shl1N, shl1M, List.length_set, List.length_replicate, Int.toNat_natCast_add_one, testN, hasN, orN, over1N, if_pos, if_neg, plan52_4E]; rfl) ?_
    refine OpsS.pre 4 (by simp (maxSteps := 2000000) (disch := omega) only [go_sem, Nat.reduceAdd, Nat.reduceSub, Nat.reduceLeDiff, Nat.reduceMul, reduceIte, reduceCtorEq, Int.reduceNeg, Int.reduceToNat, Nat.reduceLT, Int.reduceLE, Int.reduceLT, Int.reduceAdd, Int.reduceSub, Int.reduceMul, maxLenI, wrap64, read1N, over1N, flat0N, shl1N, shl1M, List.length_set, List.length_replicate, Int.toNat_natCast_add_one, testN, hasN, orN, over1N, if_pos, if_neg, plan52_4E]; rfl) ?_
    show _
    change RunA _ _ _ _ _
    refine RunA.split 20 rfl (fun e2 => ?_) (fun e2 => ?_)
    · try simp only [e2]
      have qe2 := e2; try simp only [decide_eq_true_eq, decide_eq_false_iff_not, Bool.not_eq_true', Bool.not_eq_false', Bool.not_eq_eq_eq_not, Bool.not_true, Bool.not_false, Int.not_le, Int.not_lt, beq_iff_eq, bne_iff_ne, ge_iff_le, gt_iff_lt, beq_eq_false_iff_ne, ne_eq, bne_eq_false_iff_eq] at qe2
      refine RunA.condT rfl ?_
      refine RunA.seq ?_
      refine RunA.region good ?_
      refine OpsA.pre 1 (by simp (maxSteps := 2000000) (disch := omega) only [go_sem, Nat.reduceAdd, Nat.reduceSub, Nat.reduceLeDiff, Nat.reduceMul, reduceIte, reduceCtorEq, Int.reduceNeg, Int.reduceToNat, Nat.reduceLT, Int.reduceLE, Int.reduceLT, Int.reduceAdd, Int.reduceSub, Int.reduceMul, maxLenI, wrap64, read1N, over1N, flat0N, shl1N, shl1M, List.length_set, List.length_replicate, Int.toNat_natCast_add_one, testN, hasN, orN, over1N, if_pos, if_neg]; rfl) ?_
      refine OpsA.nil ?_
      change RunA _ _ _ _ _
      refine RunA.ret ?_
      refine Ends.mk (by simp only [res52, resA, resAs, resA1]; first | rfl | (simp (maxSteps := 2000000) (disch := omega) only [go_sem, Nat.reduceAdd, Nat.reduceSub, Nat.reduceLeDiff, Nat.reduceMul, reduceIte, reduceCtorEq, Int.reduceNeg, Int.reduceToNat, Nat.reduceLT, Int.reduceLE, Int.reduceLT, Int.reduceAdd, Int.reduceSub, Int.reduceMul, maxLenI, wrap64, read1N, over1N, flat0N, shl1N, shl1M, List.length_set, List.length_replicate, Int.toNat_natCast_add_one, testN, hasN, orN, over1N, if_pos, if_neg]; rfl)) ?_
      exact ⟨[], _, (List.append_nil _).symm, by first | rfl | rfl, by (first | exact congrArg AV.bool (decide_eq_true (fun d hd => hI d (by omega))).symm | exact congrArg AV.bool (decide_eq_false (fun f => by have := f i (by omega); simp_all)).symm)⟩
    · try simp only [e2]
      have qe2 := e2; try simp only [decide_eq_true_eq, decide_eq_false_iff_not, Bool.not_eq_true', Bool.not_eq_false', Bool.not_eq_eq_eq_not, Bool.not_true, Bool.not_false, Int.not_le, Int.not_lt, beq_iff_eq, bne_iff_ne, ge_iff_le, gt_iff_lt, beq_eq_false_iff_ne, ne_eq, bne_eq_false_iff_eq] at qe2
      refine RunA.condF rfl ?_
      refine RunA.skip ?_
      change RunA _ _ _ _ _
      refine RunA.region good ?_
      refine OpsA.pre 2 (by simp (maxSteps := 2000000) (disch := omega) only [go_sem, Nat.reduceAdd, Nat.reduceSub, Nat.reduceLeDiff, Nat.reduceMul, reduceIte, reduceCtorEq, Int.reduceNeg, Int.reduceToNat, Nat.reduceLT, Int.reduceLE, Int.reduceLT, Int.reduceAdd, Int.reduceSub, Int.reduceMul, maxLenI, wrap64, read1N, over1N, flat0N, shl1N, shl1M, List.length_set, List.length_replicate, Int.toNat_natCast_add_one, testN, hasN, orN, over1N, if_pos, if_neg]; rfl) ?_
      refine OpsA.nil ?_
      exact ⟨a.length - (i + 1), by omega, [vecN a, vecN b, .any, .any, .any, .any, .any, .int .i64 ((a.length : Nat) : Int), .int .i64 (((i + 1) : Nat) : Int), .any, .any, .any, .any, .any, .any, .any, .any, .any, .any, .any, .any, .any], ⟨(.inl (by first | rfl | (congr 1; omega))), (.inl (by first | rfl | (congr 1; omega))), (.inr rfl), (.inr rfl), (.inr rfl), (.inr rfl), (.inr rfl), (.inl (by first | rfl | (congr 1; omega))), (.inl (by first | rfl | (congr 1; omega))), (.inr rfl), (.inr rfl), (.inr rfl), (.inr rfl), (.inr rfl), (.inr rfl), (.inr rfl), (.inr rfl), (.inr rfl), (.inr rfl), (.inr rfl), (.inr rfl), (.inr rfl), trivial⟩, (i + 1), ⟨rfl, (fun d hd => if e : d = i then by rw [e]; assumption else hI d (by omega)), by omega⟩, rfl⟩
  · try simp only [e1]
    have qe1 := e1; try simp only [decide_eq_true_eq, decide_eq_false_iff_not, Bool.not_eq_true', Bool.not_eq_false', Bool.not_eq_eq_eq_not, Bool.not_true, Bool.not_false, Int.not_le, Int.not_lt, beq_iff_eq, bne_iff_ne, ge_iff_le, gt_iff_lt, beq_eq_false_iff_ne, ne_eq, bne_eq_false_iff_eq] at qe1
    refine RunA.condF rfl ?_
    refine RunA.exit ?_
    change RunA _ _ _ _ _
    refine RunA.seq ?_
    refine RunA.region good ?_
    refine OpsA.pre 1 (by simp (maxSteps := 2000000) (disch := omega) only [go_sem, Nat.reduceAdd, Nat.reduceSub, Nat.reduceLeDiff, Nat.reduceMul, reduceIte, reduceCtorEq, Int.reduceNeg, Int.reduceToNat, Nat.reduceLT, Int.reduceLE, Int.reduceLT, Int.reduceAdd, Int.reduceSub, Int.reduceMul, maxLenI, wrap64, read1N, over1N, flat0N, shl1N, shl1M, List.length_set, List.length_replicate, Int.toNat_natCast_add_one, testN, hasN, orN, over1N, if_pos, if_neg]; rfl) ?_
    refine OpsA.nil ?_
    change RunA _ _ _ _ _
    refine RunA.ret ?_
    refine Ends.mk (by simp only [res52, resA, resAs, resA1]; first | rfl | (simp (maxSteps := 2000000) (disch := omega) only [go_sem, Nat.reduceAdd, Nat.reduceSub, Nat.reduceLeDiff, Nat.reduceMul, reduceIte, reduceCtorEq, Int.reduceNeg, Int.reduceToNat, Nat.reduceLT, Int.reduceLE, Int.reduceLT, Int.reduceAdd, Int.reduceSub, Int.reduceMul, maxLenI, wrap64, read1N, over1N, flat0N, shl1N, shl1M, List.length_set, List.length_replicate, Int.toNat_natCast_add_one, testN, hasN, orN, over1N, if_pos, if_neg]; rfl)) ?_
    exact ⟨[], _, (List.append_nil _).symm, by first | rfl | rfl, by (first | exact congrArg AV.bool (decide_eq_true (fun d hd => hI d (by omega))).symm | exact congrArg AV.bool (decide_eq_false (fun f => by have := f i (by omega); simp_all)).symm)⟩

def plan39_5 : Plan := ⟨[[], [], [], [], [2, 3], [2, 3, 4], [], [6], [6, 7], [2, 3, 4, 5, 6, 7, 8], [0, 1, 2, 3, 4, 5, 6, 7, 8, 9], [0, 1, 2, 3, 4, 5, 6, 7, 8, 9, 10]], [false, false, false, false, false, false, false, false, false, false, false, true]⟩
theorem plan39_5E (i : Nat) : plan39_5.isE i = [false, false, false, false, false, false, false, false, false, false, false, true].getD i false := rfl

theorem c39 {h : Heap} (l : List Int) (k : Nat) (hk : k ≤ 8) (hl : l.length < 9223372036854775808) : CallA Try.prog cfg 39 [vecI l, .int .i64 ((k : Nat) : Int)] h (fun y' h' => y' = vecN (relN l k) ∧ h' = h) := by
  have hp := pow_le hk
  refine CallA.body (Q := fun y' => y' = vecN (relN l k)) good fn39 rfl ?_
  simp only [ntm39, List.length_cons, List.length_nil, Nat.reduceAdd, Nat.reduceSub, List.replicate, List.cons_append, List.nil_append]
  refine RunA.seq ?_
  refine RunA.region good ?_
  refine OpsA.pre 1 (by simp (maxSteps := 2000000) (disch := omega) only [go_sem, Nat.reduceAdd, Nat.reduceSub, Nat.reduceLeDiff, Nat.reduceMul, reduceIte, reduceCtorEq, Int.reduceNeg, Int.reduceToNat, Nat.reduceLT, Int.reduceLE, Int.reduceLT, Int.reduceAdd, Int.reduceSub, Int.reduceMul, maxLenI, wrap64, read1N, over1N, flat0N, shl1N, shl1M, List.length_set, List.length_replicate, Int.toNat_natCast_add_one, testN, hasN, orN, over1N, read1, if_pos, if_neg]; rfl) ?_
  refine OpsA.nil ?_
  change RunA _ _ _ _ _
  refine RunA.seq ?_
  refine RunA.region good ?_
  refine OpsA.pre 4 (by simp (maxSteps := 2000000) (disch := omega) only [go_sem, Nat.reduceAdd, Nat.reduceSub, Nat.reduceLeDiff, Nat.reduceMul, reduceIte, reduceCtorEq, Int.reduceNeg, Int.reduceToNat, Nat.reduceLT, Int.reduceLE, Int.reduceLT, Int.reduceAdd, Int.reduceSub, Int.reduceMul, maxLenI, wrap64, read1N, over1N, flat0N, shl1N, shl1M, List.length_set, List.length_replicate, Int.toNat_natCast_add_one, testN, hasN, orN, over1N, read1, if_pos, if_neg]; rfl) ?_
  refine OpsA.nil ?_
  change RunA _ _ _ _ _
  refine RunA.seq ?_
  refine RunA.seq ?_
  refine RunA.region good ?_
  refine OpsA.pre 1 (by simp (maxSteps := 2000000) (disch := omega) only [go_sem, Nat.reduceAdd, Nat.reduceSub, Nat.reduceLeDiff, Nat.reduceMul, reduceIte, reduceCtorEq, Int.reduceNeg, Int.reduceToNat, Nat.reduceLT, Int.reduceLE, Int.reduceLT, Int.reduceAdd, Int.reduceSub, Int.reduceMul, maxLenI, wrap64, read1N, over1N, flat0N, shl1N, shl1M, List.length_set, List.length_replicate, Int.toNat_natCast_add_one, testN, hasN, orN, over1N, read1, if_pos, if_neg]; rfl) ?_
  refine OpsA.nil ?_
  change RunA _ _ _ _ _
  refine RunA.block ?_
  refine RunA.loopL (fun m st => ∃ (i : Nat) (zs : List Nat), (m = (k + 1) - i ∧ UpTo (relV l k) i zs ∧ zs.length = (k + 1) ∧ i ≤ (k + 1)) ∧ st = ⟨[vecI l, .int .i64 ((k : Nat) : Int), .any, .any, .nils, .own h.length 0 0 (k + 1), .int .i64 ((i : Nat) : Int), .any, .any, .any, .any, .any, .any, .any, .any, .any, .any, .any, .any, .any, .any, .any, .any, .any, .any, .any, .any, .any, .any, .any, .any, .any, .any], h ++ [⟨0, false, 3, 1, zs.map cellN⟩]⟩) _ ⟨[vecI l, .int .i64 ((k : Nat) : Int), .any, .any, .nils, .own h.length 0 0 (k + 1), .int .i64 ((0 : Nat) : Int), .any, .any, .any, .any, .any, .any, .any, .any, .any, .any, .any, .any, .any, .any, .any, .any, .any, .any, .any, .any, .any, .any, .any, .any, .any, .any], ⟨(.inl (by first | rfl | (congr 1; omega))), (.inl (by first | rfl | (congr 1; omega))), (.inr rfl), (.inr rfl), (.inl (by first | rfl | (congr 1; omega))), (.inl (by first | rfl | (congr 1; omega))), (.inl (by first | rfl | (congr 1; omega))), (.inr rfl), (.inr rfl), (.inr rfl), (.inr rfl), (.inr rfl), (.inr rfl), (.inr rfl), (.inr rfl), (.inr rfl), (.inr rfl), (.inr rfl), (.inr rfl), (.inr rfl), (.inr rfl), (.inr rfl), (.inr rfl), (.inr rfl), (.inr rfl), (.inr rfl), (.inr rfl), (.inr rfl), (.inr rfl), (.inr rfl), (.inr rfl), (.inr rfl), (.inr rfl), trivial⟩, 0, (List.replicate (k + 1) 0), ⟨rfl, UpTo.zero _ _, by simp, by omega⟩, rfl⟩ ?_
  rintro m sl h' ⟨i, zs, ⟨hm, hI, hz, hi⟩, hst⟩
  obtain ⟨rfl, rfl⟩ := St.mk.inj hst
  refine RunA.seq ?_
  refine RunA.seq ?_
  refine RunA.region good ?_
  refine OpsA.pre 4 (by simp (maxSteps := 2000000) (disch := omega) only [go_sem, Nat.reduceAdd, Nat.reduceSub, Nat.reduceLeDiff, Nat.reduceMul, reduceIte, reduceCtorEq, Int.reduceNeg, Int.reduceToNat, Nat.reduceLT, Int.reduceLE, Int.reduceLT, Int.reduceAdd, Int.reduceSub, Int.reduceMul, maxLenI, wrap64, read1N, over1N, flat0N, shl1N, shl1M, List.length_set, List.length_replicate, Int.toNat_natCast_add_one, testN, hasN, orN, over1N, read1, if_pos, if_neg]; rfl) ?_
  refine OpsA.split 13 rfl (fun e1 => ?_) (fun e1 => ?_)
  · try simp only [e1]
    have qe1 := e1; try simp only [decide_eq_true_eq, decide_eq_false_iff_not, Bool.not_eq_true', Bool.not_eq_false', Bool.not_eq_eq_eq_not, Bool.not_true, Bool.not_false, Int.not_le, Int.not_lt, beq_iff_eq, bne_iff_ne, ge_iff_le, gt_iff_lt, beq_eq_false_iff_ne, ne_eq, bne_eq_false_iff_eq] at qe1
    refine OpsA.pre 5 (by simp (maxSteps := 2000000) (disch := omega) only [go_sem, Nat.reduceAdd, Nat.reduceSub, Nat.reduceLeDiff, Nat.reduceMul, reduceIte, reduceCtorEq, Int.reduceNeg, Int.reduceToNat, Nat.reduceLT, Int.reduceLE, Int.reduceLT, Int.reduceAdd, Int.reduceSub, Int.reduceMul, maxLenI, wrap64, read1N, over1N, flat0N, shl1N, shl1M, List.length_set, List.length_replicate, Int.toNat_natCast_add_one, testN, hasN, orN, over1N, read1, if_pos, if_neg]; rfl) ?_
    refine OpsA.nil ?_
    change RunA _ _ _ _ _
    refine RunA.split 18 rfl (fun e2 => ?_) (fun e2 => ?_)
    · try simp only [e2]
      have qe2 := e2; try simp only [decide_eq_true_eq, decide_eq_false_iff_not, Bool.not_eq_true', Bool.not_eq_false', Bool.not_eq_eq_eq_not, Bool.not_true, Bool.not_false, Int.not_le, Int.not_lt, beq_iff_eq, bne_iff_ne, ge_iff_le, gt_iff_lt, beq_eq_false_iff_ne, ne_eq, bne_eq_false_iff_eq] at qe2
      refine RunA.condT rfl ?_
      refine RunA.skip ?_
      change RunA _ _ _ _ _
      refine RunA.seq ?_
      refine RunA.block ?_
      refine RunA.solo good plan39_5 (by kernel_rfl) (by kernel_rfl) ?_
      refine OpsS.pre 6 (by simp (maxSteps := 2000000) (disch := omega) only [go_sem, Nat.reduceAdd, Nat.reduceSub, Nat.reduceLeDiff, Nat.reduceMul, reduceIte, reduceCtorEq, Int.reduceNeg, Int.reduceToNat, Nat.reduceLT, Int.reduceLE, Int.reduceLT, Int.reduceAdd, Int.reduceSub, Int.reduceMul, maxLenI, wrap64, read1N, over1N, flat0N, shl1N, shl1M, List.length_set, List.length_replicate, Int.toNat_natCast_add_one, testN, hasN, orN, over1N, read1, if_pos, if_neg, plan39_5E]; rfl) ?_
      refine OpsS.pre 3 (by simp (maxSteps := 2000000) (disch := omega) only [go_sem, Nat.reduceAdd, Nat.reduceSub, Nat.reduceLeDiff, Nat.reduceMul, reduceIte, reduceCtorEq, Int.reduceNeg, Int.reduceToNat, Nat.reduceLT, Int.reduceLE, Int.reduceLT, Int.reduceAdd, Int.reduceSub, Int.reduceMul, maxLenI, wrap64, read1N, over1N, flat0N, shl1N, shl1M, List.length_set, List.length_replicate, Int.toNat_natCast_add_one, testN, hasN, orN, over1N, read1, if_pos, if_neg, plan39_5E]; rfl) ?_
      refine OpsS.call rfl rfl rfl hb16 (c16N _ _ (by omega) (by omega)) ?_
      refine OpsS.pre 2 (by simp (maxSteps := 2000000) (disch := omega) only [go_sem, Nat.reduceAdd, Nat.reduceSub, Nat.reduceLeDiff, Nat.reduceMul, reduceIte, reduceCtorEq, Int.reduceNeg, Int.reduceToNat, Nat.reduceLT, Int.reduceLE, Int.reduceLT, Int.reduceAdd, Int.reduceSub, Int.reduceMul, maxLenI, wrap64, read1N, over1N, flat0N, shl1N, shl1M, List.length_set, List.length_replicate, Int.toNat_natCast_add_one, testN, hasN, orN, over1N, read1, if_pos, if_neg, plan39_5E]; rfl) ?_
      show _
      change RunA _ _ _ _ _
      refine RunA.region good ?_
      refine OpsA.pre 3 (by simp (maxSteps := 2000000) (disch := omega) only [go_sem, Nat.reduceAdd, Nat.reduceSub, Nat.reduceLeDiff, Nat.reduceMul, reduceIte, reduceCtorEq, Int.reduceNeg, Int.reduceToNat, Nat.reduceLT, Int.reduceLE, Int.reduceLT, Int.reduceAdd, Int.reduceSub, Int.reduceMul, maxLenI, wrap64, read1N, over1N, flat0N, shl1N, shl1M, List.length_set, List.length_replicate, Int.toNat_natCast_add_one, testN, hasN, orN, over1N, read1, if_pos, if_neg]; rfl) ?_
      refine OpsA.nil ?_
      exact ⟨(k + 1) - (i + 1), by omega, [vecI l, .int .i64 ((k : Nat) : Int), .any, .any, .nils, .own h.length 0 0 (k + 1), .int .i64 (((i + 1) : Nat) : Int), .any, .any, .any, .any, .any, .any, .any, .any, .any, .any, .any, .any, .any, .any, .any, .any, .any, .any, .any, .any, .any, .any, .any, .any, .any, .any], ⟨(.inl (by first | rfl | (congr 1; omega))), (.inl (by first | rfl | (congr 1; omega))), (.inr rfl), (.inr rfl), (.inl (by first | rfl | (congr 1; omega))), (.inl (by first | rfl | (congr 1; omega))), (.inl (by first | rfl | (congr 1; omega))), (.inr rfl), (.inr rfl), (.inr rfl), (.inr rfl), (.inr rfl), (.inr rfl), (.inr rfl), (.inr rfl), (.inr rfl), (.inr rfl), (.inr rfl), (.inr rfl), (.inr rfl), (.inr rfl), (.inr rfl), (.inr rfl), (.inr rfl), (.inr rfl), (.inr rfl), (.inr rfl), (.inr rfl), (.inr rfl), (.inr rfl), (.inr rfl), (.inr rfl), (.inr rfl), trivial⟩, (i + 1), (zs.set i _), ⟨rfl, UpTo.set (by omega) hI ((by rw [relV, if_pos (by omega)])), by simp only [List.length_set]; exact hz, by omega⟩, rfl⟩
    · try simp only [e2]
      have qe2 := e2; try simp only [decide_eq_true_eq, decide_eq_false_iff_not, Bool.not_eq_true', Bool.not_eq_false', Bool.not_eq_eq_eq_not, Bool.not_true, Bool.not_false, Int.not_le, Int.not_lt, beq_iff_eq, bne_iff_ne, ge_iff_le, gt_iff_lt, beq_eq_false_iff_ne, ne_eq, bne_eq_false_iff_eq] at qe2
      refine RunA.condF rfl ?_
      refine RunA.exit ?_
      change RunA _ _ _ _ _
      refine RunA.seq ?_
      refine RunA.region good ?_
      refine OpsA.pre 2 (by simp (maxSteps := 2000000) (disch := omega) only [go_sem, Nat.reduceAdd, Nat.reduceSub, Nat.reduceLeDiff, Nat.reduceMul, reduceIte, reduceCtorEq, Int.reduceNeg, Int.reduceToNat, Nat.reduceLT, Int.reduceLE, Int.reduceLT, Int.reduceAdd, Int.reduceSub, Int.reduceMul, maxLenI, wrap64, read1N, over1N, flat0N, shl1N, shl1M, List.length_set, List.length_replicate, Int.toNat_natCast_add_one, testN, hasN, orN, over1N, read1, if_pos, if_neg]; rfl) ?_
      refine OpsA.nil ?_
      change RunA _ _ _ _ _
      refine RunA.ret ?_
      refine Ends.mk (by simp only [res39, resA, resAs, resA1]; first | rfl | (simp (maxSteps := 2000000) (disch := omega) only [go_sem, Nat.reduceAdd, Nat.reduceSub, Nat.reduceLeDiff, Nat.reduceMul, reduceIte, reduceCtorEq, Int.reduceNeg, Int.reduceToNat, Nat.reduceLT, Int.reduceLE, Int.reduceLT, Int.reduceAdd, Int.reduceSub, Int.reduceMul, maxLenI, wrap64, read1N, over1N, flat0N, shl1N, shl1M, List.length_set, List.length_replicate, Int.toNat_natCast_add_one, testN, hasN, orN, over1N, read1, if_pos, if_neg]; rfl)) ?_
      exact ⟨_, _, rfl, by first | rfl | exact frz_row0 hz, by (show _ = vecN (relN l k); rw [hI.all2 hz (fun d h1 h2 => by rw [relV, if_neg (by omega)])]; simp [vecN, relN])⟩
  · try simp only [e1]
    have qe1 := e1; try simp only [decide_eq_true_eq, decide_eq_false_iff_not, Bool.not_eq_true', Bool.not_eq_false', Bool.not_eq_eq_eq_not, Bool.not_true, Bool.not_false, Int.not_le, Int.not_lt, beq_iff_eq, bne_iff_ne, ge_iff_le, gt_iff_lt, beq_eq_false_iff_ne, ne_eq, bne_eq_false_iff_eq] at qe1
    refine OpsA.pre 5 (by simp (maxSteps := 2000000) (disch := omega) only [go_sem, Nat.reduceAdd, Nat.reduceSub, Nat.reduceLeDiff, Nat.reduceMul, reduceIte, reduceCtorEq, Int.reduceNeg, Int.reduceToNat, Nat.reduceLT, Int.reduceLE, Int.reduceLT, Int.reduceAdd, Int.reduceSub, Int.reduceMul, maxLenI, wrap64, read1N, over1N, flat0N, shl1N, shl1M, List.length_set, List.length_replicate, Int.toNat_natCast_add_one, testN, hasN, orN, over1N, read1, if_pos, if_neg]; rfl) ?_
    refine OpsA.nil ?_
    change RunA _ _ _ _ _
    refine RunA.condF rfl ?_
    refine RunA.exit ?_
    change RunA _ _ _ _ _
    refine RunA.seq ?_
    refine RunA.region good ?_
    refine OpsA.pre 2 (by simp (maxSteps := 2000000) (disch := omega) only [go_sem, Nat.reduceAdd, Nat.reduceSub, Nat.reduceLeDiff, Nat.reduceMul, reduceIte, reduceCtorEq, Int.reduceNeg, Int.reduceToNat, Nat.reduceLT, Int.reduceLE, Int.reduceLT, Int.reduceAdd, Int.reduceSub, Int.reduceMul, maxLenI, wrap64, read1N, over1N, flat0N, shl1N, shl1M, List.length_set, List.length_replicate, Int.toNat_natCast_add_one, testN, hasN, orN, over1N, read1, if_pos, if_neg]; rfl) ?_
    refine OpsA.nil ?_
    change RunA _ _ _ _ _
    refine RunA.ret ?_
    refine Ends.mk (by simp only [res39, resA, resAs, resA1]; first | rfl | (simp (maxSteps := 2000000) (disch := omega) only [go_sem, Nat.reduceAdd, Nat.reduceSub, Nat.reduceLeDiff, Nat.reduceMul, reduceIte, reduceCtorEq, Int.reduceNeg, Int.reduceToNat, Nat.reduceLT, Int.reduceLE, Int.reduceLT, Int.reduceAdd, Int.reduceSub, Int.reduceMul, maxLenI, wrap64, read1N, over1N, flat0N, shl1N, shl1M, List.length_set, List.length_replicate, Int.toNat_natCast_add_one, testN, hasN, orN, over1N, read1, if_pos, if_neg]; rfl)) ?_
    exact ⟨_, _, rfl, by first | rfl | exact frz_row0 hz, by (show _ = vecN (relN l k); rw [hI.all2 hz (fun d h1 h2 => by rw [relV, if_neg (by omega)])]; simp [vecN, relN])⟩

theorem c40 {h : Heap} (x : Int) (k : Nat) (hk : k ≤ 8) : CallA Try.prog cfg 40 [.int .i64 x, .int .i64 ((k : Nat) : Int)] h (fun y' h' => y' = .int .i64 ((withinN x ((2 ^ (k + 1) : Nat) : Int) : Nat) : Int) ∧ h' = h) := by
  have hp := pow_le hk
  refine CallA.body (Q := fun y' => y' = .int .i64 ((withinN x ((2 ^ (k + 1) : Nat) : Int) : Nat) : Int)) good fn40 rfl ?_
  simp only [ntm40, List.length_cons, List.length_nil, Nat.reduceAdd, Nat.reduceSub, List.replicate, List.cons_append, List.nil_append]
  refine RunA.seq ?_
  refine RunA.region good ?_
  refine OpsA.pre 1 (by simp (maxSteps := 2000000) (disch := omega) only [go_sem, Nat.reduceAdd, Nat.reduceSub, Nat.reduceLeDiff, Nat.reduceMul, reduceIte, reduceCtorEq, Int.reduceNeg, Int.reduceToNat, Nat.reduceLT, Int.reduceLE, Int.reduceLT, Int.reduceAdd, Int.reduceSub, Int.reduceMul, maxLenI, wrap64, read1N, over1N, flat0N, shl1N, shl1M, List.length_set, List.length_replicate, Int.toNat_natCast_add_one, testN, hasN, orN, over1N]; rfl) ?_
  refine OpsA.nil ?_
  change RunA _ _ _ _ _
  refine RunA.seq ?_
  refine RunA.region good ?_
  refine OpsA.pre 4 (by simp (maxSteps := 2000000) (disch := omega) only [go_sem, Nat.reduceAdd, Nat.reduceSub, Nat.reduceLeDiff, Nat.reduceMul, reduceIte, reduceCtorEq, Int.reduceNeg, Int.reduceToNat, Nat.reduceLT, Int.reduceLE, Int.reduceLT, Int.reduceAdd, Int.reduceSub, Int.reduceMul, maxLenI, wrap64, read1N, over1N, flat0N, shl1N, shl1M, List.length_set, List.length_replicate, Int.toNat_natCast_add_one, testN, hasN, orN, over1N]; rfl) ?_
  refine OpsA.callQ rfl rfl rfl hb16 (c16N _ _ (by omega) (by omega)) ?_
  refine OpsA.pre 1 (by simp (maxSteps := 2000000) (disch := omega) only [go_sem, Nat.reduceAdd, Nat.reduceSub, Nat.reduceLeDiff, Nat.reduceMul, reduceIte, reduceCtorEq, Int.reduceNeg, Int.reduceToNat, Nat.reduceLT, Int.reduceLE, Int.reduceLT, Int.reduceAdd, Int.reduceSub, Int.reduceMul, maxLenI, wrap64, read1N, over1N, flat0N, shl1N, shl1M, List.length_set, List.length_replicate, Int.toNat_natCast_add_one, testN, hasN, orN, over1N]; rfl) ?_
  refine OpsA.nil ?_
  change RunA _ _ _ _ _
  refine RunA.ret ?_
  refine Ends.mk (by simp only [res40, resA, resAs, resA1]; first | rfl | (simp (maxSteps := 2000000) (disch := omega) only [go_sem, Nat.reduceAdd, Nat.reduceSub, Nat.reduceLeDiff, Nat.reduceMul, reduceIte, reduceCtorEq, Int.reduceNeg, Int.reduceToNat, Nat.reduceLT, Int.reduceLE, Int.reduceLT, Int.reduceAdd, Int.reduceSub, Int.reduceMul, maxLenI, wrap64, read1N, over1N, flat0N, shl1N, shl1M, List.length_set, List.length_replicate, Int.toNat_natCast_add_one, testN, hasN, orN, over1N]; rfl)) ?_
  exact ⟨[], _, (List.append_nil _).symm, by first | rfl | rfl, by rfl⟩

theorem c38 {h : Heap}  : CallA Try.prog cfg 38 [] h (fun y' h' => y' = .bool true ∧ h' = h) := by
  refine CallA.body (Q := fun y' => y' = .bool true) good fn38 rfl ?_
  simp only [ntm38, List.length_cons, List.length_nil, Nat.reduceAdd, Nat.reduceSub, List.replicate, List.cons_append, List.nil_append]
  refine RunA.seq ?_
  refine RunA.region good ?_
  refine OpsA.pre 1 (by simp (maxSteps := 2000000) (disch := omega) only [go_sem, Nat.reduceAdd, Nat.reduceSub, Nat.reduceLeDiff, Nat.reduceMul, reduceIte, reduceCtorEq, Int.reduceNeg, Int.reduceToNat, Nat.reduceLT, Int.reduceLE, Int.reduceLT, Int.reduceAdd, Int.reduceSub, Int.reduceMul, maxLenI, wrap64, read1N, over1N, shl1N, shl1M, List.length_set, List.length_replicate, Int.toNat_natCast_add_one, List.replicate, List.flatten_cons, List.flatten_nil]; rfl) ?_
  refine OpsA.nil ?_
  change RunA _ _ _ _ _
  refine RunA.seq ?_
  refine RunA.region good ?_
  refine OpsA.callQ rfl rfl rfl hb33 (c33 1 (by omega)) ?_
  refine OpsA.pre 1 (by simp (maxSteps := 2000000) (disch := omega) only [go_sem, Nat.reduceAdd, Nat.reduceSub, Nat.reduceLeDiff, Nat.reduceMul, reduceIte, reduceCtorEq, Int.reduceNeg, Int.reduceToNat, Nat.reduceLT, Int.reduceLE, Int.reduceLT, Int.reduceAdd, Int.reduceSub, Int.reduceMul, maxLenI, wrap64, read1N, over1N, shl1N, shl1M, List.length_set, List.length_replicate, Int.toNat_natCast_add_one, List.replicate, List.flatten_cons, List.flatten_nil]; rfl) ?_
  refine OpsA.callE rfl rfl rfl hb36 (CallA.plainArg (β := h.length) (off := 0) (len := 2) (b := ⟨0, false, 3, 1, _⟩) (by rw [get_app0]; rfl) rfl (by simp) (by rfl) (by exact ⟨.inl rfl, .inr ⟨rfl, rfl⟩, trivial⟩) (c36N _ [2, 0] (by simp [shN]))) ?_
  refine OpsA.pre 1 (by simp (maxSteps := 2000000) (disch := omega) only [go_sem, Nat.reduceAdd, Nat.reduceSub, Nat.reduceLeDiff, Nat.reduceMul, reduceIte, reduceCtorEq, Int.reduceNeg, Int.reduceToNat, Nat.reduceLT, Int.reduceLE, Int.reduceLT, Int.reduceAdd, Int.reduceSub, Int.reduceMul, maxLenI, wrap64, read1N, over1N, shl1N, shl1M, List.length_set, List.length_replicate, Int.toNat_natCast_add_one, List.replicate, List.flatten_cons, List.flatten_nil]; rfl) ?_
  refine OpsA.split 4 rfl (fun e1 => ?_) (fun e1 => ?_)
  · try simp only [e1]
    have qe1 := e1; try simp only [decide_eq_true_eq, decide_eq_false_iff_not, Bool.not_eq_true', Bool.not_eq_false', Bool.not_eq_eq_eq_not, Bool.not_true, Bool.not_false, Int.not_le, Int.not_lt, beq_iff_eq, bne_iff_ne, ge_iff_le, gt_iff_lt, beq_eq_false_iff_ne, ne_eq, bne_eq_false_iff_eq] at qe1
    refine OpsA.callQ rfl rfl rfl hb34 (c34 1 (by omega)) ?_
    refine OpsA.pre 1 (by simp (maxSteps := 2000000) (disch := omega) only [go_sem, Nat.reduceAdd, Nat.reduceSub, Nat.reduceLeDiff, Nat.reduceMul, reduceIte, reduceCtorEq, Int.reduceNeg, Int.reduceToNat, Nat.reduceLT, Int.reduceLE, Int.reduceLT, Int.reduceAdd, Int.reduceSub, Int.reduceMul, maxLenI, wrap64, read1N, over1N, shl1N, shl1M, List.length_set, List.length_replicate, Int.toNat_natCast_add_one, List.replicate, List.flatten_cons, List.flatten_nil]; rfl) ?_
    refine OpsA.callE rfl rfl rfl hb36 (CallA.plainArg (β := h.length + 1) (off := 0) (len := 2) (b := ⟨0, false, 3, 1, _⟩) (by rw [get_app]; rfl) rfl (by simp) (by rfl) (by exact ⟨.inl rfl, .inr ⟨rfl, rfl⟩, trivial⟩) (c36N _ [0, 1] (by simp [shN]))) ?_
    refine OpsA.pre 2 (by simp (maxSteps := 2000000) (disch := omega) only [go_sem, Nat.reduceAdd, Nat.reduceSub, Nat.reduceLeDiff, Nat.reduceMul, reduceIte, reduceCtorEq, Int.reduceNeg, Int.reduceToNat, Nat.reduceLT, Int.reduceLE, Int.reduceLT, Int.reduceAdd, Int.reduceSub, Int.reduceMul, maxLenI, wrap64, read1N, over1N, shl1N, shl1M, List.length_set, List.length_replicate, Int.toNat_natCast_add_one, List.replicate, List.flatten_cons, List.flatten_nil]; rfl) ?_
    refine OpsA.split 9 rfl (fun e2 => ?_) (fun e2 => ?_)
    · try simp only [e2]
      have qe2 := e2; try simp only [decide_eq_true_eq, decide_eq_false_iff_not, Bool.not_eq_true', Bool.not_eq_false', Bool.not_eq_eq_eq_not, Bool.not_true, Bool.not_false, Int.not_le, Int.not_lt, beq_iff_eq, bne_iff_ne, ge_iff_le, gt_iff_lt, beq_eq_false_iff_ne, ne_eq, bne_eq_false_iff_eq] at qe2
      refine OpsA.pre 1 (by simp (maxSteps := 2000000) (disch := omega) only [go_sem, Nat.reduceAdd, Nat.reduceSub, Nat.reduceLeDiff, Nat.reduceMul, reduceIte, reduceCtorEq, Int.reduceNeg, Int.reduceToNat, Nat.reduceLT, Int.reduceLE, Int.reduceLT, Int.reduceAdd, Int.reduceSub, Int.reduceMul, maxLenI, wrap64, read1N, over1N, shl1N, shl1M, List.length_set, List.length_replicate, Int.toNat_natCast_add_one, List.replicate, List.flatten_cons, List.flatten_nil]; rfl) ?_
      refine OpsA.callE rfl rfl rfl hb41 (CallA.plainArg (β := h.length + 2) (off := 0) (len := 2) (b := ⟨0, false, 3, 1, _⟩) (by rw [get_app]; rfl) rfl (by simp) (by rfl) (by exact ⟨.inr ⟨rfl, rfl⟩, .inl rfl, trivial⟩) (c41 [2, 1] 3 (by decide) (by decide) (by decide))) ?_
      refine OpsA.pre 3 (by simp (maxSteps := 2000000) (disch := omega) only [go_sem, Nat.reduceAdd, Nat.reduceSub, Nat.reduceLeDiff, Nat.reduceMul, reduceIte, reduceCtorEq, Int.reduceNeg, Int.reduceToNat, Nat.reduceLT, Int.reduceLE, Int.reduceLT, Int.reduceAdd, Int.reduceSub, Int.reduceMul, maxLenI, wrap64, read1N, over1N, shl1N, shl1M, List.length_set, List.length_replicate, Int.toNat_natCast_add_one, List.replicate, List.flatten_cons, List.flatten_nil]; rfl) ?_
      refine OpsA.split 14 rfl (fun e3 => ?_) (fun e3 => ?_)
      · try simp only [e3]
        have qe3 := e3; try simp only [decide_eq_true_eq, decide_eq_false_iff_not, Bool.not_eq_true', Bool.not_eq_false', Bool.not_eq_eq_eq_not, Bool.not_true, Bool.not_false, Int.not_le, Int.not_lt, beq_iff_eq, bne_iff_ne, ge_iff_le, gt_iff_lt, beq_eq_false_iff_ne, ne_eq, bne_eq_false_iff_eq] at qe3
        refine OpsA.pre 1 (by simp (maxSteps := 2000000) (disch := omega) only [go_sem, Nat.reduceAdd, Nat.reduceSub, Nat.reduceLeDiff, Nat.reduceMul, reduceIte, reduceCtorEq, Int.reduceNeg, Int.reduceToNat, Nat.reduceLT, Int.reduceLE, Int.reduceLT, Int.reduceAdd, Int.reduceSub, Int.reduceMul, maxLenI, wrap64, read1N, over1N, shl1N, shl1M, List.length_set, List.length_replicate, Int.toNat_natCast_add_one, List.replicate, List.flatten_cons, List.flatten_nil]; rfl) ?_
        refine OpsA.callQ rfl rfl rfl hb46 (c46 _ _ _) ?_
        refine OpsA.pre 3 (by simp (maxSteps := 2000000) (disch := omega) only [go_sem, Nat.reduceAdd, Nat.reduceSub, Nat.reduceLeDiff, Nat.reduceMul, reduceIte, reduceCtorEq, Int.reduceNeg, Int.reduceToNat, Nat.reduceLT, Int.reduceLE, Int.reduceLT, Int.reduceAdd, Int.reduceSub, Int.reduceMul, maxLenI, wrap64, read1N, over1N, shl1N, shl1M, List.length_set, List.length_replicate, Int.toNat_natCast_add_one, List.replicate, List.flatten_cons, List.flatten_nil]; rfl) ?_
        refine OpsA.split 19 rfl (fun e4 => ?_) (fun e4 => ?_)
        · try simp only [e4]
          have qe4 := e4; try simp only [decide_eq_true_eq, decide_eq_false_iff_not, Bool.not_eq_true', Bool.not_eq_false', Bool.not_eq_eq_eq_not, Bool.not_true, Bool.not_false, Int.not_le, Int.not_lt, beq_iff_eq, bne_iff_ne, ge_iff_le, gt_iff_lt, beq_eq_false_iff_ne, ne_eq, bne_eq_false_iff_eq] at qe4
          refine OpsA.pre 1 (by simp (maxSteps := 2000000) (disch := omega) only [go_sem, Nat.reduceAdd, Nat.reduceSub, Nat.reduceLeDiff, Nat.reduceMul, reduceIte, reduceCtorEq, Int.reduceNeg, Int.reduceToNat, Nat.reduceLT, Int.reduceLE, Int.reduceLT, Int.reduceAdd, Int.reduceSub, Int.reduceMul, maxLenI, wrap64, read1N, over1N, shl1N, shl1M, List.length_set, List.length_replicate, Int.toNat_natCast_add_one, List.replicate, List.flatten_cons, List.flatten_nil]; rfl) ?_
          refine OpsA.callQ rfl rfl rfl hb46 (c46 _ _ _) ?_
          refine OpsA.pre 3 (by simp (maxSteps := 2000000) (disch := omega) only [go_sem, Nat.reduceAdd, Nat.reduceSub, Nat.reduceLeDiff, Nat.reduceMul, reduceIte, reduceCtorEq, Int.reduceNeg, Int.reduceToNat, Nat.reduceLT, Int.reduceLE, Int.reduceLT, Int.reduceAdd, Int.reduceSub, Int.reduceMul, maxLenI, wrap64, read1N, over1N, shl1N, shl1M, List.length_set, List.length_replicate, Int.toNat_natCast_add_one, List.replicate, List.flatten_cons, List.flatten_nil]; rfl) ?_
          refine OpsA.split 24 rfl (fun e5 => ?_) (fun e5 => ?_)
          · try simp only [e5]
            have qe5 := e5; try simp only [decide_eq_true_eq, decide_eq_false_iff_not, Bool.not_eq_true', Bool.not_eq_false', Bool.not_eq_eq_eq_not, Bool.not_true, Bool.not_false, Int.not_le, Int.not_lt, beq_iff_eq, bne_iff_ne, ge_iff_le, gt_iff_lt, beq_eq_false_iff_ne, ne_eq, bne_eq_false_iff_eq] at qe5
            refine OpsA.callQ rfl rfl rfl hb43 (c43 5 2 (by decide)) ?_
            refine OpsA.pre 2 (by simp (maxSteps := 2000000) (disch := omega) only [go_sem, Nat.reduceAdd, Nat.reduceSub, Nat.reduceLeDiff, Nat.reduceMul, reduceIte, reduceCtorEq, Int.reduceNeg, Int.reduceToNat, Nat.reduceLT, Int.reduceLE, Int.reduceLT, Int.reduceAdd, Int.reduceSub, Int.reduceMul, maxLenI, wrap64, read1N, over1N, shl1N, shl1M, List.length_set, List.length_replicate, Int.toNat_natCast_add_one, List.replicate, List.flatten_cons, List.flatten_nil]; rfl) ?_
            refine OpsA.nil ?_
            change RunA _ _ _ _ _
            refine RunA.ret ?_
            refine Ends.mk (by simp only [res38, resA, resAs, resA1]; first | rfl | (simp (maxSteps := 2000000) (disch := omega) only [go_sem, Nat.reduceAdd, Nat.reduceSub, Nat.reduceLeDiff, Nat.reduceMul, reduceIte, reduceCtorEq, Int.reduceNeg, Int.reduceToNat, Nat.reduceLT, Int.reduceLE, Int.reduceLT, Int.reduceAdd, Int.reduceSub, Int.reduceMul, maxLenI, wrap64, read1N, over1N, shl1N, shl1M, List.length_set, List.length_replicate, Int.toNat_natCast_add_one, List.replicate, List.flatten_cons, List.flatten_nil]; rfl)) ?_
            exact ⟨_, _, rfl, by first | rfl | (simp only [frzT, frzP, optMap, get_app, get_app0]; rfl), by rfl⟩
          · exfalso; first | cases e5 | (exact absurd e5 (by decide))
        · exfalso; first | cases e4 | (exact absurd e4 (by decide))
      · exfalso; first | cases e3 | (exact absurd e3 (by decide))
    · exfalso; first | cases e2 | (exact absurd e2 (by decide))
  · exfalso; first | cases e1 | (exact absurd e1 (by decide))

end Go.Proofs.Ytlmclkamedhmhaa
