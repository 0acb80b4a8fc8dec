/-
  LAWS OF DEPTHS: shifts; the two ways to apply, compose, join. Written in part by a program of mine (gen14.py, walk.py). Conditions: none.
-/
import Derived.Test.YtlmclkamedhmhaaDep14E
namespace Go.Proofs.Ytlmclkamedhmhaa
open Go.Ab
set_option linter.unusedSimpArgs false
set_option linter.unusedVariables false
set_option maxRecDepth 10000
attribute [local go_sem] opsE opsSE stepS quietA wantA plainA pureA readA effA callPureA lenA minA maxA rho embT emb putA List.set List.getD_cons_zero List.getD_cons_succ List.getD_nil binA intBin isShift unA buildA fillA over partA loadA readAt writeAt newVarA virts addOff AV.cellsOf AV.storable AV.one UD.isAgg UD.known rd lenOf appendA sliceA boundA virtNone get_app get_app0 set_app set_app0 Array.toList List.take_succ_cons List.take_zero List.drop_succ_cons List.drop_zero List.getElem?_cons_succ List.getElem?_cons_zero List.getElem?_toArray Option.bind_some Option.map_some Option.map_none List.map_cons List.map_nil List.length_cons List.length_nil List.length_append Nat.zero_add Nat.add_zero Nat.le_refl Nat.one_mul Nat.mul_one List.append_assoc List.cons_append List.nil_append List.append_nil and_self and_true true_and true_or or_true if_true if_false Bool.false_eq_true not_false_eq_true bTT bTF bFT bFF Bool.not_true Bool.not_false decide_true decide_false Int.toNat_zero Int.toNat_one Int.toNat_natCast List.size_toArray ut3 sz3 ti3 ut4 sz4 ti4 ut34 sz34 ti34 ut53 sz53 ti53 ut63 sz63 ti63 vecI vecN deadB List.length_map Int.natCast_nonneg List.map_nil

theorem over1Z {l : List Nat} {i : Nat} (h : i < l.length) : List.take i (l.map cellN) ++ AV.int .i64 0 :: List.drop (i + 1) (l.map cellN) = (l.set i 0).map cellN := over1N (v := 0) h
theorem row_plain {zs : List Nat} {n : Nat} (hz : zs.length = n) : optMap sealC (List.take (n * 1) (List.drop 0 (zs.map cellN))) = some (zs.map cellN) := by
  rw [List.drop_zero, Nat.mul_one, ← hz, List.take_of_length_le (by simp), optMap_self]
  intro x hx
  obtain ⟨m, _, rfl⟩ := List.mem_map.1 hx
  rfl
theorem c36V {h : Heap} (a b : List Nat) {n : Nat} (hn : b.length = n) (ha : a.length < 9223372036854775808) : CallA Try.prog cfg 36 [vecN a, .vec n (b.map cellN)] h (fun r h' => r = .bool (decide (a = b)) ∧ h' = h) := by
  subst hn
  exact c36N a b ha
theorem up_down {k : Nat} (hk : k ≤ 8) : composeN (shN k 1) (shN k (-1)) = (shN k 0).set k 0 := by
  have : k = 0 ∨ k = 1 ∨ k = 2 ∨ k = 3 ∨ k = 4 ∨ k = 5 ∨ k = 6 ∨ k = 7 ∨ k = 8 := by omega
  rcases this with rfl | rfl | rfl | rfl | rfl | rfl | rfl | rfl | rfl <;> decide +kernel

theorem e35 {h : Heap} (k : Nat) (n : Int) (hk : k ≤ 8) (h1 : -1 ≤ n) (h2 : n ≤ 1) : CallA Try.prog cfg 35 [.int .i64 ((k : Nat) : Int), .int .i64 n] h (fun y' h' => y' = .own h.length 0 0 (k + 1) ∧ h' = h ++ [⟨0, false, 3, 1, (shN k n).map cellN⟩]) := by
  refine CallA.keep good fn35 rfl ?_
  simp only [ntm35, List.length_cons, List.length_nil, Nat.reduceAdd, Nat.reduceSub, List.replicate, List.cons_append, List.nil_append]
  refine RunA.seq ?_
  refine RunA.region good ?_
  refine OpsA.pre 1 (by simp (maxSteps := 2000000) (disch := omega) only [go_sem, Nat.reduceAdd, Nat.reduceSub, Nat.reduceLeDiff, Nat.reduceMul, reduceIte, reduceCtorEq, Int.reduceNeg, Int.reduceToNat, Nat.reduceLT, Int.reduceLE, Int.reduceLT, Int.reduceAdd, Int.reduceSub, Int.reduceMul, maxLenI, wrap64, read1N, over1N, flat0N, shl1N, shl1M, List.length_set, List.length_replicate, Int.toNat_natCast_add_one, if_pos, if_neg]; rfl) ?_
  refine OpsA.nil ?_
  change RunA _ _ _ _ _
  refine RunA.seq ?_
  refine RunA.region good ?_
  refine OpsA.pre 4 (by simp (maxSteps := 2000000) (disch := omega) only [go_sem, Nat.reduceAdd, Nat.reduceSub, Nat.reduceLeDiff, Nat.reduceMul, reduceIte, reduceCtorEq, Int.reduceNeg, Int.reduceToNat, Nat.reduceLT, Int.reduceLE, Int.reduceLT, Int.reduceAdd, Int.reduceSub, Int.reduceMul, maxLenI, wrap64, read1N, over1N, flat0N, shl1N, shl1M, List.length_set, List.length_replicate, Int.toNat_natCast_add_one, if_pos, if_neg]; rfl) ?_
  refine OpsA.nil ?_
  change RunA _ _ _ _ _
  refine RunA.seq ?_
  refine RunA.seq ?_
  refine RunA.region good ?_
  refine OpsA.pre 1 (by simp (maxSteps := 2000000) (disch := omega) only [go_sem, Nat.reduceAdd, Nat.reduceSub, Nat.reduceLeDiff, Nat.reduceMul, reduceIte, reduceCtorEq, Int.reduceNeg, Int.reduceToNat, Nat.reduceLT, Int.reduceLE, Int.reduceLT, Int.reduceAdd, Int.reduceSub, Int.reduceMul, maxLenI, wrap64, read1N, over1N, flat0N, shl1N, shl1M, List.length_set, List.length_replicate, Int.toNat_natCast_add_one, if_pos, if_neg]; rfl) ?_
  refine OpsA.nil ?_
  change RunA _ _ _ _ _
  refine RunA.block ?_
  refine RunA.loopL (fun m st => ∃ (i : Nat) (zs : List Nat), (m = (k + 1) - i ∧ UpTo (shV k n) i zs ∧ zs.length = (k + 1) ∧ i ≤ (k + 1)) ∧ st = ⟨[.int .i64 ((k : Nat) : Int), .int .i64 n, .any, .any, .nils, .own h.length 0 0 (k + 1), .int .i64 ((i : Nat) : Int), .any, .any, .any, .any, .any, .any, .any, .any, .any, .any, .any, .any, .any, .any, .any, .any, .any, .any, .any, .any, .any, .any, .any, .any, .any], h ++ [⟨0, false, 3, 1, zs.map cellN⟩]⟩) _ ⟨[.int .i64 ((k : Nat) : Int), .int .i64 n, .any, .any, .nils, .own h.length 0 0 (k + 1), .int .i64 ((0 : Nat) : Int), .any, .any, .any, .any, .any, .any, .any, .any, .any, .any, .any, .any, .any, .any, .any, .any, .any, .any, .any, .any, .any, .any, .any, .any, .any], ⟨(.inl (by first | rfl | (congr 1; omega))), (.inl (by first | rfl | (congr 1; omega))), (.inr rfl), (.inr rfl), (.inl (by first | rfl | (congr 1; omega))), (.inl (by first | rfl | (congr 1; omega))), (.inl (by first | rfl | (congr 1; omega))), (.inr rfl), (.inr rfl), (.inr rfl), (.inr rfl), (.inr rfl), (.inr rfl), (.inr rfl), (.inr rfl), (.inr rfl), (.inr rfl), (.inr rfl), (.inr rfl), (.inr rfl), (.inr rfl), (.inr rfl), (.inr rfl), (.inr rfl), (.inr rfl), (.inr rfl), (.inr rfl), (.inr rfl), (.inr rfl), (.inr rfl), (.inr rfl), (.inr rfl), trivial⟩, 0, (List.replicate (k + 1) 0), ⟨rfl, UpTo.zero _ _, by simp, by omega⟩, rfl⟩ ?_
  rintro m sl h' ⟨i, zs, ⟨hm, hI, hz, hi⟩, hst⟩
  obtain ⟨rfl, rfl⟩ := St.mk.inj hst
  refine RunA.seq ?_
  refine RunA.seq ?_
  refine RunA.region good ?_
  refine OpsA.pre 3 (by simp (maxSteps := 2000000) (disch := omega) only [go_sem, Nat.reduceAdd, Nat.reduceSub, Nat.reduceLeDiff, Nat.reduceMul, reduceIte, reduceCtorEq, Int.reduceNeg, Int.reduceToNat, Nat.reduceLT, Int.reduceLE, Int.reduceLT, Int.reduceAdd, Int.reduceSub, Int.reduceMul, maxLenI, wrap64, read1N, over1N, flat0N, shl1N, shl1M, List.length_set, List.length_replicate, Int.toNat_natCast_add_one, if_pos, if_neg]; rfl) ?_
  refine OpsA.nil ?_
  change RunA _ _ _ _ _
  refine RunA.split 13 rfl (fun e1 => ?_) (fun e1 => ?_)
  · try simp only [e1]
    have qe1 := e1; try simp only [decide_eq_true_eq, decide_eq_false_iff_not, Bool.not_eq_true', Bool.not_eq_false', Bool.not_eq_eq_eq_not, Bool.not_true, Bool.not_false, Int.not_le, Int.not_lt, beq_iff_eq, bne_iff_ne, ge_iff_le, gt_iff_lt, beq_eq_false_iff_ne, ne_eq, bne_eq_false_iff_eq] at qe1
    refine RunA.condT rfl ?_
    refine RunA.skip ?_
    change RunA _ _ _ _ _
    refine RunA.seq ?_
    refine RunA.block ?_
    refine RunA.seq ?_
    refine RunA.region good ?_
    refine OpsA.pre 4 (by simp (maxSteps := 2000000) (disch := omega) only [go_sem, Nat.reduceAdd, Nat.reduceSub, Nat.reduceLeDiff, Nat.reduceMul, reduceIte, reduceCtorEq, Int.reduceNeg, Int.reduceToNat, Nat.reduceLT, Int.reduceLE, Int.reduceLT, Int.reduceAdd, Int.reduceSub, Int.reduceMul, maxLenI, wrap64, read1N, over1N, flat0N, shl1N, shl1M, List.length_set, List.length_replicate, Int.toNat_natCast_add_one, if_pos, if_neg]; rfl) ?_
    refine OpsA.nil ?_
    change RunA _ _ _ _ _
    refine RunA.seq ?_
    refine RunA.region good ?_
    refine OpsA.pre 3 (by simp (maxSteps := 2000000) (disch := omega) only [go_sem, Nat.reduceAdd, Nat.reduceSub, Nat.reduceLeDiff, Nat.reduceMul, reduceIte, reduceCtorEq, Int.reduceNeg, Int.reduceToNat, Nat.reduceLT, Int.reduceLE, Int.reduceLT, Int.reduceAdd, Int.reduceSub, Int.reduceMul, maxLenI, wrap64, read1N, over1N, flat0N, shl1N, shl1M, List.length_set, List.length_replicate, Int.toNat_natCast_add_one, if_pos, if_neg]; rfl) ?_
    refine OpsA.split 21 rfl (fun e2 => ?_) (fun e2 => ?_)
    · try simp only [e2]
      have qe2 := e2; try simp only [decide_eq_true_eq, decide_eq_false_iff_not, Bool.not_eq_true', Bool.not_eq_false', Bool.not_eq_eq_eq_not, Bool.not_true, Bool.not_false, Int.not_le, Int.not_lt, beq_iff_eq, bne_iff_ne, ge_iff_le, gt_iff_lt, beq_eq_false_iff_ne, ne_eq, bne_eq_false_iff_eq] at qe2
      refine OpsA.pre 4 (by simp (maxSteps := 2000000) (disch := omega) only [go_sem, Nat.reduceAdd, Nat.reduceSub, Nat.reduceLeDiff, Nat.reduceMul, reduceIte, reduceCtorEq, Int.reduceNeg, Int.reduceToNat, Nat.reduceLT, Int.reduceLE, Int.reduceLT, Int.reduceAdd, Int.reduceSub, Int.reduceMul, maxLenI, wrap64, read1N, over1N, flat0N, shl1N, shl1M, List.length_set, List.length_replicate, Int.toNat_natCast_add_one, if_pos, if_neg]; rfl) ?_
      refine OpsA.nil ?_
      change RunA _ _ _ _ _
      refine RunA.split 25 rfl (fun e3 => ?_) (fun e3 => ?_)
      · try simp only [e3]
        have qe3 := e3; try simp only [decide_eq_true_eq, decide_eq_false_iff_not, Bool.not_eq_true', Bool.not_eq_false', Bool.not_eq_eq_eq_not, Bool.not_true, Bool.not_false, Int.not_le, Int.not_lt, beq_iff_eq, bne_iff_ne, ge_iff_le, gt_iff_lt, beq_eq_false_iff_ne, ne_eq, bne_eq_false_iff_eq] at qe3
        refine RunA.condT rfl ?_
        refine RunA.region good ?_
        refine OpsA.pre 6 (by simp (maxSteps := 2000000) (disch := omega) only [go_sem, Nat.reduceAdd, Nat.reduceSub, Nat.reduceLeDiff, Nat.reduceMul, reduceIte, reduceCtorEq, Int.reduceNeg, Int.reduceToNat, Nat.reduceLT, Int.reduceLE, Int.reduceLT, Int.reduceAdd, Int.reduceSub, Int.reduceMul, maxLenI, wrap64, read1N, over1N, flat0N, shl1N, shl1M, List.length_set, List.length_replicate, Int.toNat_natCast_add_one, if_pos, if_neg]; rfl) ?_
        refine OpsA.nil ?_
        change RunA _ _ _ _ _
        refine RunA.region good ?_
        refine OpsA.pre 3 (by simp (maxSteps := 2000000) (disch := omega) only [go_sem, Nat.reduceAdd, Nat.reduceSub, Nat.reduceLeDiff, Nat.reduceMul, reduceIte, reduceCtorEq, Int.reduceNeg, Int.reduceToNat, Nat.reduceLT, Int.reduceLE, Int.reduceLT, Int.reduceAdd, Int.reduceSub, Int.reduceMul, maxLenI, wrap64, read1N, over1N, flat0N, shl1N, shl1M, List.length_set, List.length_replicate, Int.toNat_natCast_add_one, if_pos, if_neg]; rfl) ?_
        refine OpsA.nil ?_
        exact ⟨(k + 1) - (i + 1), by omega, [.int .i64 ((k : Nat) : Int), .int .i64 n, .any, .any, .nils, .own h.length 0 0 (k + 1), .int .i64 (((i + 1) : Nat) : Int), .any, .any, .any, .any, .any, .any, .any, .any, .any, .any, .any, .any, .any, .any, .any, .any, .any, .any, .any, .any, .any, .any, .any, .any, .any], ⟨(.inl (by first | rfl | (congr 1; omega))), (.inl (by first | rfl | (congr 1; omega))), (.inr rfl), (.inr rfl), (.inl (by first | rfl | (congr 1; omega))), (.inl (by first | rfl | (congr 1; omega))), (.inl (by first | rfl | (congr 1; omega))), (.inr rfl), (.inr rfl), (.inr rfl), (.inr rfl), (.inr rfl), (.inr rfl), (.inr rfl), (.inr rfl), (.inr rfl), (.inr rfl), (.inr rfl), (.inr rfl), (.inr rfl), (.inr rfl), (.inr rfl), (.inr rfl), (.inr rfl), (.inr rfl), (.inr rfl), (.inr rfl), (.inr rfl), (.inr rfl), (.inr rfl), (.inr rfl), (.inr rfl), trivial⟩, (i + 1), (zs.set i _), ⟨rfl, UpTo.set (by omega) hI ((by rw [shV, if_pos (by omega)])), by simp only [List.length_set]; exact hz, by omega⟩, rfl⟩
      · try simp only [e3]
        have qe3 := e3; try simp only [decide_eq_true_eq, decide_eq_false_iff_not, Bool.not_eq_true', Bool.not_eq_false', Bool.not_eq_eq_eq_not, Bool.not_true, Bool.not_false, Int.not_le, Int.not_lt, beq_iff_eq, bne_iff_ne, ge_iff_le, gt_iff_lt, beq_eq_false_iff_ne, ne_eq, bne_eq_false_iff_eq] at qe3
        refine RunA.condF rfl ?_
        refine RunA.skip ?_
        change RunA _ _ _ _ _
        refine RunA.region good ?_
        refine OpsA.pre 3 (by simp (maxSteps := 2000000) (disch := omega) only [go_sem, Nat.reduceAdd, Nat.reduceSub, Nat.reduceLeDiff, Nat.reduceMul, reduceIte, reduceCtorEq, Int.reduceNeg, Int.reduceToNat, Nat.reduceLT, Int.reduceLE, Int.reduceLT, Int.reduceAdd, Int.reduceSub, Int.reduceMul, maxLenI, wrap64, read1N, over1N, flat0N, shl1N, shl1M, List.length_set, List.length_replicate, Int.toNat_natCast_add_one, if_pos, if_neg]; rfl) ?_
        refine OpsA.nil ?_
        exact ⟨(k + 1) - (i + 1), by omega, [.int .i64 ((k : Nat) : Int), .int .i64 n, .any, .any, .nils, .own h.length 0 0 (k + 1), .int .i64 (((i + 1) : Nat) : Int), .any, .any, .any, .any, .any, .any, .any, .any, .any, .any, .any, .any, .any, .any, .any, .any, .any, .any, .any, .any, .any, .any, .any, .any, .any], ⟨(.inl (by first | rfl | (congr 1; omega))), (.inl (by first | rfl | (congr 1; omega))), (.inr rfl), (.inr rfl), (.inl (by first | rfl | (congr 1; omega))), (.inl (by first | rfl | (congr 1; omega))), (.inl (by first | rfl | (congr 1; omega))), (.inr rfl), (.inr rfl), (.inr rfl), (.inr rfl), (.inr rfl), (.inr rfl), (.inr rfl), (.inr rfl), (.inr rfl), (.inr rfl), (.inr rfl), (.inr rfl), (.inr rfl), (.inr rfl), (.inr rfl), (.inr rfl), (.inr rfl), (.inr rfl), (.inr rfl), (.inr rfl), (.inr rfl), (.inr rfl), (.inr rfl), (.inr rfl), (.inr rfl), trivial⟩, (i + 1), zs, ⟨rfl, UpTo.skip hI (by rw [shV, if_neg (by omega)]), hz, by omega⟩, rfl⟩
    · try simp only [e2]
      have qe2 := e2; try simp only [decide_eq_true_eq, decide_eq_false_iff_not, Bool.not_eq_true', Bool.not_eq_false', Bool.not_eq_eq_eq_not, Bool.not_true, Bool.not_false, Int.not_le, Int.not_lt, beq_iff_eq, bne_iff_ne, ge_iff_le, gt_iff_lt, beq_eq_false_iff_ne, ne_eq, bne_eq_false_iff_eq] at qe2
      refine OpsA.pre 4 (by simp (maxSteps := 2000000) (disch := omega) only [go_sem, Nat.reduceAdd, Nat.reduceSub, Nat.reduceLeDiff, Nat.reduceMul, reduceIte, reduceCtorEq, Int.reduceNeg, Int.reduceToNat, Nat.reduceLT, Int.reduceLE, Int.reduceLT, Int.reduceAdd, Int.reduceSub, Int.reduceMul, maxLenI, wrap64, read1N, over1N, flat0N, shl1N, shl1M, List.length_set, List.length_replicate, Int.toNat_natCast_add_one, if_pos, if_neg]; rfl) ?_
      refine OpsA.nil ?_
      change RunA _ _ _ _ _
      refine RunA.condF rfl ?_
      refine RunA.skip ?_
      change RunA _ _ _ _ _
      refine RunA.region good ?_
      refine OpsA.pre 3 (by simp (maxSteps := 2000000) (disch := omega) only [go_sem, Nat.reduceAdd, Nat.reduceSub, Nat.reduceLeDiff, Nat.reduceMul, reduceIte, reduceCtorEq, Int.reduceNeg, Int.reduceToNat, Nat.reduceLT, Int.reduceLE, Int.reduceLT, Int.reduceAdd, Int.reduceSub, Int.reduceMul, maxLenI, wrap64, read1N, over1N, flat0N, shl1N, shl1M, List.length_set, List.length_replicate, Int.toNat_natCast_add_one, if_pos, if_neg]; rfl) ?_
      refine OpsA.nil ?_
      exact ⟨(k + 1) - (i + 1), by omega, [.int .i64 ((k : Nat) : Int), .int .i64 n, .any, .any, .nils, .own h.length 0 0 (k + 1), .int .i64 (((i + 1) : Nat) : Int), .any, .any, .any, .any, .any, .any, .any, .any, .any, .any, .any, .any, .any, .any, .any, .any, .any, .any, .any, .any, .any, .any, .any, .any, .any], ⟨(.inl (by first | rfl | (congr 1; omega))), (.inl (by first | rfl | (congr 1; omega))), (.inr rfl), (.inr rfl), (.inl (by first | rfl | (congr 1; omega))), (.inl (by first | rfl | (congr 1; omega))), (.inl (by first | rfl | (congr 1; omega))), (.inr rfl), (.inr rfl), (.inr rfl), (.inr rfl), (.inr rfl), (.inr rfl), (.inr rfl), (.inr rfl), (.inr rfl), (.inr rfl), (.inr rfl), (.inr rfl), (.inr rfl), (.inr rfl), (.inr rfl), (.inr rfl), (.inr rfl), (.inr rfl), (.inr rfl), (.inr rfl), (.inr rfl), (.inr rfl), (.inr rfl), (.inr rfl), (.inr rfl), trivial⟩, (i + 1), zs, ⟨rfl, UpTo.skip hI (by rw [shV, if_neg (by omega)]), hz, by omega⟩, rfl⟩
  · try simp only [e1]
    have qe1 := e1; try simp only [decide_eq_true_eq, decide_eq_false_iff_not, Bool.not_eq_true', Bool.not_eq_false', Bool.not_eq_eq_eq_not, Bool.not_true, Bool.not_false, Int.not_le, Int.not_lt, beq_iff_eq, bne_iff_ne, ge_iff_le, gt_iff_lt, beq_eq_false_iff_ne, ne_eq, bne_eq_false_iff_eq] at qe1
    refine RunA.condF rfl ?_
    refine RunA.exit ?_
    change RunA _ _ _ _ _
    refine RunA.seq ?_
    refine RunA.region good ?_
    refine OpsA.pre 2 (by simp (maxSteps := 2000000) (disch := omega) only [go_sem, Nat.reduceAdd, Nat.reduceSub, Nat.reduceLeDiff, Nat.reduceMul, reduceIte, reduceCtorEq, Int.reduceNeg, Int.reduceToNat, Nat.reduceLT, Int.reduceLE, Int.reduceLT, Int.reduceAdd, Int.reduceSub, Int.reduceMul, maxLenI, wrap64, read1N, over1N, flat0N, shl1N, shl1M, List.length_set, List.length_replicate, Int.toNat_natCast_add_one, if_pos, if_neg]; rfl) ?_
    refine OpsA.nil ?_
    change RunA _ _ _ _ _
    refine RunA.ret ?_
    refine Ends.mk (by simp only [res35, resA, resAs, resA1]; first | rfl | (simp (maxSteps := 2000000) (disch := omega) only [go_sem, Nat.reduceAdd, Nat.reduceSub, Nat.reduceLeDiff, Nat.reduceMul, reduceIte, reduceCtorEq, Int.reduceNeg, Int.reduceToNat, Nat.reduceLT, Int.reduceLE, Int.reduceLT, Int.reduceAdd, Int.reduceSub, Int.reduceMul, maxLenI, wrap64, read1N, over1N, flat0N, shl1N, shl1M, List.length_set, List.length_replicate, Int.toNat_natCast_add_one, if_pos, if_neg]; rfl)) ?_
    exact ⟨rfl, by rw [hI.all hz (by omega)]; rfl⟩

theorem c9 {h : Heap} (n : Int) : CallA Try.prog cfg 9 [.int .i64 n] h (fun y' h' => y' = .bool true ∧ h' = h) := by
  obtain ⟨k, hk⟩ := Int.eq_ofNat_of_zero_le (@within_lo n 9 (by omega))
  have hk8 : k ≤ 8 := by have := @within_hi n 9 (by omega); omega
  have hsl := sh_len k 0
  refine CallA.body (Q := fun y' => y' = .bool true) good fn9 rfl ?_
  simp only [ntm9, List.length_cons, List.length_nil, Nat.reduceAdd, Nat.reduceSub, List.replicate, List.cons_append, List.nil_append]
  refine RunA.seq ?_
  refine RunA.region good ?_
  refine OpsA.pre 1 (by simp (maxSteps := 2000000) (disch := omega) only [go_sem, Nat.reduceAdd, Nat.reduceSub, Nat.reduceLeDiff, Nat.reduceMul, reduceIte, reduceCtorEq, Int.reduceNeg, Int.reduceToNat, Nat.reduceLT, Int.reduceLE, Int.reduceLT, Int.reduceAdd, Int.reduceSub, Int.reduceMul, maxLenI, wrap64, read1N, over1N, flat0N, shl1N, shl1M, List.length_set, List.length_replicate, Int.toNat_natCast_add_one, eq_self, and_self, decide_true, beq_self_eq_true, over1Z, if_pos, if_neg]; rfl) ?_
  refine OpsA.nil ?_
  change RunA _ _ _ _ _
  refine RunA.seq ?_
  refine RunA.region good ?_
  refine OpsA.pre 1 (by simp (maxSteps := 2000000) (disch := omega) only [go_sem, Nat.reduceAdd, Nat.reduceSub, Nat.reduceLeDiff, Nat.reduceMul, reduceIte, reduceCtorEq, Int.reduceNeg, Int.reduceToNat, Nat.reduceLT, Int.reduceLE, Int.reduceLT, Int.reduceAdd, Int.reduceSub, Int.reduceMul, maxLenI, wrap64, read1N, over1N, flat0N, shl1N, shl1M, List.length_set, List.length_replicate, Int.toNat_natCast_add_one, eq_self, and_self, decide_true, beq_self_eq_true, over1Z, if_pos, if_neg]; rfl) ?_
  refine OpsA.callQ rfl rfl rfl hb31 (c31 n k hk) ?_
  refine OpsA.pre 1 (by simp (maxSteps := 2000000) (disch := omega) only [go_sem, Nat.reduceAdd, Nat.reduceSub, Nat.reduceLeDiff, Nat.reduceMul, reduceIte, reduceCtorEq, Int.reduceNeg, Int.reduceToNat, Nat.reduceLT, Int.reduceLE, Int.reduceLT, Int.reduceAdd, Int.reduceSub, Int.reduceMul, maxLenI, wrap64, read1N, over1N, flat0N, shl1N, shl1M, List.length_set, List.length_replicate, Int.toNat_natCast_add_one, eq_self, and_self, decide_true, beq_self_eq_true, over1Z, if_pos, if_neg]; rfl) ?_
  refine OpsA.nil ?_
  change RunA _ _ _ _ _
  refine RunA.seq ?_
  refine RunA.region good ?_
  refine OpsA.pre 1 (by simp (maxSteps := 2000000) (disch := omega) only [go_sem, Nat.reduceAdd, Nat.reduceSub, Nat.reduceLeDiff, Nat.reduceMul, reduceIte, reduceCtorEq, Int.reduceNeg, Int.reduceToNat, Nat.reduceLT, Int.reduceLE, Int.reduceLT, Int.reduceAdd, Int.reduceSub, Int.reduceMul, maxLenI, wrap64, read1N, over1N, flat0N, shl1N, shl1M, List.length_set, List.length_replicate, Int.toNat_natCast_add_one, eq_self, and_self, decide_true, beq_self_eq_true, over1Z, if_pos, if_neg]; rfl) ?_
  refine OpsA.callQ rfl rfl rfl hb33 (c33 _ hk8) ?_
  refine OpsA.pre 1 (by simp (maxSteps := 2000000) (disch := omega) only [go_sem, Nat.reduceAdd, Nat.reduceSub, Nat.reduceLeDiff, Nat.reduceMul, reduceIte, reduceCtorEq, Int.reduceNeg, Int.reduceToNat, Nat.reduceLT, Int.reduceLE, Int.reduceLT, Int.reduceAdd, Int.reduceSub, Int.reduceMul, maxLenI, wrap64, read1N, over1N, flat0N, shl1N, shl1M, List.length_set, List.length_replicate, Int.toNat_natCast_add_one, eq_self, and_self, decide_true, beq_self_eq_true, over1Z, if_pos, if_neg]; rfl) ?_
  refine OpsA.callQ rfl rfl rfl hb34 (c34 _ hk8) ?_
  refine OpsA.callQ rfl rfl rfl hb32 (c32 _ _ (by first | exact rel_lt _ hk8 | exact sh_lt hk8 | exact compose_lt (rel_lt _ hk8) | exact compose_lt (sh_lt hk8) | exact union_lt (rel_lt _ hk8) (rel_lt _ hk8) | exact compose_lt (union_lt (rel_lt _ hk8) (rel_lt _ hk8)) | exact union_lt (compose_lt (rel_lt _ hk8)) (compose_lt (rel_lt _ hk8)) | exact compose_lt (compose_lt (rel_lt _ hk8))) (by simp only [compose_len, union_len, rel_len, sh_len] <;> omega) (by first | exact rel_lt _ hk8 | exact sh_lt hk8 | exact compose_lt (rel_lt _ hk8) | exact compose_lt (sh_lt hk8) | exact union_lt (rel_lt _ hk8) (rel_lt _ hk8) | exact compose_lt (union_lt (rel_lt _ hk8) (rel_lt _ hk8)) | exact union_lt (compose_lt (rel_lt _ hk8)) (compose_lt (rel_lt _ hk8)) | exact compose_lt (compose_lt (rel_lt _ hk8))) (by simp only [compose_len, union_len, rel_len, sh_len] <;> omega)) ?_
  refine OpsA.pre 1 (by simp (maxSteps := 2000000) (disch := omega) only [go_sem, Nat.reduceAdd, Nat.reduceSub, Nat.reduceLeDiff, Nat.reduceMul, reduceIte, reduceCtorEq, Int.reduceNeg, Int.reduceToNat, Nat.reduceLT, Int.reduceLE, Int.reduceLT, Int.reduceAdd, Int.reduceSub, Int.reduceMul, maxLenI, wrap64, read1N, over1N, flat0N, shl1N, shl1M, List.length_set, List.length_replicate, Int.toNat_natCast_add_one, eq_self, and_self, decide_true, beq_self_eq_true, over1Z, if_pos, if_neg]; rfl) ?_
  refine OpsA.nil ?_
  change RunA _ _ _ _ _
  refine RunA.seq ?_
  refine RunA.region good ?_
  refine OpsA.pre 1 (by simp (maxSteps := 2000000) (disch := omega) only [go_sem, Nat.reduceAdd, Nat.reduceSub, Nat.reduceLeDiff, Nat.reduceMul, reduceIte, reduceCtorEq, Int.reduceNeg, Int.reduceToNat, Nat.reduceLT, Int.reduceLE, Int.reduceLT, Int.reduceAdd, Int.reduceSub, Int.reduceMul, maxLenI, wrap64, read1N, over1N, flat0N, shl1N, shl1M, List.length_set, List.length_replicate, Int.toNat_natCast_add_one, eq_self, and_self, decide_true, beq_self_eq_true, over1Z, if_pos, if_neg]; rfl) ?_
  refine OpsA.callE rfl rfl rfl hb35 (e35 _ _ hk8 (by omega) (by omega)) ?_
  refine OpsA.pre 1 (by simp (maxSteps := 2000000) (disch := omega) only [go_sem, Nat.reduceAdd, Nat.reduceSub, Nat.reduceLeDiff, Nat.reduceMul, reduceIte, reduceCtorEq, Int.reduceNeg, Int.reduceToNat, Nat.reduceLT, Int.reduceLE, Int.reduceLT, Int.reduceAdd, Int.reduceSub, Int.reduceMul, maxLenI, wrap64, read1N, over1N, flat0N, shl1N, shl1M, List.length_set, List.length_replicate, Int.toNat_natCast_add_one, eq_self, and_self, decide_true, beq_self_eq_true, over1Z, if_pos, if_neg]; rfl) ?_
  refine OpsA.nil ?_
  change RunA _ _ _ _ _
  refine RunA.seq ?_
  refine RunA.region good ?_
  refine OpsA.pre 4 (by simp (maxSteps := 2000000) (disch := omega) only [go_sem, Nat.reduceAdd, Nat.reduceSub, Nat.reduceLeDiff, Nat.reduceMul, reduceIte, reduceCtorEq, Int.reduceNeg, Int.reduceToNat, Nat.reduceLT, Int.reduceLE, Int.reduceLT, Int.reduceAdd, Int.reduceSub, Int.reduceMul, maxLenI, wrap64, read1N, over1N, flat0N, shl1N, shl1M, List.length_set, List.length_replicate, Int.toNat_natCast_add_one, eq_self, and_self, decide_true, beq_self_eq_true, over1Z, if_pos, if_neg]; rfl) ?_
  refine OpsA.nil ?_
  change RunA _ _ _ _ _
  refine RunA.seq ?_
  refine RunA.region good ?_
  refine OpsA.pre 1 (by simp (maxSteps := 2000000) (disch := omega) only [go_sem, Nat.reduceAdd, Nat.reduceSub, Nat.reduceLeDiff, Nat.reduceMul, reduceIte, reduceCtorEq, Int.reduceNeg, Int.reduceToNat, Nat.reduceLT, Int.reduceLE, Int.reduceLT, Int.reduceAdd, Int.reduceSub, Int.reduceMul, maxLenI, wrap64, read1N, over1N, flat0N, shl1N, shl1M, List.length_set, List.length_replicate, Int.toNat_natCast_add_one, eq_self, and_self, decide_true, beq_self_eq_true, over1Z, if_pos, if_neg]; rfl) ?_
  refine OpsA.callQ rfl rfl rfl hb37 (c37 _ hk8) ?_
  refine OpsA.pre 1 (by simp (maxSteps := 2000000) (disch := omega) only [go_sem, Nat.reduceAdd, Nat.reduceSub, Nat.reduceLeDiff, Nat.reduceMul, reduceIte, reduceCtorEq, Int.reduceNeg, Int.reduceToNat, Nat.reduceLT, Int.reduceLE, Int.reduceLT, Int.reduceAdd, Int.reduceSub, Int.reduceMul, maxLenI, wrap64, read1N, over1N, flat0N, shl1N, shl1M, List.length_set, List.length_replicate, Int.toNat_natCast_add_one, eq_self, and_self, decide_true, beq_self_eq_true, over1Z, if_pos, if_neg]; rfl) ?_
  refine OpsA.callQ rfl rfl rfl hb35 (c35 _ _ hk8 (by omega) (by omega)) ?_
  refine OpsA.callQ rfl rfl rfl hb36 (c36N _ _ (by simp only [compose_len, union_len, rel_len, sh_len] <;> omega)) ?_
  refine OpsA.pre 1 (by simp (maxSteps := 2000000) (disch := omega) only [go_sem, Nat.reduceAdd, Nat.reduceSub, Nat.reduceLeDiff, Nat.reduceMul, reduceIte, reduceCtorEq, Int.reduceNeg, Int.reduceToNat, Nat.reduceLT, Int.reduceLE, Int.reduceLT, Int.reduceAdd, Int.reduceSub, Int.reduceMul, maxLenI, wrap64, read1N, over1N, flat0N, shl1N, shl1M, List.length_set, List.length_replicate, Int.toNat_natCast_add_one, eq_self, and_self, decide_true, beq_self_eq_true, over1Z, if_pos, if_neg]; rfl) ?_
  refine OpsA.split 23 rfl (fun e1 => ?_) (fun e1 => ?_)
  · try simp only [e1]
    have qe1 := e1; try simp only [decide_eq_true_eq, decide_eq_false_iff_not, Bool.not_eq_true', Bool.not_eq_false', Bool.not_eq_eq_eq_not, Bool.not_true, Bool.not_false, Int.not_le, Int.not_lt, beq_iff_eq, bne_iff_ne, ge_iff_le, gt_iff_lt, beq_eq_false_iff_ne, ne_eq, bne_eq_false_iff_eq] at qe1
    refine OpsA.pre 1 (by simp (maxSteps := 2000000) (disch := omega) only [go_sem, Nat.reduceAdd, Nat.reduceSub, Nat.reduceLeDiff, Nat.reduceMul, reduceIte, reduceCtorEq, Int.reduceNeg, Int.reduceToNat, Nat.reduceLT, Int.reduceLE, Int.reduceLT, Int.reduceAdd, Int.reduceSub, Int.reduceMul, maxLenI, wrap64, read1N, over1N, flat0N, shl1N, shl1M, List.length_set, List.length_replicate, Int.toNat_natCast_add_one, eq_self, and_self, decide_true, beq_self_eq_true, over1Z, if_pos, if_neg]; rfl) ?_
    refine OpsA.callQ rfl rfl rfl hb33 (c33 _ hk8) ?_
    refine OpsA.pre 1 (by simp (maxSteps := 2000000) (disch := omega) only [go_sem, Nat.reduceAdd, Nat.reduceSub, Nat.reduceLeDiff, Nat.reduceMul, reduceIte, reduceCtorEq, Int.reduceNeg, Int.reduceToNat, Nat.reduceLT, Int.reduceLE, Int.reduceLT, Int.reduceAdd, Int.reduceSub, Int.reduceMul, maxLenI, wrap64, read1N, over1N, flat0N, shl1N, shl1M, List.length_set, List.length_replicate, Int.toNat_natCast_add_one, eq_self, and_self, decide_true, beq_self_eq_true, over1Z, if_pos, if_neg]; rfl) ?_
    refine OpsA.callQ rfl rfl rfl hb35 (c35 _ _ hk8 (by omega) (by omega)) ?_
    refine OpsA.callQ rfl rfl rfl hb36 (c36N _ _ (by simp only [compose_len, union_len, rel_len, sh_len] <;> omega)) ?_
    refine OpsA.pre 2 (by simp (maxSteps := 2000000) (disch := omega) only [go_sem, Nat.reduceAdd, Nat.reduceSub, Nat.reduceLeDiff, Nat.reduceMul, reduceIte, reduceCtorEq, Int.reduceNeg, Int.reduceToNat, Nat.reduceLT, Int.reduceLE, Int.reduceLT, Int.reduceAdd, Int.reduceSub, Int.reduceMul, maxLenI, wrap64, read1N, over1N, flat0N, shl1N, shl1M, List.length_set, List.length_replicate, Int.toNat_natCast_add_one, eq_self, and_self, decide_true, beq_self_eq_true, over1Z, if_pos, if_neg]; rfl) ?_
    refine OpsA.split 30 rfl (fun e2 => ?_) (fun e2 => ?_)
    · try simp only [e2]
      have qe2 := e2; try simp only [decide_eq_true_eq, decide_eq_false_iff_not, Bool.not_eq_true', Bool.not_eq_false', Bool.not_eq_eq_eq_not, Bool.not_true, Bool.not_false, Int.not_le, Int.not_lt, beq_iff_eq, bne_iff_ne, ge_iff_le, gt_iff_lt, beq_eq_false_iff_ne, ne_eq, bne_eq_false_iff_eq] at qe2
      refine OpsA.pre 1 (by simp (maxSteps := 2000000) (disch := omega) only [go_sem, Nat.reduceAdd, Nat.reduceSub, Nat.reduceLeDiff, Nat.reduceMul, reduceIte, reduceCtorEq, Int.reduceNeg, Int.reduceToNat, Nat.reduceLT, Int.reduceLE, Int.reduceLT, Int.reduceAdd, Int.reduceSub, Int.reduceMul, maxLenI, wrap64, read1N, over1N, flat0N, shl1N, shl1M, List.length_set, List.length_replicate, Int.toNat_natCast_add_one, eq_self, and_self, decide_true, beq_self_eq_true, over1Z, if_pos, if_neg]; rfl) ?_
      refine OpsA.callQ rfl rfl rfl hb34 (c34 _ hk8) ?_
      refine OpsA.pre 1 (by simp (maxSteps := 2000000) (disch := omega) only [go_sem, Nat.reduceAdd, Nat.reduceSub, Nat.reduceLeDiff, Nat.reduceMul, reduceIte, reduceCtorEq, Int.reduceNeg, Int.reduceToNat, Nat.reduceLT, Int.reduceLE, Int.reduceLT, Int.reduceAdd, Int.reduceSub, Int.reduceMul, maxLenI, wrap64, read1N, over1N, flat0N, shl1N, shl1M, List.length_set, List.length_replicate, Int.toNat_natCast_add_one, eq_self, and_self, decide_true, beq_self_eq_true, over1Z, if_pos, if_neg]; rfl) ?_
      refine OpsA.callQ rfl rfl rfl hb35 (c35 _ _ hk8 (by omega) (by omega)) ?_
      refine OpsA.callQ rfl rfl rfl hb36 (c36N _ _ (by simp only [compose_len, union_len, rel_len, sh_len] <;> omega)) ?_
      refine OpsA.pre 2 (by simp (maxSteps := 2000000) (disch := omega) only [go_sem, Nat.reduceAdd, Nat.reduceSub, Nat.reduceLeDiff, Nat.reduceMul, reduceIte, reduceCtorEq, Int.reduceNeg, Int.reduceToNat, Nat.reduceLT, Int.reduceLE, Int.reduceLT, Int.reduceAdd, Int.reduceSub, Int.reduceMul, maxLenI, wrap64, read1N, over1N, flat0N, shl1N, shl1M, List.length_set, List.length_replicate, Int.toNat_natCast_add_one, eq_self, and_self, decide_true, beq_self_eq_true, over1Z, if_pos, if_neg]; rfl) ?_
      refine OpsA.split 37 rfl (fun e3 => ?_) (fun e3 => ?_)
      · try simp only [e3]
        have qe3 := e3; try simp only [decide_eq_true_eq, decide_eq_false_iff_not, Bool.not_eq_true', Bool.not_eq_false', Bool.not_eq_eq_eq_not, Bool.not_true, Bool.not_false, Int.not_le, Int.not_lt, beq_iff_eq, bne_iff_ne, ge_iff_le, gt_iff_lt, beq_eq_false_iff_ne, ne_eq, bne_eq_false_iff_eq] at qe3
        refine OpsA.pre 2 (by simp (maxSteps := 2000000) (disch := omega) only [go_sem, Nat.reduceAdd, Nat.reduceSub, Nat.reduceLeDiff, Nat.reduceMul, reduceIte, reduceCtorEq, Int.reduceNeg, Int.reduceToNat, Nat.reduceLT, Int.reduceLE, Int.reduceLT, Int.reduceAdd, Int.reduceSub, Int.reduceMul, maxLenI, wrap64, read1N, over1N, flat0N, shl1N, shl1M, List.length_set, List.length_replicate, Int.toNat_natCast_add_one, eq_self, and_self, decide_true, beq_self_eq_true, over1Z, if_pos, if_neg]; rfl) ?_
        refine OpsA.callE rfl rfl rfl hb36 (CallA.plainArg (β := h.length) (off := 0) (len := k + 1) (b := ⟨0, false, 3, 1, ((shN k 0).set k 0).map cellN⟩) (by rw [get_app0]; rfl) rfl (by simp [sh_len]) (row_plain (by simp [sh_len])) (by exact ⟨.inl rfl, .inr ⟨rfl, rfl⟩, trivial⟩) (c36V _ _ (by simp [sh_len]) (by simp only [compose_len, sh_len]; omega))) ?_
        refine OpsA.pre 2 (by simp (maxSteps := 2000000) (disch := omega) only [go_sem, Nat.reduceAdd, Nat.reduceSub, Nat.reduceLeDiff, Nat.reduceMul, reduceIte, reduceCtorEq, Int.reduceNeg, Int.reduceToNat, Nat.reduceLT, Int.reduceLE, Int.reduceLT, Int.reduceAdd, Int.reduceSub, Int.reduceMul, maxLenI, wrap64, read1N, over1N, flat0N, shl1N, shl1M, List.length_set, List.length_replicate, Int.toNat_natCast_add_one, eq_self, and_self, decide_true, beq_self_eq_true, over1Z, if_pos, if_neg]; rfl) ?_
        refine OpsA.split 42 rfl (fun e4 => ?_) (fun e4 => ?_)
        · try simp only [e4]
          have qe4 := e4; try simp only [decide_eq_true_eq, decide_eq_false_iff_not, Bool.not_eq_true', Bool.not_eq_false', Bool.not_eq_eq_eq_not, Bool.not_true, Bool.not_false, Int.not_le, Int.not_lt, beq_iff_eq, bne_iff_ne, ge_iff_le, gt_iff_lt, beq_eq_false_iff_ne, ne_eq, bne_eq_false_iff_eq] at qe4
          refine OpsA.callQ rfl rfl rfl hb38 (c38) ?_
          refine OpsA.pre 2 (by simp (maxSteps := 2000000) (disch := omega) only [go_sem, Nat.reduceAdd, Nat.reduceSub, Nat.reduceLeDiff, Nat.reduceMul, reduceIte, reduceCtorEq, Int.reduceNeg, Int.reduceToNat, Nat.reduceLT, Int.reduceLE, Int.reduceLT, Int.reduceAdd, Int.reduceSub, Int.reduceMul, maxLenI, wrap64, read1N, over1N, flat0N, shl1N, shl1M, List.length_set, List.length_replicate, Int.toNat_natCast_add_one, eq_self, and_self, decide_true, beq_self_eq_true, over1Z, if_pos, if_neg]; rfl) ?_
          refine OpsA.nil ?_
          change RunA _ _ _ _ _
          refine RunA.ret ?_
          refine Ends.mk (by simp only [res9, resA, resAs, resA1]; first | rfl | (simp (maxSteps := 2000000) (disch := omega) only [go_sem, Nat.reduceAdd, Nat.reduceSub, Nat.reduceLeDiff, Nat.reduceMul, reduceIte, reduceCtorEq, Int.reduceNeg, Int.reduceToNat, Nat.reduceLT, Int.reduceLE, Int.reduceLT, Int.reduceAdd, Int.reduceSub, Int.reduceMul, maxLenI, wrap64, read1N, over1N, flat0N, shl1N, shl1M, List.length_set, List.length_replicate, Int.toNat_natCast_add_one, eq_self, and_self, decide_true, beq_self_eq_true, over1Z, if_pos, if_neg]; rfl)) ?_
          exact ⟨_, _, rfl, by first | rfl | (simp only [frzT, frzP, optMap, get_app, get_app0]; rfl), by rfl⟩
        · exfalso; first | (simp [up_down hk8] at e4; done) | cases e4
      · exfalso; first | (simp [up_down hk8] at e3; done) | cases e3
    · exfalso; first | (simp [up_down hk8] at e2; done) | cases e2
  · exfalso; first | (simp [up_down hk8] at e1; done) | cases e1

def wB (x y : List Nat) (i : Nat) : Bool := decide (∀ d, d < i → bits .andNot .i64 ((x.getD d 0 : Nat) : Int) ((y.getD d 0 : Nat) : Int) = 0)
theorem wT {x y : List Nat} {i : Nat} (h : wB x y i = true) : wB x y (i + 1) = (bits .andNot .i64 ((x.getD i 0 : Nat) : Int) ((y.getD i 0 : Nat) : Int) == 0) := by
  have h' : ∀ d, d < i → bits .andNot .i64 ((x.getD d 0 : Nat) : Int) ((y.getD d 0 : Nat) : Int) = 0 := by simpa [wB] using h
  rw [wB, Bool.eq_iff_iff, decide_eq_true_iff, beq_iff_eq]
  refine ⟨fun k => k i (by omega), fun k d hd => ?_⟩
  by_cases e : d = i
  · rw [e]; exact k
  · exact h' d (by omega)
theorem wF {x y : List Nat} {i : Nat} (h : wB x y i = false) : wB x y (i + 1) = false := by
  have h' : ¬ ∀ d, d < i → bits .andNot .i64 ((x.getD d 0 : Nat) : Int) ((y.getD d 0 : Nat) : Int) = 0 := by simpa [wB] using h
  rw [wB, decide_eq_false_iff_not]
  exact fun k => h' fun d hd => k d (by omega)
theorem w0 (x y : List Nat) : wB x y 0 = true := by simp [wB]
theorem wEnd {x y : List Nat} {i : Nat} (h : x.length = i) : wB x y i = decide (withinP x y) := by subst h; rfl

def plan13_8 : Plan := ⟨[[], [0], [0, 1], [0, 1], [0, 1, 2, 3], [0, 1, 2, 3, 4], [0, 1], [0, 1], [0, 1, 6, 7], [0, 1, 6, 7, 8], [0, 1, 2, 3, 4, 5, 6, 7, 8, 9], [0, 1, 2, 3, 4, 5, 6, 7, 8, 9, 10], [0, 1, 2, 3, 4, 5, 6, 7, 8, 9, 10, 11], [0, 1, 2, 3, 4, 5, 6, 7, 8, 9, 10, 11, 12]], [false, false, false, false, false, false, false, false, false, false, false, false, false, false]⟩
theorem plan13_8E (i : Nat) : plan13_8.isE i = [false, false, false, false, false, false, false, false, false, false, false, false, false, false].getD i false := rfl

theorem c13 {h : Heap} (a b : List Int) (n s : Int) (ha : a.length < 9223372036854775808) (hb : b.length < 9223372036854775808) : CallA Try.prog cfg 13 [vecI a, vecI b, .int .i64 n, .int .i64 s] h (fun y' h' => y' = .bool true ∧ h' = h) := by
  obtain ⟨k, hk⟩ := Int.eq_ofNat_of_zero_le (@within_lo n 9 (by omega))
  have hk8 : k ≤ 8 := by have := @within_hi n 9 (by omega); omega
  have hla := rel_len a k; have hlb := rel_len b k
  have hs := set_lt s hk8
  refine CallA.body (Q := fun y' => y' = .bool true) good fn13 rfl ?_
  simp only [ntm13, List.length_cons, List.length_nil, Nat.reduceAdd, Nat.reduceSub, List.replicate, List.cons_append, List.nil_append]
  refine RunA.seq ?_
  refine RunA.region good ?_
  refine OpsA.pre 1 (by simp (maxSteps := 2000000) (disch := omega) only [go_sem, Nat.reduceAdd, Nat.reduceSub, Nat.reduceLeDiff, Nat.reduceMul, reduceIte, reduceCtorEq, Int.reduceNeg, Int.reduceToNat, Nat.reduceLT, Int.reduceLE, Int.reduceLT, Int.reduceAdd, Int.reduceSub, Int.reduceMul, maxLenI, wrap64, read1N, over1N, flat0N, shl1N, shl1M, List.length_set, List.length_replicate, Int.toNat_natCast_add_one, eq_self, and_self, decide_true, beq_self_eq_true, if_pos, if_neg]; rfl) ?_
  refine OpsA.nil ?_
  change RunA _ _ _ _ _
  refine RunA.seq ?_
  refine RunA.region good ?_
  refine OpsA.pre 1 (by simp (maxSteps := 2000000) (disch := omega) only [go_sem, Nat.reduceAdd, Nat.reduceSub, Nat.reduceLeDiff, Nat.reduceMul, reduceIte, reduceCtorEq, Int.reduceNeg, Int.reduceToNat, Nat.reduceLT, Int.reduceLE, Int.reduceLT, Int.reduceAdd, Int.reduceSub, Int.reduceMul, maxLenI, wrap64, read1N, over1N, flat0N, shl1N, shl1M, List.length_set, List.length_replicate, Int.toNat_natCast_add_one, eq_self, and_self, decide_true, beq_self_eq_true, if_pos, if_neg]; rfl) ?_
  refine OpsA.callQ rfl rfl rfl hb31 (c31 n k hk) ?_
  refine OpsA.pre 1 (by simp (maxSteps := 2000000) (disch := omega) only [go_sem, Nat.reduceAdd, Nat.reduceSub, Nat.reduceLeDiff, Nat.reduceMul, reduceIte, reduceCtorEq, Int.reduceNeg, Int.reduceToNat, Nat.reduceLT, Int.reduceLE, Int.reduceLT, Int.reduceAdd, Int.reduceSub, Int.reduceMul, maxLenI, wrap64, read1N, over1N, flat0N, shl1N, shl1M, List.length_set, List.length_replicate, Int.toNat_natCast_add_one, eq_self, and_self, decide_true, beq_self_eq_true, if_pos, if_neg]; rfl) ?_
  refine OpsA.nil ?_
  change RunA _ _ _ _ _
  refine RunA.seq ?_
  refine RunA.region good ?_
  refine OpsA.pre 2 (by simp (maxSteps := 2000000) (disch := omega) only [go_sem, Nat.reduceAdd, Nat.reduceSub, Nat.reduceLeDiff, Nat.reduceMul, reduceIte, reduceCtorEq, Int.reduceNeg, Int.reduceToNat, Nat.reduceLT, Int.reduceLE, Int.reduceLT, Int.reduceAdd, Int.reduceSub, Int.reduceMul, maxLenI, wrap64, read1N, over1N, flat0N, shl1N, shl1M, List.length_set, List.length_replicate, Int.toNat_natCast_add_one, eq_self, and_self, decide_true, beq_self_eq_true, if_pos, if_neg]; rfl) ?_
  refine OpsA.callQ rfl rfl rfl hb39 (c39 _ _ hk8 (by assumption)) ?_
  refine OpsA.pre 2 (by simp (maxSteps := 2000000) (disch := omega) only [go_sem, Nat.reduceAdd, Nat.reduceSub, Nat.reduceLeDiff, Nat.reduceMul, reduceIte, reduceCtorEq, Int.reduceNeg, Int.reduceToNat, Nat.reduceLT, Int.reduceLE, Int.reduceLT, Int.reduceAdd, Int.reduceSub, Int.reduceMul, maxLenI, wrap64, read1N, over1N, flat0N, shl1N, shl1M, List.length_set, List.length_replicate, Int.toNat_natCast_add_one, eq_self, and_self, decide_true, beq_self_eq_true, if_pos, if_neg]; rfl) ?_
  refine OpsA.callQ rfl rfl rfl hb39 (c39 _ _ hk8 (by assumption)) ?_
  refine OpsA.pre 2 (by simp (maxSteps := 2000000) (disch := omega) only [go_sem, Nat.reduceAdd, Nat.reduceSub, Nat.reduceLeDiff, Nat.reduceMul, reduceIte, reduceCtorEq, Int.reduceNeg, Int.reduceToNat, Nat.reduceLT, Int.reduceLE, Int.reduceLT, Int.reduceAdd, Int.reduceSub, Int.reduceMul, maxLenI, wrap64, read1N, over1N, flat0N, shl1N, shl1M, List.length_set, List.length_replicate, Int.toNat_natCast_add_one, eq_self, and_self, decide_true, beq_self_eq_true, if_pos, if_neg]; rfl) ?_
  refine OpsA.nil ?_
  change RunA _ _ _ _ _
  refine RunA.seq ?_
  refine RunA.region good ?_
  refine OpsA.pre 2 (by simp (maxSteps := 2000000) (disch := omega) only [go_sem, Nat.reduceAdd, Nat.reduceSub, Nat.reduceLeDiff, Nat.reduceMul, reduceIte, reduceCtorEq, Int.reduceNeg, Int.reduceToNat, Nat.reduceLT, Int.reduceLE, Int.reduceLT, Int.reduceAdd, Int.reduceSub, Int.reduceMul, maxLenI, wrap64, read1N, over1N, flat0N, shl1N, shl1M, List.length_set, List.length_replicate, Int.toNat_natCast_add_one, eq_self, and_self, decide_true, beq_self_eq_true, if_pos, if_neg]; rfl) ?_
  refine OpsA.callQ rfl rfl rfl hb40 (c40 _ _ hk8) ?_
  refine OpsA.pre 1 (by simp (maxSteps := 2000000) (disch := omega) only [go_sem, Nat.reduceAdd, Nat.reduceSub, Nat.reduceLeDiff, Nat.reduceMul, reduceIte, reduceCtorEq, Int.reduceNeg, Int.reduceToNat, Nat.reduceLT, Int.reduceLE, Int.reduceLT, Int.reduceAdd, Int.reduceSub, Int.reduceMul, maxLenI, wrap64, read1N, over1N, flat0N, shl1N, shl1M, List.length_set, List.length_replicate, Int.toNat_natCast_add_one, eq_self, and_self, decide_true, beq_self_eq_true, if_pos, if_neg]; rfl) ?_
  refine OpsA.nil ?_
  change RunA _ _ _ _ _
  refine RunA.seq ?_
  refine RunA.region good ?_
  refine OpsA.pre 1 (by simp (maxSteps := 2000000) (disch := omega) only [go_sem, Nat.reduceAdd, Nat.reduceSub, Nat.reduceLeDiff, Nat.reduceMul, reduceIte, reduceCtorEq, Int.reduceNeg, Int.reduceToNat, Nat.reduceLT, Int.reduceLE, Int.reduceLT, Int.reduceAdd, Int.reduceSub, Int.reduceMul, maxLenI, wrap64, read1N, over1N, flat0N, shl1N, shl1M, List.length_set, List.length_replicate, Int.toNat_natCast_add_one, eq_self, and_self, decide_true, beq_self_eq_true, if_pos, if_neg]; rfl) ?_
  refine OpsA.nil ?_
  change RunA _ _ _ _ _
  refine RunA.seq ?_
  refine RunA.seq ?_
  refine RunA.region good ?_
  refine OpsA.pre 1 (by simp (maxSteps := 2000000) (disch := omega) only [go_sem, Nat.reduceAdd, Nat.reduceSub, Nat.reduceLeDiff, Nat.reduceMul, reduceIte, reduceCtorEq, Int.reduceNeg, Int.reduceToNat, Nat.reduceLT, Int.reduceLE, Int.reduceLT, Int.reduceAdd, Int.reduceSub, Int.reduceMul, maxLenI, wrap64, read1N, over1N, flat0N, shl1N, shl1M, List.length_set, List.length_replicate, Int.toNat_natCast_add_one, eq_self, and_self, decide_true, beq_self_eq_true, if_pos, if_neg]; rfl) ?_
  refine OpsA.nil ?_
  change RunA _ _ _ _ _
  refine RunA.block ?_
  refine RunA.loopL (fun m st => ∃ (i : Nat), (m = k + 1 - i ∧ i ≤ k + 1) ∧ st = ⟨[vecI a, vecI b, .int .i64 n, .int .i64 ((withinN s ((2 ^ (k + 1) : Nat) : Int) : Nat) : Int), .any, .any, .any, .any, .bool false, .int .i64 ((k : Nat) : Int), vecN (relN a k), vecN (relN b k), .bool (wB (relN a k) (relN b k) i), .int .i64 ((i : Nat) : Int), .any, .any, .any, .any, .any, .any, .any, .any, .any, .any, .any, .any, .any, .any, .any, .any, .any, .any, .any, .any, .any, .any, .any, .any, .any, .any, .any, .any, .any, .any, .any, .any, .any, .any, .any, .any, .any, .any, .any, .any, .any, .any, .any, .any, .any, .any, .any, .any, .any, .any, .any, .any, .any, .any, .any, .any, .any, .any, .any, .any, .any, .any, .any, .any], h⟩) _ ⟨[vecI a, vecI b, .int .i64 n, .int .i64 ((withinN s ((2 ^ (k + 1) : Nat) : Int) : Nat) : Int), .any, .any, .any, .any, .bool false, .int .i64 ((k : Nat) : Int), vecN (relN a k), vecN (relN b k), .bool (wB (relN a k) (relN b k) 0), .int .i64 ((0 : Nat) : Int), .any, .any, .any, .any, .any, .any, .any, .any, .any, .any, .any, .any, .any, .any, .any, .any, .any, .any, .any, .any, .any, .any, .any, .any, .any, .any, .any, .any, .any, .any, .any, .any, .any, .any, .any, .any, .any, .any, .any, .any, .any, .any, .any, .any, .any, .any, .any, .any, .any, .any, .any, .any, .any, .any, .any, .any, .any, .any, .any, .any, .any, .any, .any, .any], ⟨(.inl (by first | rfl | (congr 1; omega) | (rw [w0]) | (rw [wT (by assumption)]) | (rw [wF (by assumption)]))), (.inl (by first | rfl | (congr 1; omega) | (rw [w0]) | (rw [wT (by assumption)]) | (rw [wF (by assumption)]))), (.inl (by first | rfl | (congr 1; omega) | (rw [w0]) | (rw [wT (by assumption)]) | (rw [wF (by assumption)]))), (.inl (by first | rfl | (congr 1; omega) | (rw [w0]) | (rw [wT (by assumption)]) | (rw [wF (by assumption)]))), (.inr rfl), (.inr rfl), (.inr rfl), (.inr rfl), (.inl (by first | rfl | (congr 1; omega) | (rw [w0]) | (rw [wT (by assumption)]) | (rw [wF (by assumption)]))), (.inl (by first | rfl | (congr 1; omega) | (rw [w0]) | (rw [wT (by assumption)]) | (rw [wF (by assumption)]))), (.inl (by first | rfl | (congr 1; omega) | (rw [w0]) | (rw [wT (by assumption)]) | (rw [wF (by assumption)]))), (.inl (by first | rfl | (congr 1; omega) | (rw [w0]) | (rw [wT (by assumption)]) | (rw [wF (by assumption)]))), (.inl (by first | rfl | (congr 1; omega) | (rw [w0]) | (rw [wT (by assumption)]) | (rw [wF (by assumption)]))), (.inl (by first | rfl | (congr 1; omega) | (rw [w0]) | (rw [wT (by assumption)]) | (rw [wF (by assumption)]))), (.inr rfl), (.inr rfl), (.inr rfl), (.inr rfl), (.inr rfl), (.inr rfl), (.inr rfl), (.inr rfl), (.inr rfl), (.inr rfl), (.inr rfl), (.inr rfl), (.inr rfl), (.inr rfl), (.inr rfl), (.inr rfl), (.inr rfl), (.inr rfl), (.inr rfl), (.inr rfl), (.inr rfl), (.inr rfl), (.inr rfl), (.inr rfl), (.inr rfl), (.inr rfl), (.inr rfl), (.inr rfl), (.inr rfl), (.inr rfl), (.inr rfl), (.inr rfl), (.inr rfl), (.inr rfl), (.inr rfl), (.inr rfl), (.inr rfl), (.inr rfl), (.inr rfl), (.inr rfl), (.inr rfl), (.inr rfl), (.inr rfl), (.inr rfl), (.inr rfl), (.inr rfl), (.inr rfl), (.inr rfl), (.inr rfl), (.inr rfl), (.inr rfl), (.inr rfl), (.inr rfl), (.inr rfl), (.inr rfl), (.inr rfl), (.inr rfl), (.inr rfl), (.inr rfl), (.inr rfl), (.inr rfl), (.inr rfl), (.inr rfl), (.inr rfl), trivial⟩, 0, ⟨rfl, by omega⟩, rfl⟩ ?_
  rintro m sl h' ⟨i, ⟨hm, hi⟩, hst⟩
  obtain ⟨rfl, rfl⟩ := St.mk.inj hst
  refine RunA.seq ?_
  refine RunA.seq ?_
  refine RunA.region good ?_
  refine OpsA.pre 3 (by simp (maxSteps := 2000000) (disch := omega) only [go_sem, Nat.reduceAdd, Nat.reduceSub, Nat.reduceLeDiff, Nat.reduceMul, reduceIte, reduceCtorEq, Int.reduceNeg, Int.reduceToNat, Nat.reduceLT, Int.reduceLE, Int.reduceLT, Int.reduceAdd, Int.reduceSub, Int.reduceMul, maxLenI, wrap64, read1N, over1N, flat0N, shl1N, shl1M, List.length_set, List.length_replicate, Int.toNat_natCast_add_one, eq_self, and_self, decide_true, beq_self_eq_true, if_pos, if_neg]; rfl) ?_
  refine OpsA.nil ?_
  change RunA _ _ _ _ _
  refine RunA.split 27 rfl (fun e1 => ?_) (fun e1 => ?_)
  · try simp only [e1]
    have qe1 := e1; try simp only [decide_eq_true_eq, decide_eq_false_iff_not, Bool.not_eq_true', Bool.not_eq_false', Bool.not_eq_eq_eq_not, Bool.not_true, Bool.not_false, Int.not_le, Int.not_lt, beq_iff_eq, bne_iff_ne, ge_iff_le, gt_iff_lt, beq_eq_false_iff_ne, ne_eq, bne_eq_false_iff_eq] at qe1
    refine RunA.condT rfl ?_
    refine RunA.skip ?_
    change RunA _ _ _ _ _
    refine RunA.seq ?_
    refine RunA.block ?_
    refine RunA.solo good plan13_8 (by kernel_rfl) (by kernel_rfl) ?_
    refine OpsS.pre 2 (by simp (maxSteps := 2000000) (disch := omega) only [go_sem, Nat.reduceAdd, Nat.reduceSub, Nat.reduceLeDiff, Nat.reduceMul, reduceIte, reduceCtorEq, Int.reduceNeg, Int.reduceToNat, Nat.reduceLT, Int.reduceLE, Int.reduceLT, Int.reduceAdd, Int.reduceSub, Int.reduceMul, maxLenI, wrap64, read1N, over1N, flat0N, shl1N, shl1M, List.length_set, List.length_replicate, Int.toNat_natCast_add_one, eq_self, and_self, decide_true, beq_self_eq_true, if_pos, if_neg, plan13_8E]; rfl) ?_
    refine OpsS.split 31 rfl (fun e2 => ?_) (fun e2 => ?_)
    · try simp only [e2]
      have qe2 := e2; try simp only [decide_eq_true_eq, decide_eq_false_iff_not, Bool.not_eq_true', Bool.not_eq_false', Bool.not_eq_eq_eq_not, Bool.not_true, Bool.not_false, Int.not_le, Int.not_lt, beq_iff_eq, bne_iff_ne, ge_iff_le, gt_iff_lt, beq_eq_false_iff_ne, ne_eq, bne_eq_false_iff_eq] at qe2
      refine OpsS.pre 6 (by simp (maxSteps := 2000000) (disch := omega) only [go_sem, Nat.reduceAdd, Nat.reduceSub, Nat.reduceLeDiff, Nat.reduceMul, reduceIte, reduceCtorEq, Int.reduceNeg, Int.reduceToNat, Nat.reduceLT, Int.reduceLE, Int.reduceLT, Int.reduceAdd, Int.reduceSub, Int.reduceMul, maxLenI, wrap64, read1N, over1N, flat0N, shl1N, shl1M, List.length_set, List.length_replicate, Int.toNat_natCast_add_one, eq_self, and_self, decide_true, beq_self_eq_true, if_pos, if_neg, plan13_8E]; rfl) ?_
      refine OpsS.pre 6 (by simp (maxSteps := 2000000) (disch := omega) only [go_sem, Nat.reduceAdd, Nat.reduceSub, Nat.reduceLeDiff, Nat.reduceMul, reduceIte, reduceCtorEq, Int.reduceNeg, Int.reduceToNat, Nat.reduceLT, Int.reduceLE, Int.reduceLT, Int.reduceAdd, Int.reduceSub, Int.reduceMul, maxLenI, wrap64, read1N, over1N, flat0N, shl1N, shl1M, List.length_set, List.length_replicate, Int.toNat_natCast_add_one, eq_self, and_self, decide_true, beq_self_eq_true, if_pos, if_neg, plan13_8E]; rfl) ?_
      show _
      change RunA _ _ _ _ _
      refine RunA.region good ?_
      refine OpsA.pre 3 (by simp (maxSteps := 2000000) (disch := omega) only [go_sem, Nat.reduceAdd, Nat.reduceSub, Nat.reduceLeDiff, Nat.reduceMul, reduceIte, reduceCtorEq, Int.reduceNeg, Int.reduceToNat, Nat.reduceLT, Int.reduceLE, Int.reduceLT, Int.reduceAdd, Int.reduceSub, Int.reduceMul, maxLenI, wrap64, read1N, over1N, flat0N, shl1N, shl1M, List.length_set, List.length_replicate, Int.toNat_natCast_add_one, eq_self, and_self, decide_true, beq_self_eq_true, if_pos, if_neg]; rfl) ?_
      refine OpsA.nil ?_
      exact ⟨k + 1 - (i + 1), by omega, [vecI a, vecI b, .int .i64 n, .int .i64 ((withinN s ((2 ^ (k + 1) : Nat) : Int) : Nat) : Int), .any, .any, .any, .any, .bool false, .int .i64 ((k : Nat) : Int), vecN (relN a k), vecN (relN b k), .bool (wB (relN a k) (relN b k) (i + 1)), .int .i64 (((i + 1) : Nat) : Int), .any, .any, .any, .any, .any, .any, .any, .any, .any, .any, .any, .any, .any, .any, .any, .any, .any, .any, .any, .any, .any, .any, .any, .any, .any, .any, .any, .any, .any, .any, .any, .any, .any, .any, .any, .any, .any, .any, .any, .any, .any, .any, .any, .any, .any, .any, .any, .any, .any, .any, .any, .any, .any, .any, .any, .any, .any, .any, .any, .any, .any, .any, .any, .any], ⟨(.inl (by first | rfl | (congr 1; omega) | (rw [w0]) | (rw [wT (by assumption)]) | (rw [wF (by assumption)]))), (.inl (by first | rfl | (congr 1; omega) | (rw [w0]) | (rw [wT (by assumption)]) | (rw [wF (by assumption)]))), (.inl (by first | rfl | (congr 1; omega) | (rw [w0]) | (rw [wT (by assumption)]) | (rw [wF (by assumption)]))), (.inl (by first | rfl | (congr 1; omega) | (rw [w0]) | (rw [wT (by assumption)]) | (rw [wF (by assumption)]))), (.inr rfl), (.inr rfl), (.inr rfl), (.inr rfl), (.inl (by first | rfl | (congr 1; omega) | (rw [w0]) | (rw [wT (by assumption)]) | (rw [wF (by assumption)]))), (.inl (by first | rfl | (congr 1; omega) | (rw [w0]) | (rw [wT (by assumption)]) | (rw [wF (by assumption)]))), (.inl (by first | rfl | (congr 1; omega) | (rw [w0]) | (rw [wT (by assumption)]) | (rw [wF (by assumption)]))), (.inl (by first | rfl | (congr 1; omega) | (rw [w0]) | (rw [wT (by assumption)]) | (rw [wF (by assumption)]))), (.inl (by first | rfl | (congr 1; omega) | (rw [w0]) | (rw [wT (by assumption)]) | (rw [wF (by assumption)]))), (.inl (by first | rfl | (congr 1; omega) | (rw [w0]) | (rw [wT (by assumption)]) | (rw [wF (by assumption)]))), (.inr rfl), (.inr rfl), (.inr rfl), (.inr rfl), (.inr rfl), (.inr rfl), (.inr rfl), (.inr rfl), (.inr rfl), (.inr rfl), (.inr rfl), (.inr rfl), (.inr rfl), (.inr rfl), (.inr rfl), (.inr rfl), (.inr rfl), (.inr rfl), (.inr rfl), (.inr rfl), (.inr rfl), (.inr rfl), (.inr rfl), (.inr rfl), (.inr rfl), (.inr rfl), (.inr rfl), (.inr rfl), (.inr rfl), (.inr rfl), (.inr rfl), (.inr rfl), (.inr rfl), (.inr rfl), (.inr rfl), (.inr rfl), (.inr rfl), (.inr rfl), (.inr rfl), (.inr rfl), (.inr rfl), (.inr rfl), (.inr rfl), (.inr rfl), (.inr rfl), (.inr rfl), (.inr rfl), (.inr rfl), (.inr rfl), (.inr rfl), (.inr rfl), (.inr rfl), (.inr rfl), (.inr rfl), (.inr rfl), (.inr rfl), (.inr rfl), (.inr rfl), (.inr rfl), (.inr rfl), (.inr rfl), (.inr rfl), (.inr rfl), (.inr rfl), trivial⟩, (i + 1), ⟨rfl, by omega⟩, rfl⟩
    · try simp only [e2]
      have qe2 := e2; try simp only [decide_eq_true_eq, decide_eq_false_iff_not, Bool.not_eq_true', Bool.not_eq_false', Bool.not_eq_eq_eq_not, Bool.not_true, Bool.not_false, Int.not_le, Int.not_lt, beq_iff_eq, bne_iff_ne, ge_iff_le, gt_iff_lt, beq_eq_false_iff_ne, ne_eq, bne_eq_false_iff_eq] at qe2
      refine OpsS.pre 6 (by simp (maxSteps := 2000000) (disch := omega) only [go_sem, Nat.reduceAdd, Nat.reduceSub, Nat.reduceLeDiff, Nat.reduceMul, reduceIte, reduceCtorEq, Int.reduceNeg, Int.reduceToNat, Nat.reduceLT, Int.reduceLE, Int.reduceLT, Int.reduceAdd, Int.reduceSub, Int.reduceMul, maxLenI, wrap64, read1N, over1N, flat0N, shl1N, shl1M, List.length_set, List.length_replicate, Int.toNat_natCast_add_one, eq_self, and_self, decide_true, beq_self_eq_true, if_pos, if_neg]; rfl) ?_
      refine OpsS.pre 6 (by simp (maxSteps := 2000000) (disch := omega) only [go_sem, Nat.reduceAdd, Nat.reduceSub, Nat.reduceLeDiff, Nat.reduceMul, reduceIte, reduceCtorEq, Int.reduceNeg, Int.reduceToNat, Nat.reduceLT, Int.reduceLE, Int.reduceLT, Int.reduceAdd, Int.reduceSub, Int.reduceMul, maxLenI, wrap64, read1N, over1N, flat0N, shl1N, shl1M, List.length_set, List.length_replicate, Int.toNat_natCast_add_one, eq_self, and_self, decide_true, beq_self_eq_true, if_pos, if_neg]; rfl) ?_
      show _
      change RunA _ _ _ _ _
      refine RunA.region good ?_
      refine OpsA.pre 3 (by simp (maxSteps := 2000000) (disch := omega) only [go_sem, Nat.reduceAdd, Nat.reduceSub, Nat.reduceLeDiff, Nat.reduceMul, reduceIte, reduceCtorEq, Int.reduceNeg, Int.reduceToNat, Nat.reduceLT, Int.reduceLE, Int.reduceLT, Int.reduceAdd, Int.reduceSub, Int.reduceMul, maxLenI, wrap64, read1N, over1N, flat0N, shl1N, shl1M, List.length_set, List.length_replicate, Int.toNat_natCast_add_one, eq_self, and_self, decide_true, beq_self_eq_true, if_pos, if_neg]; rfl) ?_
      refine OpsA.nil ?_
      exact ⟨k + 1 - (i + 1), by omega, [vecI a, vecI b, .int .i64 n, .int .i64 ((withinN s ((2 ^ (k + 1) : Nat) : Int) : Nat) : Int), .any, .any, .any, .any, .bool false, .int .i64 ((k : Nat) : Int), vecN (relN a k), vecN (relN b k), .bool (wB (relN a k) (relN b k) (i + 1)), .int .i64 (((i + 1) : Nat) : Int), .any, .any, .any, .any, .any, .any, .any, .any, .any, .any, .any, .any, .any, .any, .any, .any, .any, .any, .any, .any, .any, .any, .any, .any, .any, .any, .any, .any, .any, .any, .any, .any, .any, .any, .any, .any, .any, .any, .any, .any, .any, .any, .any, .any, .any, .any, .any, .any, .any, .any, .any, .any, .any, .any, .any, .any, .any, .any, .any, .any, .any, .any, .any, .any], ⟨(.inl (by first | rfl | (congr 1; omega) | (rw [w0]) | (rw [wT (by assumption)]) | (rw [wF (by assumption)]))), (.inl (by first | rfl | (congr 1; omega) | (rw [w0]) | (rw [wT (by assumption)]) | (rw [wF (by assumption)]))), (.inl (by first | rfl | (congr 1; omega) | (rw [w0]) | (rw [wT (by assumption)]) | (rw [wF (by assumption)]))), (.inl (by first | rfl | (congr 1; omega) | (rw [w0]) | (rw [wT (by assumption)]) | (rw [wF (by assumption)]))), (.inr rfl), (.inr rfl), (.inr rfl), (.inr rfl), (.inl (by first | rfl | (congr 1; omega) | (rw [w0]) | (rw [wT (by assumption)]) | (rw [wF (by assumption)]))), (.inl (by first | rfl | (congr 1; omega) | (rw [w0]) | (rw [wT (by assumption)]) | (rw [wF (by assumption)]))), (.inl (by first | rfl | (congr 1; omega) | (rw [w0]) | (rw [wT (by assumption)]) | (rw [wF (by assumption)]))), (.inl (by first | rfl | (congr 1; omega) | (rw [w0]) | (rw [wT (by assumption)]) | (rw [wF (by assumption)]))), (.inl (by first | rfl | (congr 1; omega) | (rw [w0]) | (rw [wT (by assumption)]) | (rw [wF (by assumption)]))), (.inl (by first | rfl | (congr 1; omega) | (rw [w0]) | (rw [wT (by assumption)]) | (rw [wF (by assumption)]))), (.inr rfl), (.inr rfl), (.inr rfl), (.inr rfl), (.inr rfl), (.inr rfl), (.inr rfl), (.inr rfl), (.inr rfl), (.inr rfl), (.inr rfl), (.inr rfl), (.inr rfl), (.inr rfl), (.inr rfl), (.inr rfl), (.inr rfl), (.inr rfl), (.inr rfl), (.inr rfl), (.inr rfl), (.inr rfl), (.inr rfl), (.inr rfl), (.inr rfl), (.inr rfl), (.inr rfl), (.inr rfl), (.inr rfl), (.inr rfl), (.inr rfl), (.inr rfl), (.inr rfl), (.inr rfl), (.inr rfl), (.inr rfl), (.inr rfl), (.inr rfl), (.inr rfl), (.inr rfl), (.inr rfl), (.inr rfl), (.inr rfl), (.inr rfl), (.inr rfl), (.inr rfl), (.inr rfl), (.inr rfl), (.inr rfl), (.inr rfl), (.inr rfl), (.inr rfl), (.inr rfl), (.inr rfl), (.inr rfl), (.inr rfl), (.inr rfl), (.inr rfl), (.inr rfl), (.inr rfl), (.inr rfl), (.inr rfl), (.inr rfl), (.inr rfl), trivial⟩, (i + 1), ⟨rfl, by omega⟩, rfl⟩
  · try simp only [e1]
    have qe1 := e1; try simp only [decide_eq_true_eq, decide_eq_false_iff_not, Bool.not_eq_true', Bool.not_eq_false', Bool.not_eq_eq_eq_not, Bool.not_true, Bool.not_false, Int.not_le, Int.not_lt, beq_iff_eq, bne_iff_ne, ge_iff_le, gt_iff_lt, beq_eq_false_iff_ne, ne_eq, bne_eq_false_iff_eq] at qe1
    refine RunA.condF rfl ?_
    refine RunA.exit ?_
    change RunA _ _ _ _ _
    refine RunA.seq ?_
    refine RunA.region good ?_
    refine OpsA.pre 2 (by simp (maxSteps := 2000000) (disch := omega) only [go_sem, Nat.reduceAdd, Nat.reduceSub, Nat.reduceLeDiff, Nat.reduceMul, reduceIte, reduceCtorEq, Int.reduceNeg, Int.reduceToNat, Nat.reduceLT, Int.reduceLE, Int.reduceLT, Int.reduceAdd, Int.reduceSub, Int.reduceMul, maxLenI, wrap64, read1N, over1N, flat0N, shl1N, shl1M, List.length_set, List.length_replicate, Int.toNat_natCast_add_one, eq_self, and_self, decide_true, beq_self_eq_true, if_pos, if_neg]; rfl) ?_
    refine OpsA.callQ rfl rfl rfl hb41 (c41 _ _ (by first | exact rel_lt _ hk8 | exact sh_lt hk8 | exact compose_lt (rel_lt _ hk8) | exact compose_lt (sh_lt hk8) | exact union_lt (rel_lt _ hk8) (rel_lt _ hk8) | exact compose_lt (union_lt (rel_lt _ hk8) (rel_lt _ hk8)) | exact union_lt (compose_lt (rel_lt _ hk8)) (compose_lt (rel_lt _ hk8)) | exact compose_lt (compose_lt (rel_lt _ hk8))) (by first | exact set_lt _ hk8 | exact applyTo_lt (rel_lt _ hk8) _ _ | exact or_lt (set_lt _ hk8) (set_lt _ hk8)) (by simp only [compose_len, union_len, rel_len, sh_len] <;> omega)) ?_
    refine OpsA.pre 2 (by simp (maxSteps := 2000000) (disch := omega) only [go_sem, Nat.reduceAdd, Nat.reduceSub, Nat.reduceLeDiff, Nat.reduceMul, reduceIte, reduceCtorEq, Int.reduceNeg, Int.reduceToNat, Nat.reduceLT, Int.reduceLE, Int.reduceLT, Int.reduceAdd, Int.reduceSub, Int.reduceMul, maxLenI, wrap64, read1N, over1N, flat0N, shl1N, shl1M, List.length_set, List.length_replicate, Int.toNat_natCast_add_one, eq_self, and_self, decide_true, beq_self_eq_true, if_pos, if_neg]; rfl) ?_
    refine OpsA.callQ rfl rfl rfl hb49 (c49 _ _ (by first | exact rel_lt _ hk8 | exact sh_lt hk8 | exact compose_lt (rel_lt _ hk8) | exact compose_lt (sh_lt hk8) | exact union_lt (rel_lt _ hk8) (rel_lt _ hk8) | exact compose_lt (union_lt (rel_lt _ hk8) (rel_lt _ hk8)) | exact union_lt (compose_lt (rel_lt _ hk8)) (compose_lt (rel_lt _ hk8)) | exact compose_lt (compose_lt (rel_lt _ hk8))) (by first | exact set_lt _ hk8 | exact applyTo_lt (rel_lt _ hk8) _ _ | exact or_lt (set_lt _ hk8) (set_lt _ hk8)) (by simp only [compose_len, union_len, rel_len, sh_len] <;> omega)) ?_
    refine OpsA.pre 2 (by simp (maxSteps := 2000000) (disch := omega) only [go_sem, Nat.reduceAdd, Nat.reduceSub, Nat.reduceLeDiff, Nat.reduceMul, reduceIte, reduceCtorEq, Int.reduceNeg, Int.reduceToNat, Nat.reduceLT, Int.reduceLE, Int.reduceLT, Int.reduceAdd, Int.reduceSub, Int.reduceMul, maxLenI, wrap64, read1N, over1N, flat0N, shl1N, shl1M, List.length_set, List.length_replicate, Int.toNat_natCast_add_one, eq_self, and_self, decide_true, beq_self_eq_true, if_pos, if_neg]; rfl) ?_
    refine OpsA.split 50 rfl (fun e3 => ?_) (fun e3 => ?_)
    · try simp only [e3]
      have qe3 := e3; try simp only [decide_eq_true_eq, decide_eq_false_iff_not, Bool.not_eq_true', Bool.not_eq_false', Bool.not_eq_eq_eq_not, Bool.not_true, Bool.not_false, Int.not_le, Int.not_lt, beq_iff_eq, bne_iff_ne, ge_iff_le, gt_iff_lt, beq_eq_false_iff_ne, ne_eq, bne_eq_false_iff_eq] at qe3
      refine OpsA.pre 2 (by simp (maxSteps := 2000000) (disch := omega) only [go_sem, Nat.reduceAdd, Nat.reduceSub, Nat.reduceLeDiff, Nat.reduceMul, reduceIte, reduceCtorEq, Int.reduceNeg, Int.reduceToNat, Nat.reduceLT, Int.reduceLE, Int.reduceLT, Int.reduceAdd, Int.reduceSub, Int.reduceMul, maxLenI, wrap64, read1N, over1N, flat0N, shl1N, shl1M, List.length_set, List.length_replicate, Int.toNat_natCast_add_one, eq_self, and_self, decide_true, beq_self_eq_true, if_pos, if_neg]; rfl) ?_
      refine OpsA.callQ rfl rfl rfl hb32 (c32 _ _ (by first | exact rel_lt _ hk8 | exact sh_lt hk8 | exact compose_lt (rel_lt _ hk8) | exact compose_lt (sh_lt hk8) | exact union_lt (rel_lt _ hk8) (rel_lt _ hk8) | exact compose_lt (union_lt (rel_lt _ hk8) (rel_lt _ hk8)) | exact union_lt (compose_lt (rel_lt _ hk8)) (compose_lt (rel_lt _ hk8)) | exact compose_lt (compose_lt (rel_lt _ hk8))) (by simp only [compose_len, union_len, rel_len, sh_len] <;> omega) (by first | exact rel_lt _ hk8 | exact sh_lt hk8 | exact compose_lt (rel_lt _ hk8) | exact compose_lt (sh_lt hk8) | exact union_lt (rel_lt _ hk8) (rel_lt _ hk8) | exact compose_lt (union_lt (rel_lt _ hk8) (rel_lt _ hk8)) | exact union_lt (compose_lt (rel_lt _ hk8)) (compose_lt (rel_lt _ hk8)) | exact compose_lt (compose_lt (rel_lt _ hk8))) (by simp only [compose_len, union_len, rel_len, sh_len] <;> omega)) ?_
      refine OpsA.pre 2 (by simp (maxSteps := 2000000) (disch := omega) only [go_sem, Nat.reduceAdd, Nat.reduceSub, Nat.reduceLeDiff, Nat.reduceMul, reduceIte, reduceCtorEq, Int.reduceNeg, Int.reduceToNat, Nat.reduceLT, Int.reduceLE, Int.reduceLT, Int.reduceAdd, Int.reduceSub, Int.reduceMul, maxLenI, wrap64, read1N, over1N, flat0N, shl1N, shl1M, List.length_set, List.length_replicate, Int.toNat_natCast_add_one, eq_self, and_self, decide_true, beq_self_eq_true, if_pos, if_neg]; rfl) ?_
      refine OpsA.callQ rfl rfl rfl hb50 (c50 _ _ (by first | exact rel_lt _ hk8 | exact sh_lt hk8 | exact compose_lt (rel_lt _ hk8) | exact compose_lt (sh_lt hk8) | exact union_lt (rel_lt _ hk8) (rel_lt _ hk8) | exact compose_lt (union_lt (rel_lt _ hk8) (rel_lt _ hk8)) | exact union_lt (compose_lt (rel_lt _ hk8)) (compose_lt (rel_lt _ hk8)) | exact compose_lt (compose_lt (rel_lt _ hk8))) (by simp only [compose_len, union_len, rel_len, sh_len] <;> omega) (by first | exact rel_lt _ hk8 | exact sh_lt hk8 | exact compose_lt (rel_lt _ hk8) | exact compose_lt (sh_lt hk8) | exact union_lt (rel_lt _ hk8) (rel_lt _ hk8) | exact compose_lt (union_lt (rel_lt _ hk8) (rel_lt _ hk8)) | exact union_lt (compose_lt (rel_lt _ hk8)) (compose_lt (rel_lt _ hk8)) | exact compose_lt (compose_lt (rel_lt _ hk8))) (by simp only [compose_len, union_len, rel_len, sh_len] <;> omega)) ?_
      refine OpsA.callQ rfl rfl rfl hb36 (c36N _ _ (by simp only [compose_len, union_len, rel_len, sh_len] <;> omega)) ?_
      refine OpsA.pre 2 (by simp (maxSteps := 2000000) (disch := omega) only [go_sem, Nat.reduceAdd, Nat.reduceSub, Nat.reduceLeDiff, Nat.reduceMul, reduceIte, reduceCtorEq, Int.reduceNeg, Int.reduceToNat, Nat.reduceLT, Int.reduceLE, Int.reduceLT, Int.reduceAdd, Int.reduceSub, Int.reduceMul, maxLenI, wrap64, read1N, over1N, flat0N, shl1N, shl1M, List.length_set, List.length_replicate, Int.toNat_natCast_add_one, eq_self, and_self, decide_true, beq_self_eq_true, if_pos, if_neg]; rfl) ?_
      refine OpsA.split 59 rfl (fun e4 => ?_) (fun e4 => ?_)
      · try simp only [e4]
        have qe4 := e4; try simp only [decide_eq_true_eq, decide_eq_false_iff_not, Bool.not_eq_true', Bool.not_eq_false', Bool.not_eq_eq_eq_not, Bool.not_true, Bool.not_false, Int.not_le, Int.not_lt, beq_iff_eq, bne_iff_ne, ge_iff_le, gt_iff_lt, beq_eq_false_iff_ne, ne_eq, bne_eq_false_iff_eq] at qe4
        refine OpsA.pre 2 (by simp (maxSteps := 2000000) (disch := omega) only [go_sem, Nat.reduceAdd, Nat.reduceSub, Nat.reduceLeDiff, Nat.reduceMul, reduceIte, reduceCtorEq, Int.reduceNeg, Int.reduceToNat, Nat.reduceLT, Int.reduceLE, Int.reduceLT, Int.reduceAdd, Int.reduceSub, Int.reduceMul, maxLenI, wrap64, read1N, over1N, flat0N, shl1N, shl1M, List.length_set, List.length_replicate, Int.toNat_natCast_add_one, eq_self, and_self, decide_true, beq_self_eq_true, if_pos, if_neg]; rfl) ?_
        refine OpsA.callQ rfl rfl rfl hb48 (c48 _ _ (by first | exact rel_lt _ hk8 | exact sh_lt hk8 | exact compose_lt (rel_lt _ hk8) | exact compose_lt (sh_lt hk8) | exact union_lt (rel_lt _ hk8) (rel_lt _ hk8) | exact compose_lt (union_lt (rel_lt _ hk8) (rel_lt _ hk8)) | exact union_lt (compose_lt (rel_lt _ hk8)) (compose_lt (rel_lt _ hk8)) | exact compose_lt (compose_lt (rel_lt _ hk8))) (by first | exact rel_lt _ hk8 | exact sh_lt hk8 | exact compose_lt (rel_lt _ hk8) | exact compose_lt (sh_lt hk8) | exact union_lt (rel_lt _ hk8) (rel_lt _ hk8) | exact compose_lt (union_lt (rel_lt _ hk8) (rel_lt _ hk8)) | exact union_lt (compose_lt (rel_lt _ hk8)) (compose_lt (rel_lt _ hk8)) | exact compose_lt (compose_lt (rel_lt _ hk8))) (by simp only [compose_len, union_len, rel_len, sh_len] <;> omega) (by simp only [compose_len, union_len, rel_len, sh_len] <;> omega)) ?_
        refine OpsA.pre 2 (by simp (maxSteps := 2000000) (disch := omega) only [go_sem, Nat.reduceAdd, Nat.reduceSub, Nat.reduceLeDiff, Nat.reduceMul, reduceIte, reduceCtorEq, Int.reduceNeg, Int.reduceToNat, Nat.reduceLT, Int.reduceLE, Int.reduceLT, Int.reduceAdd, Int.reduceSub, Int.reduceMul, maxLenI, wrap64, read1N, over1N, flat0N, shl1N, shl1M, List.length_set, List.length_replicate, Int.toNat_natCast_add_one, eq_self, and_self, decide_true, beq_self_eq_true, if_pos, if_neg]; rfl) ?_
        refine OpsA.callQ rfl rfl rfl hb51 (c51 _ _ (by first | exact rel_lt _ hk8 | exact sh_lt hk8 | exact compose_lt (rel_lt _ hk8) | exact compose_lt (sh_lt hk8) | exact union_lt (rel_lt _ hk8) (rel_lt _ hk8) | exact compose_lt (union_lt (rel_lt _ hk8) (rel_lt _ hk8)) | exact union_lt (compose_lt (rel_lt _ hk8)) (compose_lt (rel_lt _ hk8)) | exact compose_lt (compose_lt (rel_lt _ hk8))) (by first | exact rel_lt _ hk8 | exact sh_lt hk8 | exact compose_lt (rel_lt _ hk8) | exact compose_lt (sh_lt hk8) | exact union_lt (rel_lt _ hk8) (rel_lt _ hk8) | exact compose_lt (union_lt (rel_lt _ hk8) (rel_lt _ hk8)) | exact union_lt (compose_lt (rel_lt _ hk8)) (compose_lt (rel_lt _ hk8)) | exact compose_lt (compose_lt (rel_lt _ hk8))) (by simp only [compose_len, union_len, rel_len, sh_len] <;> omega) (by simp only [compose_len, union_len, rel_len, sh_len] <;> omega)) ?_
        refine OpsA.callQ rfl rfl rfl hb36 (c36N _ _ (by simp only [compose_len, union_len, rel_len, sh_len] <;> omega)) ?_
        refine OpsA.pre 2 (by simp (maxSteps := 2000000) (disch := omega) only [go_sem, Nat.reduceAdd, Nat.reduceSub, Nat.reduceLeDiff, Nat.reduceMul, reduceIte, reduceCtorEq, Int.reduceNeg, Int.reduceToNat, Nat.reduceLT, Int.reduceLE, Int.reduceLT, Int.reduceAdd, Int.reduceSub, Int.reduceMul, maxLenI, wrap64, read1N, over1N, flat0N, shl1N, shl1M, List.length_set, List.length_replicate, Int.toNat_natCast_add_one, eq_self, and_self, decide_true, beq_self_eq_true, if_pos, if_neg]; rfl) ?_
        refine OpsA.split 68 rfl (fun e5 => ?_) (fun e5 => ?_)
        · try simp only [e5]
          have qe5 := e5; try simp only [decide_eq_true_eq, decide_eq_false_iff_not, Bool.not_eq_true', Bool.not_eq_false', Bool.not_eq_eq_eq_not, Bool.not_true, Bool.not_false, Int.not_le, Int.not_lt, beq_iff_eq, bne_iff_ne, ge_iff_le, gt_iff_lt, beq_eq_false_iff_ne, ne_eq, bne_eq_false_iff_eq] at qe5
          refine OpsA.pre 2 (by simp (maxSteps := 2000000) (disch := omega) only [go_sem, Nat.reduceAdd, Nat.reduceSub, Nat.reduceLeDiff, Nat.reduceMul, reduceIte, reduceCtorEq, Int.reduceNeg, Int.reduceToNat, Nat.reduceLT, Int.reduceLE, Int.reduceLT, Int.reduceAdd, Int.reduceSub, Int.reduceMul, maxLenI, wrap64, read1N, over1N, flat0N, shl1N, shl1M, List.length_set, List.length_replicate, Int.toNat_natCast_add_one, eq_self, and_self, decide_true, beq_self_eq_true, if_pos, if_neg]; rfl) ?_
          refine OpsA.callQ rfl rfl rfl hb52 (c52 _ _ (by simp only [compose_len, union_len, rel_len, sh_len] <;> omega) (by simp only [compose_len, union_len, rel_len, sh_len] <;> omega)) ?_
          refine OpsA.pre 4 (by simp (maxSteps := 2000000) (disch := omega) only [go_sem, Nat.reduceAdd, Nat.reduceSub, Nat.reduceLeDiff, Nat.reduceMul, reduceIte, reduceCtorEq, Int.reduceNeg, Int.reduceToNat, Nat.reduceLT, Int.reduceLE, Int.reduceLT, Int.reduceAdd, Int.reduceSub, Int.reduceMul, maxLenI, wrap64, read1N, over1N, flat0N, shl1N, shl1M, List.length_set, List.length_replicate, Int.toNat_natCast_add_one, eq_self, and_self, decide_true, beq_self_eq_true, if_pos, if_neg]; rfl) ?_
          refine OpsA.split 75 rfl (fun e6 => ?_) (fun e6 => ?_)
          · try simp only [e6]
            have qe6 := e6; try simp only [decide_eq_true_eq, decide_eq_false_iff_not, Bool.not_eq_true', Bool.not_eq_false', Bool.not_eq_eq_eq_not, Bool.not_true, Bool.not_false, Int.not_le, Int.not_lt, beq_iff_eq, bne_iff_ne, ge_iff_le, gt_iff_lt, beq_eq_false_iff_ne, ne_eq, bne_eq_false_iff_eq] at qe6
            refine OpsA.callQ rfl rfl rfl hb38 (c38) ?_
            refine OpsA.pre 2 (by simp (maxSteps := 2000000) (disch := omega) only [go_sem, Nat.reduceAdd, Nat.reduceSub, Nat.reduceLeDiff, Nat.reduceMul, reduceIte, reduceCtorEq, Int.reduceNeg, Int.reduceToNat, Nat.reduceLT, Int.reduceLE, Int.reduceLT, Int.reduceAdd, Int.reduceSub, Int.reduceMul, maxLenI, wrap64, read1N, over1N, flat0N, shl1N, shl1M, List.length_set, List.length_replicate, Int.toNat_natCast_add_one, eq_self, and_self, decide_true, beq_self_eq_true, if_pos, if_neg]; rfl) ?_
            refine OpsA.nil ?_
            change RunA _ _ _ _ _
            refine RunA.ret ?_
            refine Ends.mk (by simp only [res13, resA, resAs, resA1]; first | rfl | (simp (maxSteps := 2000000) (disch := omega) only [go_sem, Nat.reduceAdd, Nat.reduceSub, Nat.reduceLeDiff, Nat.reduceMul, reduceIte, reduceCtorEq, Int.reduceNeg, Int.reduceToNat, Nat.reduceLT, Int.reduceLE, Int.reduceLT, Int.reduceAdd, Int.reduceSub, Int.reduceMul, maxLenI, wrap64, read1N, over1N, flat0N, shl1N, shl1M, List.length_set, List.length_replicate, Int.toNat_natCast_add_one, eq_self, and_self, decide_true, beq_self_eq_true, if_pos, if_neg]; rfl)) ?_
            exact ⟨[], _, (List.append_nil _).symm, by first | rfl | rfl, by rfl⟩
          · exfalso; have t := wEnd (x := relN a k) (y := relN b k) (i := i) (by omega); simp [t] at e6
        · exfalso; first | (simp at e5; done) | cases e5
      · exfalso; first | (simp at e4; done) | cases e4
    · exfalso; first | (simp at e3; done) | cases e3

end Go.Proofs.Ytlmclkamedhmhaa
