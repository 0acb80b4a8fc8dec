/-
  THE LAW DepthSets: lists of depths. Written in part by a program of mine (gen14.py, walk.py). Conditions: none.
-/
import Derived.Test.YtlmclkamedhmhaaDep14F
import Derived.Test.YtlmclkamedhmhaaAbsLoopD
import Derived.Test.YtlmclkamedhmhaaAbsMulti
namespace Go.Proofs.Ytlmclkamedhmhaa
open Go.Ab
set_option linter.unusedSimpArgs false
set_option linter.unusedVariables false
set_option maxRecDepth 10000
attribute [local go_sem] opsE opsSE opsME List.contains_cons List.contains_nil Bool.or_true Bool.true_or Bool.or_false Bool.false_or stepS quietA wantA plainA pureA readA effA callPureA lenA minA maxA rho embT emb putA List.set List.getD_cons_zero List.getD_cons_succ List.getD_nil binA intBin isShift unA buildA fillA over partA loadA readAt writeAt newVarA virts addOff AV.cellsOf AV.storable AV.one UD.isAgg UD.known lenOf sliceA boundA virtNone get_app get_app0 set_app set_app0 Array.toList List.take_succ_cons List.take_zero List.drop_succ_cons List.drop_zero List.getElem?_cons_succ List.getElem?_cons_zero List.getElem?_toArray Option.bind_some Option.map_some Option.map_none List.map_cons List.map_nil List.length_cons List.length_nil List.length_append Nat.zero_add Nat.add_zero Nat.le_refl Nat.one_mul Nat.mul_one List.append_assoc List.cons_append List.nil_append List.append_nil and_self and_true true_and true_or or_true if_true if_false Bool.false_eq_true not_false_eq_true bTT bTF bFT bFF Bool.not_true Bool.not_false decide_true decide_false Int.toNat_zero Int.toNat_one Int.toNat_natCast List.size_toArray ut3 sz3 ti3 ut4 sz4 ti4 ut34 sz34 ti34 ut53 sz53 ti53 ut63 sz63 ti63 vecI vecN List.length_map Int.natCast_nonneg List.map_nil

def lsN (s i : Nat) : List Nat := (List.range i).filter fun d => s.testBit d
theorem lsT {s i : Nat} (h : s.testBit i = true) : lsN s (i + 1) = lsN s i ++ [i] := by simp [lsN, List.range_succ, List.filter_append, h]
theorem lsF {s i : Nat} (h : s.testBit i = false) : lsN s (i + 1) = lsN s i := by simp [lsN, List.range_succ, List.filter_append, h]
theorem ls_len (s i : Nat) : (lsN s i).length ≤ i := by
  have := List.length_filter_le (fun d => s.testBit d) (List.range i)
  simpa [lsN] using this
theorem append_ls {h g : Heap} {s i : Nat} {v : Int} (hi : i ≤ 9) : appendA cfg 3 (h ++ outB 3 (lsN s i).length ((lsN s i).map cellN) :: ⟨0, false, 3, 1, [.int .i64 v]⟩ :: g) (.own h.length (lsN s i).length 0 (lsN s i).length) (.own (h.length + 1) 0 0 1) =
    some (.own h.length ((lsN s i).length + 1) 0 ((lsN s i).length + 1), h ++ outB 3 ((lsN s i).length + 1) ((lsN s i).map cellN ++ [.int .i64 v]) :: ⟨0, false, 3, 1, [.int .i64 v]⟩ :: g) := by
  have := ls_len s i
  exact append_out (by simp) sz3 (by decide) (by omega) (by simp only [rd, get_app, List.getElem?_cons_succ, List.getElem?_cons_zero]; rfl) rfl rfl
theorem flat1 : (List.replicate 1 [AV.int .i64 0]).flatten = [AV.int .i64 0] := rfl
theorem one_max : (1 ≤ maxLen) = True := by simp; decide
theorem ls_refs {s i n : Nat} : ∀ b ∈ [outB 3 (lsN s i).length ((lsN s i).map cellN)], ∀ x ∈ b.cells, Refs n x := by
  intro b hb x hx
  rw [List.mem_singleton] at hb
  subst hb
  unfold outB at hx
  split at hx
  · simp at hx
  · obtain ⟨y, _, rfl⟩ := List.mem_map.1 hx
    exact .int _ _
theorem ls_blkT {s i : Nat} {h : Heap} {l2 : Heap} (ht : s.testBit i = true) : h ++ outB 3 ((lsN s i).length + 1) ((lsN s i).map cellN ++ [.int .i64 ((i : Nat) : Int)]) :: l2 = h ++ ([outB 3 (lsN s (i + 1)).length ((lsN s (i + 1)).map cellN)] ++ l2) := by
  rw [lsT ht, List.length_append, List.map_append]
  rfl
theorem ls_blkF {s i : Nat} {h : Heap} {l2 : Heap} (ht : s.testBit i = false) : h ++ outB 3 (lsN s i).length ((lsN s i).map cellN) :: l2 = h ++ ([outB 3 (lsN s (i + 1)).length ((lsN s (i + 1)).map cellN)] ++ l2) := by
  rw [lsF ht]
  rfl
theorem ls_int {l : List Nat} : ∀ x ∈ l.map cellN, ∃ k n, x = AV.int k n := by
  intro x hx
  obtain ⟨y, _, rfl⟩ := List.mem_map.1 hx
  exact ⟨_, _, rfl⟩
theorem c43N {h : Heap} (s i : Nat) (hs : s < 512) (hi : i ≤ 8) : CallA Try.prog cfg 43 [.int .i64 ((s : Nat) : Int), .int .i64 ((i : Nat) : Int)] h (fun r h' => r = .bool (s.testBit i) ∧ h' = h) := by
  rw [← hasN hi]
  exact c43 s _ hs

theorem c42 {h : Heap} (s : Nat) (hs : s < 512) : CallA Try.prog cfg 42 [.int .i64 ((s : Nat) : Int)] h (fun y' h' => y' = vecN (lsN s 9) ∧ h' = h) := by
  refine CallA.body (Q := fun y' => y' = vecN (lsN s 9)) good fn42 rfl ?_
  simp only [ntm42, List.length_cons, List.length_nil, Nat.reduceAdd, Nat.reduceSub, List.replicate, List.cons_append, List.nil_append]
  refine RunA.seq ?_
  refine RunA.region good ?_
  refine OpsA.pre 1 (by simp (maxSteps := 2000000) (disch := omega) only [go_sem, Nat.reduceBEq, Nat.reduceAdd, Nat.reduceSub, Nat.reduceLeDiff, Nat.reduceMul, reduceIte, reduceCtorEq, Int.reduceNeg, Int.reduceToNat, Nat.reduceLT, Int.reduceLE, Int.reduceLT, Int.reduceAdd, Int.reduceSub, Int.reduceMul, wrap64, append_ls, flat1, one_max, if_pos, if_neg]; rfl) ?_
  refine OpsA.nil ?_
  change RunA _ _ _ _ _
  refine RunA.seq ?_
  refine RunA.region good ?_
  refine OpsA.pre 1 (by simp (maxSteps := 2000000) (disch := omega) only [go_sem, Nat.reduceBEq, Nat.reduceAdd, Nat.reduceSub, Nat.reduceLeDiff, Nat.reduceMul, reduceIte, reduceCtorEq, Int.reduceNeg, Int.reduceToNat, Nat.reduceLT, Int.reduceLE, Int.reduceLT, Int.reduceAdd, Int.reduceSub, Int.reduceMul, wrap64, append_ls, flat1, one_max, if_pos, if_neg]; rfl) ?_
  refine OpsA.nil ?_
  change RunA _ _ _ _ _
  refine RunA.seq ?_
  refine RunA.seq ?_
  refine RunA.region good ?_
  refine OpsA.pre 1 (by simp (maxSteps := 2000000) (disch := omega) only [go_sem, Nat.reduceBEq, Nat.reduceAdd, Nat.reduceSub, Nat.reduceLeDiff, Nat.reduceMul, reduceIte, reduceCtorEq, Int.reduceNeg, Int.reduceToNat, Nat.reduceLT, Int.reduceLE, Int.reduceLT, Int.reduceAdd, Int.reduceSub, Int.reduceMul, wrap64, append_ls, flat1, one_max, if_pos, if_neg]; rfl) ?_
  refine OpsA.nil ?_
  change RunA _ _ _ _ _
  refine RunA.block ?_
  refine RunA.fit [.int .i64 ((s : Nat) : Int), .any, .nils, .nils, .any, .int .i64 ((0 : Nat) : Int), .any, .any, .any, .any, .any, .any, .any, .any, .any, .any, .any] ⟨(.inl (by first | rfl | (congr 1; omega) | (rw [lsT (by assumption), List.length_append]; rfl) | (rw [lsF (by assumption)]))), (.inr rfl), (.inl (by first | rfl | (congr 1; omega) | (rw [lsT (by assumption), List.length_append]; rfl) | (rw [lsF (by assumption)]))), (.inl (by first | rfl | (congr 1; omega) | (rw [lsT (by assumption), List.length_append]; rfl) | (rw [lsF (by assumption)]))), (.inr rfl), (.inl (by first | rfl | (congr 1; omega) | (rw [lsT (by assumption), List.length_append]; rfl) | (rw [lsF (by assumption)]))), (.inr rfl), (.inr rfl), (.inr rfl), (.inr rfl), (.inr rfl), (.inr rfl), (.inr rfl), (.inr rfl), (.inr rfl), (.inr rfl), (.inr rfl), trivial⟩ ?_
  refine RunA.virtual [.int .i64 ((s : Nat) : Int), .any, .nils, .own h.length (lsN s 0).length 0 (lsN s 0).length, .any, .int .i64 ((0 : Nat) : Int), .any, .any, .any, .any, .any, .any, .any, .any, .any, .any, .any] ⟨.inl rfl, .inl rfl, .inl rfl, .inr ⟨rfl, rfl⟩, .inl rfl, .inl rfl, .inl rfl, .inl rfl, .inl rfl, .inl rfl, .inl rfl, .inl rfl, .inl rfl, .inl rfl, .inl rfl, .inl rfl, .inl rfl, trivial⟩ ?_
  refine RunA.loopD h [⟨0, true, 0, 0, []⟩] rfl (fun m st => ∃ (i : Nat), (m = 9 - i ∧ i ≤ 9) ∧ st = ⟨[.int .i64 ((s : Nat) : Int), .any, .nils, .own h.length (lsN s i).length 0 (lsN s i).length, .any, .int .i64 ((i : Nat) : Int), .any, .any, .any, .any, .any, .any, .any, .any, .any, .any, .any], h ++ [outB 3 (lsN s i).length ((lsN s i).map cellN)]⟩) _ ⟨[.int .i64 ((s : Nat) : Int), .any, .nils, .own h.length (lsN s 0).length 0 (lsN s 0).length, .any, .int .i64 ((0 : Nat) : Int), .any, .any, .any, .any, .any, .any, .any, .any, .any, .any, .any], [⟨0, true, 0, 0, []⟩], [], rfl, Nat.le_refl _, ⟨.inl rfl, .inl rfl, .inl rfl, .inl rfl, .inl rfl, .inl rfl, .inl rfl, .inl rfl, .inl rfl, .inl rfl, .inl rfl, .inl rfl, .inl rfl, .inl rfl, .inl rfl, .inl rfl, .inl rfl, trivial⟩, RefsL.get ⟨(by first | exact .any | exact .int _ _ | exact .bool _ | exact .vec _ _ | exact .nils | exact .own _ _ _ _ (by simp) | exact .ptr _ _ _ (by simp)), (by first | exact .any | exact .int _ _ | exact .bool _ | exact .vec _ _ | exact .nils | exact .own _ _ _ _ (by simp) | exact .ptr _ _ _ (by simp)), (by first | exact .any | exact .int _ _ | exact .bool _ | exact .vec _ _ | exact .nils | exact .own _ _ _ _ (by simp) | exact .ptr _ _ _ (by simp)), (by first | exact .any | exact .int _ _ | exact .bool _ | exact .vec _ _ | exact .nils | exact .own _ _ _ _ (by simp) | exact .ptr _ _ _ (by simp)), (by first | exact .any | exact .int _ _ | exact .bool _ | exact .vec _ _ | exact .nils | exact .own _ _ _ _ (by simp) | exact .ptr _ _ _ (by simp)), (by first | exact .any | exact .int _ _ | exact .bool _ | exact .vec _ _ | exact .nils | exact .own _ _ _ _ (by simp) | exact .ptr _ _ _ (by simp)), (by first | exact .any | exact .int _ _ | exact .bool _ | exact .vec _ _ | exact .nils | exact .own _ _ _ _ (by simp) | exact .ptr _ _ _ (by simp)), (by first | exact .any | exact .int _ _ | exact .bool _ | exact .vec _ _ | exact .nils | exact .own _ _ _ _ (by simp) | exact .ptr _ _ _ (by simp)), (by first | exact .any | exact .int _ _ | exact .bool _ | exact .vec _ _ | exact .nils | exact .own _ _ _ _ (by simp) | exact .ptr _ _ _ (by simp)), (by first | exact .any | exact .int _ _ | exact .bool _ | exact .vec _ _ | exact .nils | exact .own _ _ _ _ (by simp) | exact .ptr _ _ _ (by simp)), (by first | exact .any | exact .int _ _ | exact .bool _ | exact .vec _ _ | exact .nils | exact .own _ _ _ _ (by simp) | exact .ptr _ _ _ (by simp)), (by first | exact .any | exact .int _ _ | exact .bool _ | exact .vec _ _ | exact .nils | exact .own _ _ _ _ (by simp) | exact .ptr _ _ _ (by simp)), (by first | exact .any | exact .int _ _ | exact .bool _ | exact .vec _ _ | exact .nils | exact .own _ _ _ _ (by simp) | exact .ptr _ _ _ (by simp)), (by first | exact .any | exact .int _ _ | exact .bool _ | exact .vec _ _ | exact .nils | exact .own _ _ _ _ (by simp) | exact .ptr _ _ _ (by simp)), (by first | exact .any | exact .int _ _ | exact .bool _ | exact .vec _ _ | exact .nils | exact .own _ _ _ _ (by simp) | exact .ptr _ _ _ (by simp)), (by first | exact .any | exact .int _ _ | exact .bool _ | exact .vec _ _ | exact .nils | exact .own _ _ _ _ (by simp) | exact .ptr _ _ _ (by simp)), (by first | exact .any | exact .int _ _ | exact .bool _ | exact .vec _ _ | exact .nils | exact .own _ _ _ _ (by simp) | exact .ptr _ _ _ (by simp)), trivial⟩, (by simp), 0, ⟨rfl, by omega⟩, rfl⟩ ?_
  rintro m sl h' ⟨i, ⟨hm, hi⟩, hst⟩
  obtain ⟨rfl, rfl⟩ := St.mk.inj hst
  refine RunA.seq ?_
  refine RunA.region good ?_
  refine OpsA.pre 1 (by simp (maxSteps := 2000000) (disch := omega) only [go_sem, Nat.reduceBEq, Nat.reduceAdd, Nat.reduceSub, Nat.reduceLeDiff, Nat.reduceMul, reduceIte, reduceCtorEq, Int.reduceNeg, Int.reduceToNat, Nat.reduceLT, Int.reduceLE, Int.reduceLT, Int.reduceAdd, Int.reduceSub, Int.reduceMul, wrap64, append_ls, flat1, one_max, if_pos, if_neg]; rfl) ?_
  refine OpsA.nil ?_
  change RunA _ _ _ _ _
  refine RunA.seq ?_
  refine RunA.split 6 rfl (fun e1 => ?_) (fun e1 => ?_)
  · try simp only [e1]
    have qe1 := e1; try simp only [decide_eq_true_eq, decide_eq_false_iff_not, Bool.not_eq_true', Bool.not_eq_false', Bool.not_eq_eq_eq_not, Bool.not_true, Bool.not_false, Int.not_le, Int.not_lt, beq_iff_eq, bne_iff_ne, ge_iff_le, gt_iff_lt, beq_eq_false_iff_ne, ne_eq, bne_eq_false_iff_eq] at qe1
    refine RunA.condT rfl ?_
    refine RunA.skip ?_
    change RunA _ _ _ _ _
    refine RunA.seq ?_
    refine RunA.block ?_
    refine RunA.seq ?_
    refine RunA.region good ?_
    refine OpsA.pre 2 (by simp (maxSteps := 2000000) (disch := omega) only [go_sem, Nat.reduceBEq, Nat.reduceAdd, Nat.reduceSub, Nat.reduceLeDiff, Nat.reduceMul, reduceIte, reduceCtorEq, Int.reduceNeg, Int.reduceToNat, Nat.reduceLT, Int.reduceLE, Int.reduceLT, Int.reduceAdd, Int.reduceSub, Int.reduceMul, wrap64, append_ls, flat1, one_max, if_pos, if_neg]; rfl) ?_
    refine OpsA.nil ?_
    change RunA _ _ _ _ _
    refine RunA.seq ?_
    refine RunA.region good ?_
    refine OpsA.pre 2 (by simp (maxSteps := 2000000) (disch := omega) only [go_sem, Nat.reduceBEq, Nat.reduceAdd, Nat.reduceSub, Nat.reduceLeDiff, Nat.reduceMul, reduceIte, reduceCtorEq, Int.reduceNeg, Int.reduceToNat, Nat.reduceLT, Int.reduceLE, Int.reduceLT, Int.reduceAdd, Int.reduceSub, Int.reduceMul, wrap64, append_ls, flat1, one_max, if_pos, if_neg]; rfl) ?_
    refine OpsA.callQ rfl rfl rfl hb43 (c43N _ _ hs (by omega)) ?_
    refine OpsA.nil ?_
    change RunA _ _ _ _ _
    refine RunA.split 10 rfl (fun e2 => ?_) (fun e2 => ?_)
    · try simp only [e2]
      have qe2 := e2; try simp only [decide_eq_true_eq, decide_eq_false_iff_not, Bool.not_eq_true', Bool.not_eq_false', Bool.not_eq_eq_eq_not, Bool.not_true, Bool.not_false, Int.not_le, Int.not_lt, beq_iff_eq, bne_iff_ne, ge_iff_le, gt_iff_lt, beq_eq_false_iff_ne, ne_eq, bne_eq_false_iff_eq] at qe2
      refine RunA.condT rfl ?_
      refine RunA.region good ?_
      refine OpsA.pre 5 (by simp (maxSteps := 2000000) (disch := omega) only [go_sem, Nat.reduceBEq, Nat.reduceAdd, Nat.reduceSub, Nat.reduceLeDiff, Nat.reduceMul, reduceIte, reduceCtorEq, Int.reduceNeg, Int.reduceToNat, Nat.reduceLT, Int.reduceLE, Int.reduceLT, Int.reduceAdd, Int.reduceSub, Int.reduceMul, wrap64, append_ls, flat1, one_max, if_pos, if_neg]; rfl) ?_
      refine OpsA.nil ?_
      change RunA _ _ _ _ _
      refine RunA.region good ?_
      refine OpsA.pre 2 (by simp (maxSteps := 2000000) (disch := omega) only [go_sem, Nat.reduceBEq, Nat.reduceAdd, Nat.reduceSub, Nat.reduceLeDiff, Nat.reduceMul, reduceIte, reduceCtorEq, Int.reduceNeg, Int.reduceToNat, Nat.reduceLT, Int.reduceLE, Int.reduceLT, Int.reduceAdd, Int.reduceSub, Int.reduceMul, wrap64, append_ls, flat1, one_max, if_pos, if_neg]; rfl) ?_
      refine OpsA.nil ?_
      exact ⟨9 - (i + 1), by omega, [.int .i64 ((s : Nat) : Int), .any, .nils, .own h.length (lsN s (i + 1)).length 0 (lsN s (i + 1)).length, .any, .int .i64 (((i + 1) : Nat) : Int), .any, .any, .any, .any, .any, .any, .any, .any, .any, .any, .any], [outB 3 (lsN s (i + 1)).length ((lsN s (i + 1)).map cellN)], _, (by first | exact ls_blkT (by assumption) | exact ls_blkF (l2 := []) (by assumption)), Nat.le_refl _, ⟨(.inl (by first | rfl | (congr 1; omega) | (rw [lsT (by assumption), List.length_append]; rfl) | (rw [lsF (by assumption)]))), (.inr rfl), (.inl (by first | rfl | (congr 1; omega) | (rw [lsT (by assumption), List.length_append]; rfl) | (rw [lsF (by assumption)]))), (.inl (by first | rfl | (congr 1; omega) | (rw [lsT (by assumption), List.length_append]; rfl) | (rw [lsF (by assumption)]))), (.inr rfl), (.inl (by first | rfl | (congr 1; omega) | (rw [lsT (by assumption), List.length_append]; rfl) | (rw [lsF (by assumption)]))), (.inr rfl), (.inr rfl), (.inr rfl), (.inr rfl), (.inr rfl), (.inr rfl), (.inr rfl), (.inr rfl), (.inr rfl), (.inr rfl), (.inr rfl), trivial⟩, RefsL.get ⟨(by first | exact .any | exact .int _ _ | exact .bool _ | exact .vec _ _ | exact .nils | exact .own _ _ _ _ (by simp) | exact .ptr _ _ _ (by simp)), (by first | exact .any | exact .int _ _ | exact .bool _ | exact .vec _ _ | exact .nils | exact .own _ _ _ _ (by simp) | exact .ptr _ _ _ (by simp)), (by first | exact .any | exact .int _ _ | exact .bool _ | exact .vec _ _ | exact .nils | exact .own _ _ _ _ (by simp) | exact .ptr _ _ _ (by simp)), (by first | exact .any | exact .int _ _ | exact .bool _ | exact .vec _ _ | exact .nils | exact .own _ _ _ _ (by simp) | exact .ptr _ _ _ (by simp)), (by first | exact .any | exact .int _ _ | exact .bool _ | exact .vec _ _ | exact .nils | exact .own _ _ _ _ (by simp) | exact .ptr _ _ _ (by simp)), (by first | exact .any | exact .int _ _ | exact .bool _ | exact .vec _ _ | exact .nils | exact .own _ _ _ _ (by simp) | exact .ptr _ _ _ (by simp)), (by first | exact .any | exact .int _ _ | exact .bool _ | exact .vec _ _ | exact .nils | exact .own _ _ _ _ (by simp) | exact .ptr _ _ _ (by simp)), (by first | exact .any | exact .int _ _ | exact .bool _ | exact .vec _ _ | exact .nils | exact .own _ _ _ _ (by simp) | exact .ptr _ _ _ (by simp)), (by first | exact .any | exact .int _ _ | exact .bool _ | exact .vec _ _ | exact .nils | exact .own _ _ _ _ (by simp) | exact .ptr _ _ _ (by simp)), (by first | exact .any | exact .int _ _ | exact .bool _ | exact .vec _ _ | exact .nils | exact .own _ _ _ _ (by simp) | exact .ptr _ _ _ (by simp)), (by first | exact .any | exact .int _ _ | exact .bool _ | exact .vec _ _ | exact .nils | exact .own _ _ _ _ (by simp) | exact .ptr _ _ _ (by simp)), (by first | exact .any | exact .int _ _ | exact .bool _ | exact .vec _ _ | exact .nils | exact .own _ _ _ _ (by simp) | exact .ptr _ _ _ (by simp)), (by first | exact .any | exact .int _ _ | exact .bool _ | exact .vec _ _ | exact .nils | exact .own _ _ _ _ (by simp) | exact .ptr _ _ _ (by simp)), (by first | exact .any | exact .int _ _ | exact .bool _ | exact .vec _ _ | exact .nils | exact .own _ _ _ _ (by simp) | exact .ptr _ _ _ (by simp)), (by first | exact .any | exact .int _ _ | exact .bool _ | exact .vec _ _ | exact .nils | exact .own _ _ _ _ (by simp) | exact .ptr _ _ _ (by simp)), (by first | exact .any | exact .int _ _ | exact .bool _ | exact .vec _ _ | exact .nils | exact .own _ _ _ _ (by simp) | exact .ptr _ _ _ (by simp)), (by first | exact .any | exact .int _ _ | exact .bool _ | exact .vec _ _ | exact .nils | exact .own _ _ _ _ (by simp) | exact .ptr _ _ _ (by simp)), trivial⟩, ls_refs, (i + 1), ⟨rfl, by omega⟩, rfl⟩
    · try simp only [e2]
      have qe2 := e2; try simp only [decide_eq_true_eq, decide_eq_false_iff_not, Bool.not_eq_true', Bool.not_eq_false', Bool.not_eq_eq_eq_not, Bool.not_true, Bool.not_false, Int.not_le, Int.not_lt, beq_iff_eq, bne_iff_ne, ge_iff_le, gt_iff_lt, beq_eq_false_iff_ne, ne_eq, bne_eq_false_iff_eq] at qe2
      refine RunA.condF rfl ?_
      refine RunA.skip ?_
      change RunA _ _ _ _ _
      refine RunA.region good ?_
      refine OpsA.pre 2 (by simp (maxSteps := 2000000) (disch := omega) only [go_sem, Nat.reduceBEq, Nat.reduceAdd, Nat.reduceSub, Nat.reduceLeDiff, Nat.reduceMul, reduceIte, reduceCtorEq, Int.reduceNeg, Int.reduceToNat, Nat.reduceLT, Int.reduceLE, Int.reduceLT, Int.reduceAdd, Int.reduceSub, Int.reduceMul, wrap64, append_ls, flat1, one_max, if_pos, if_neg]; rfl) ?_
      refine OpsA.nil ?_
      exact ⟨9 - (i + 1), by omega, [.int .i64 ((s : Nat) : Int), .any, .nils, .own h.length (lsN s (i + 1)).length 0 (lsN s (i + 1)).length, .any, .int .i64 (((i + 1) : Nat) : Int), .any, .any, .any, .any, .any, .any, .any, .any, .any, .any, .any], [outB 3 (lsN s (i + 1)).length ((lsN s (i + 1)).map cellN)], _, (by first | exact ls_blkT (by assumption) | exact ls_blkF (l2 := []) (by assumption)), Nat.le_refl _, ⟨(.inl (by first | rfl | (congr 1; omega) | (rw [lsT (by assumption), List.length_append]; rfl) | (rw [lsF (by assumption)]))), (.inr rfl), (.inl (by first | rfl | (congr 1; omega) | (rw [lsT (by assumption), List.length_append]; rfl) | (rw [lsF (by assumption)]))), (.inl (by first | rfl | (congr 1; omega) | (rw [lsT (by assumption), List.length_append]; rfl) | (rw [lsF (by assumption)]))), (.inr rfl), (.inl (by first | rfl | (congr 1; omega) | (rw [lsT (by assumption), List.length_append]; rfl) | (rw [lsF (by assumption)]))), (.inr rfl), (.inr rfl), (.inr rfl), (.inr rfl), (.inr rfl), (.inr rfl), (.inr rfl), (.inr rfl), (.inr rfl), (.inr rfl), (.inr rfl), trivial⟩, RefsL.get ⟨(by first | exact .any | exact .int _ _ | exact .bool _ | exact .vec _ _ | exact .nils | exact .own _ _ _ _ (by simp) | exact .ptr _ _ _ (by simp)), (by first | exact .any | exact .int _ _ | exact .bool _ | exact .vec _ _ | exact .nils | exact .own _ _ _ _ (by simp) | exact .ptr _ _ _ (by simp)), (by first | exact .any | exact .int _ _ | exact .bool _ | exact .vec _ _ | exact .nils | exact .own _ _ _ _ (by simp) | exact .ptr _ _ _ (by simp)), (by first | exact .any | exact .int _ _ | exact .bool _ | exact .vec _ _ | exact .nils | exact .own _ _ _ _ (by simp) | exact .ptr _ _ _ (by simp)), (by first | exact .any | exact .int _ _ | exact .bool _ | exact .vec _ _ | exact .nils | exact .own _ _ _ _ (by simp) | exact .ptr _ _ _ (by simp)), (by first | exact .any | exact .int _ _ | exact .bool _ | exact .vec _ _ | exact .nils | exact .own _ _ _ _ (by simp) | exact .ptr _ _ _ (by simp)), (by first | exact .any | exact .int _ _ | exact .bool _ | exact .vec _ _ | exact .nils | exact .own _ _ _ _ (by simp) | exact .ptr _ _ _ (by simp)), (by first | exact .any | exact .int _ _ | exact .bool _ | exact .vec _ _ | exact .nils | exact .own _ _ _ _ (by simp) | exact .ptr _ _ _ (by simp)), (by first | exact .any | exact .int _ _ | exact .bool _ | exact .vec _ _ | exact .nils | exact .own _ _ _ _ (by simp) | exact .ptr _ _ _ (by simp)), (by first | exact .any | exact .int _ _ | exact .bool _ | exact .vec _ _ | exact .nils | exact .own _ _ _ _ (by simp) | exact .ptr _ _ _ (by simp)), (by first | exact .any | exact .int _ _ | exact .bool _ | exact .vec _ _ | exact .nils | exact .own _ _ _ _ (by simp) | exact .ptr _ _ _ (by simp)), (by first | exact .any | exact .int _ _ | exact .bool _ | exact .vec _ _ | exact .nils | exact .own _ _ _ _ (by simp) | exact .ptr _ _ _ (by simp)), (by first | exact .any | exact .int _ _ | exact .bool _ | exact .vec _ _ | exact .nils | exact .own _ _ _ _ (by simp) | exact .ptr _ _ _ (by simp)), (by first | exact .any | exact .int _ _ | exact .bool _ | exact .vec _ _ | exact .nils | exact .own _ _ _ _ (by simp) | exact .ptr _ _ _ (by simp)), (by first | exact .any | exact .int _ _ | exact .bool _ | exact .vec _ _ | exact .nils | exact .own _ _ _ _ (by simp) | exact .ptr _ _ _ (by simp)), (by first | exact .any | exact .int _ _ | exact .bool _ | exact .vec _ _ | exact .nils | exact .own _ _ _ _ (by simp) | exact .ptr _ _ _ (by simp)), (by first | exact .any | exact .int _ _ | exact .bool _ | exact .vec _ _ | exact .nils | exact .own _ _ _ _ (by simp) | exact .ptr _ _ _ (by simp)), trivial⟩, ls_refs, (i + 1), ⟨rfl, by omega⟩, rfl⟩
  · try simp only [e1]
    have qe1 := e1; try simp only [decide_eq_true_eq, decide_eq_false_iff_not, Bool.not_eq_true', Bool.not_eq_false', Bool.not_eq_eq_eq_not, Bool.not_true, Bool.not_false, Int.not_le, Int.not_lt, beq_iff_eq, bne_iff_ne, ge_iff_le, gt_iff_lt, beq_eq_false_iff_ne, ne_eq, bne_eq_false_iff_eq] at qe1
    refine RunA.condF rfl ?_
    refine RunA.exit ?_
    change RunA _ _ _ _ _
    refine RunA.seq ?_
    refine RunA.region good ?_
    refine OpsA.pre 2 (by simp (maxSteps := 2000000) (disch := omega) only [go_sem, Nat.reduceBEq, Nat.reduceAdd, Nat.reduceSub, Nat.reduceLeDiff, Nat.reduceMul, reduceIte, reduceCtorEq, Int.reduceNeg, Int.reduceToNat, Nat.reduceLT, Int.reduceLE, Int.reduceLT, Int.reduceAdd, Int.reduceSub, Int.reduceMul, wrap64, append_ls, flat1, one_max, if_pos, if_neg]; rfl) ?_
    refine OpsA.nil ?_
    change RunA _ _ _ _ _
    refine RunA.ret ?_
    refine Ends.mk (by simp only [res42, resA, resAs, resA1]; first | rfl | (simp (maxSteps := 2000000) (disch := omega) only [go_sem, Nat.reduceBEq, Nat.reduceAdd, Nat.reduceSub, Nat.reduceLeDiff, Nat.reduceMul, reduceIte, reduceCtorEq, Int.reduceNeg, Int.reduceToNat, Nat.reduceLT, Int.reduceLE, Int.reduceLT, Int.reduceAdd, Int.reduceSub, Int.reduceMul, wrap64, append_ls, flat1, one_max, if_pos, if_neg]; rfl)) ?_
    exact ⟨_, _, rfl, by first | rfl | exact frz_out (by simp) ls_int, by (show AV.vec _ _ = _; rw [show i = 9 from by omega]; rfl)⟩

theorem shl1K {m : Nat} (h1 : m ≤ 8) : IntKind.wrap .i64 (1 * 2 ^ (min ((m : Int) + 1).toNat (IntKind.bits .i64))) = ((2 ^ (m + 1) : Nat) : Int) := by
  have := shl1N (e := (m : Int) + 1) (by omega) (by omega)
  have e : ((m : Int) + 1).toNat = m + 1 := by omega
  rw [e] at this ⊢
  exact this
theorem full_lt {m : Nat} (h1 : m ≤ 8) : ((2 ^ (m + 1) : Nat) : Int) ≤ 512 := by
  have := (pow_le h1).2
  omega
theorem c44 {h : Heap} (k : Nat) (hk : k ≤ 8) : CallA Try.prog cfg 44 [.int .i64 ((k : Nat) : Int)] h (fun y' h' => y' = .int .i64 (IntKind.wrap .i64 (((2 ^ (k + 1) : Nat) : Int) - 1)) ∧ h' = h) := by
  refine CallA.body (Q := fun y' => y' = .int .i64 (IntKind.wrap .i64 (((2 ^ (k + 1) : Nat) : Int) - 1))) good fn44 rfl ?_
  simp only [ntm44, List.length_cons, List.length_nil, Nat.reduceAdd, Nat.reduceSub, List.replicate, List.cons_append, List.nil_append]
  refine RunA.seq ?_
  refine RunA.region good ?_
  refine OpsA.pre 1 (by simp (maxSteps := 2000000) (disch := omega) only [go_sem, Nat.reduceBEq, Nat.reduceAdd, Nat.reduceSub, Nat.reduceLeDiff, Nat.reduceMul, reduceIte, reduceCtorEq, Int.reduceNeg, Int.reduceToNat, Nat.reduceLT, Int.reduceLE, Int.reduceLT, Int.reduceAdd, Int.reduceSub, Int.reduceMul, maxLenI, wrap64, read1N, over1N, flat0N, shl1N, shl1M, List.length_set, List.length_replicate, Int.toNat_natCast_add_one, shl1K]; rfl) ?_
  refine OpsA.nil ?_
  change RunA _ _ _ _ _
  refine RunA.seq ?_
  refine RunA.region good ?_
  refine OpsA.pre 5 (by simp (maxSteps := 2000000) (disch := omega) only [go_sem, Nat.reduceBEq, Nat.reduceAdd, Nat.reduceSub, Nat.reduceLeDiff, Nat.reduceMul, reduceIte, reduceCtorEq, Int.reduceNeg, Int.reduceToNat, Nat.reduceLT, Int.reduceLE, Int.reduceLT, Int.reduceAdd, Int.reduceSub, Int.reduceMul, maxLenI, wrap64, read1N, over1N, flat0N, shl1N, shl1M, List.length_set, List.length_replicate, Int.toNat_natCast_add_one, shl1K]; rfl) ?_
  refine OpsA.nil ?_
  change RunA _ _ _ _ _
  refine RunA.ret ?_
  refine Ends.mk (by simp only [res44, resA, resAs, resA1]; first | rfl | (simp (maxSteps := 2000000) (disch := omega) only [go_sem, Nat.reduceBEq, Nat.reduceAdd, Nat.reduceSub, Nat.reduceLeDiff, Nat.reduceMul, reduceIte, reduceCtorEq, Int.reduceNeg, Int.reduceToNat, Nat.reduceLT, Int.reduceLE, Int.reduceLT, Int.reduceAdd, Int.reduceSub, Int.reduceMul, maxLenI, wrap64, read1N, over1N, flat0N, shl1N, shl1M, List.length_set, List.length_replicate, Int.toNat_natCast_add_one, shl1K]; rfl)) ?_
  exact ⟨[], _, (List.append_nil _).symm, by first | rfl | rfl, by rfl⟩

theorem ls_mem {s i x : Nat} (h : x ∈ lsN s i) : x < i := by
  have := (List.mem_filter.1 h).1
  simpa using this
theorem ls_get {s j : Nat} : (lsN s 9).getD j 0 ≤ 8 := by
  rw [List.getD_eq_getElem?_getD]
  cases h : (lsN s 9)[j]? with
  | none => simp
  | some y => have := ls_mem (List.mem_of_getElem? h); simp; omega
theorem ls_sorted {s i j : Nat} (h : j + 1 < (lsN s i).length) : (lsN s i).getD j 0 < (lsN s i).getD (j + 1) 0 := by
  have hp : (lsN s i).Pairwise (· < ·) := List.Pairwise.filter _ List.pairwise_lt_range
  have := List.pairwise_iff_getElem.1 hp j (j + 1) (by omega) h (by omega)
  simpa [List.getD, h, show j < (lsN s i).length from by omega] using this
def sumN (l : List Nat) : Nat → Nat
  | 0 => 0
  | i + 1 => sumN l i + 2 ^ l.getD i 0
theorem sum_le {s : Nat} : ∀ i, sumN (lsN s 9) i ≤ 256 * i
  | 0 => by simp [sumN]
  | i + 1 => by
    have ih := sum_le (s := s) i
    have h1 : 2 ^ (lsN s 9).getD i 0 ≤ 2 ^ 8 := Nat.pow_le_pow_right (by decide) ls_get
    simp only [sumN]
    omega
theorem sum_all : ((List.range 512).all fun s => sumN (lsN s 9) (lsN s 9).length == s) = true := by kernel_rfl
theorem sum_eq {s : Nat} (hs : s < 512) : sumN (lsN s 9) (lsN s 9).length = s := by
  have := List.all_eq_true.1 sum_all s (List.mem_range.2 hs)
  simpa using this
theorem c40S {h : Heap} {x : Int} {S : Nat} (hS : withinN x ((2 ^ (8 + 1) : Nat) : Int) = S) : CallA Try.prog cfg 40 [.int .i64 x, .int .i64 8] h (fun y' h' => y' = .int .i64 ((S : Nat) : Int) ∧ h' = h) := by
  rw [← hS]
  exact c40 x 8 (by omega)
theorem sum_next {s i : Nat} : ((sumN (lsN s 9) i : Nat) : Int) + ((2 ^ (lsN s 9).getD i 0 : Nat) : Int) = ((sumN (lsN s 9) (i + 1) : Nat) : Int) := by
  simp only [sumN]
  omega
theorem int_prev {i : Nat} (h : 0 < i) : ((i : Int) - 1).toNat = i - 1 := by omega
def plan11_8 : Plan := ⟨[[], [], [0, 1], [0, 1, 2], [0, 1, 2, 3], [0, 1, 2, 3, 4], [0, 1, 2, 3, 4, 5], [0, 1, 2, 3, 4, 5], [0, 1, 2, 3, 4, 5, 6, 7], [0, 1, 2, 3, 4, 5, 6, 7, 8], [0, 1, 2, 3, 4, 5, 6, 7, 8, 9], [0, 1, 2, 3, 4, 5, 6, 7, 8, 9, 10], [0, 1, 2, 3, 4, 5, 6, 7, 8, 9, 10, 11], [0, 1, 2, 3, 4, 5, 6, 7, 8, 9, 10, 11, 12], [0, 1, 2, 3, 4, 5, 6, 7, 8, 9, 10, 11, 12, 13], [0, 1, 2, 3, 4, 5, 6, 7, 8, 9, 10, 11, 12, 13, 14], [0, 1, 2, 3, 4, 5, 6, 7, 8, 9, 10, 11, 12, 13, 14, 15], [0, 1, 2, 3, 4, 5, 6, 7, 8, 9, 10, 11, 12, 13, 14, 15], [0, 1, 2, 3, 4, 5, 6, 7, 8, 9, 10, 11, 12, 13, 14, 15, 16, 17], [0, 1, 2, 3, 4, 5, 6, 7, 8, 9, 10, 11, 12, 13, 14, 15, 16, 17, 18], [0, 1, 2, 3, 4, 5, 6, 7, 8, 9, 10, 11, 12, 13, 14, 15], [0, 1, 2, 3, 4, 5, 6, 7, 8, 9, 10, 11, 12, 13, 14, 15], [0, 1, 2, 3, 4, 5, 6, 7, 8, 9, 10, 11, 12, 13, 14, 15, 21], [0, 1, 2, 3, 4, 5, 6, 7, 8, 9, 10, 11, 12, 13, 14, 15, 20, 21, 22], [0, 1, 2, 3, 4, 5, 6, 7, 8, 9, 10, 11, 12, 13, 14, 15, 20, 21, 22, 23], [0, 1, 2, 3, 4, 5, 6, 7, 8, 9, 10, 11, 12, 13, 14, 15, 16, 17, 18, 19, 20, 21, 22, 23, 24], [0, 1, 2, 3, 4, 5, 6, 7, 8, 9, 10, 11, 12, 13, 14, 15, 16, 17, 18, 19, 20, 21, 22, 23, 24, 25], [0, 1, 2, 3, 4, 5, 6, 7, 8, 9, 10, 11, 12, 13, 14, 15, 16, 17, 18, 19, 20, 21, 22, 23, 24, 25, 26]], [false, false, false, false, false, false, false, false, false, false, false, false, false, false, false, false, false, false, false, false, false, false, false, false, false, false, false, false]⟩
theorem plan11_8E (i : Nat) : plan11_8.isE i = [false, false, false, false, false, false, false, false, false, false, false, false, false, false, false, false, false, false, false, false, false, false, false, false, false, false, false, false].getD i false := rfl

def plan11_16 : Plan := ⟨[[], [], [0, 1], [0, 1, 2], [0, 1, 2, 3], [0, 1, 2, 3, 4], [0, 1, 2, 3], [0, 1, 2, 3, 6], [0, 1, 2, 3, 6, 7], [0, 1, 2, 3, 6, 7, 8], [0, 1, 2, 3, 4, 5, 6, 7, 8, 9], [0, 1, 2, 3, 4, 5, 6, 7, 8, 9, 10], [0, 1, 2, 3, 4, 5, 6, 7, 8, 9, 10, 11], [0, 1, 2, 3, 4, 5, 6, 7, 8, 9, 10, 11, 12], [0, 1, 2, 3, 4, 5, 6, 7, 8, 9, 10, 11, 12], [0, 1, 2, 3, 4, 5, 6, 7, 8, 9, 10, 11, 12, 13, 14], [0, 1, 2, 3, 4, 5, 6, 7, 8, 9, 10, 11, 12], [0, 1, 2, 3, 4, 5, 6, 7, 8, 9, 10, 11, 12], [0, 1, 2, 3, 4, 5, 6, 7, 8, 9, 10, 11, 12, 13, 14, 15, 16, 17], [0, 1, 2, 3, 4, 5, 6, 7, 8, 9, 10, 11, 12, 13, 14, 15, 16, 17, 18], [0, 1, 2, 3, 4, 5, 6, 7, 8, 9, 10, 11, 12, 13, 14, 15, 16, 17, 18, 19], [0, 1, 2, 3, 4, 5, 6, 7, 8, 9, 10, 11, 12, 13, 14, 15, 16, 17, 18, 19, 20], [0, 1, 2, 3, 4, 5, 6, 7, 8, 9, 10, 11, 12, 13, 14, 15, 16, 17, 18, 19, 20, 21], [0, 1, 2, 3, 4, 5, 6, 7, 8, 9, 10, 11, 12, 13, 14, 15, 16, 17, 18, 19, 20, 21, 22], [0, 1, 2, 3, 4, 5, 6, 7, 8, 9, 10, 11, 12, 13, 14, 15, 16, 17, 18, 19, 20, 21], [0, 1, 2, 3, 4, 5, 6, 7, 8, 9, 10, 11, 12, 13, 14, 15, 16, 17, 18, 19, 20, 21, 22, 23, 24], [0, 1, 2, 3, 4, 5, 6, 7, 8, 9, 10, 11, 12, 13, 14, 15, 16, 17, 18, 19, 20, 21, 22, 23, 24, 25], [0, 1, 2, 3, 4, 5, 6, 7, 8, 9, 10, 11, 12, 13, 14, 15, 16, 17, 18, 19, 20, 21, 22, 23, 24, 25, 26], [0, 1, 2, 3, 4, 5, 6, 7, 8, 9, 10, 11, 12, 13, 14, 15, 16, 17, 18, 19, 20, 21, 22, 23, 24, 25, 26, 27], [0, 1, 2, 3, 4, 5, 6, 7, 8, 9, 10, 11, 12, 13, 14, 15, 16, 17, 18, 19, 20, 21, 22, 23, 24, 25, 26, 27, 28], [0, 1, 2, 3, 4, 5, 6, 7, 8, 9, 10, 11, 12, 13, 14, 15, 16, 17, 18, 19, 20, 21, 22, 23, 24, 25, 26, 27, 28, 29], [0, 1, 2, 3, 4, 5, 6, 7, 8, 9, 10, 11, 12, 13, 14, 15, 16, 17, 18, 19, 20, 21, 22, 23, 24, 25, 26, 27, 28, 29, 30]], [false, false, false, false, false, false, false, false, false, false, false, false, false, false, false, false, false, false, false, false, false, false, false, false, false, false, false, false, false, false, false, false]⟩
theorem plan11_16E (i : Nat) : plan11_16.isE i = [false, false, false, false, false, false, false, false, false, false, false, false, false, false, false, false, false, false, false, false, false, false, false, false, false, false, false, false, false, false, false, false].getD i false := rfl

theorem c11 {h : Heap} (x n d : Int) (re : Bool) (z : Int) : CallA Try.prog cfg 11 [.int .i64 x, .int .i64 n, .int .i64 d, .bool re, .int .i64 z] h (fun y' h' => y' = .bool true ∧ h' = h) := by
  obtain ⟨k, hk⟩ := Int.eq_ofNat_of_zero_le (@within_lo n 9 (by omega))
  have hk8 : k ≤ 8 := by have := @within_hi n 9 (by omega); omega
  obtain ⟨S, hSd⟩ : ∃ S, withinN x ((2 ^ (8 + 1) : Nat) : Int) = S := ⟨_, rfl⟩
  have hs : S < 512 := by rw [← hSd]; exact set_lt _ (by omega)
  refine CallA.body (Q := fun y' => y' = .bool true) good fn11 rfl ?_
  simp only [ntm11, List.length_cons, List.length_nil, Nat.reduceAdd, Nat.reduceSub, List.replicate, List.cons_append, List.nil_append]
  refine RunA.seq ?_
  refine RunA.region good ?_
  refine OpsA.pre 1 (by simp (maxSteps := 2000000) (disch := omega) only [go_sem, Nat.reduceBEq, Nat.reduceAdd, Nat.reduceSub, Nat.reduceLeDiff, Nat.reduceMul, reduceIte, reduceCtorEq, Int.reduceNeg, Int.reduceToNat, Nat.reduceLT, Int.reduceLE, Int.reduceLT, Int.reduceAdd, Int.reduceSub, Int.reduceMul, maxLenI, wrap64, read1N, over1N, flat0N, shl1N, shl1M, List.length_set, List.length_replicate, Int.toNat_natCast_add_one, shl1K, int_prev, eq_self, beq_self_eq_true, if_pos, if_neg]; rfl) ?_
  refine OpsA.nil ?_
  change RunA _ _ _ _ _
  refine RunA.seq ?_
  refine RunA.region good ?_
  refine OpsA.pre 1 (by simp (maxSteps := 2000000) (disch := omega) only [go_sem, Nat.reduceBEq, Nat.reduceAdd, Nat.reduceSub, Nat.reduceLeDiff, Nat.reduceMul, reduceIte, reduceCtorEq, Int.reduceNeg, Int.reduceToNat, Nat.reduceLT, Int.reduceLE, Int.reduceLT, Int.reduceAdd, Int.reduceSub, Int.reduceMul, maxLenI, wrap64, read1N, over1N, flat0N, shl1N, shl1M, List.length_set, List.length_replicate, Int.toNat_natCast_add_one, shl1K, int_prev, eq_self, beq_self_eq_true, if_pos, if_neg]; rfl) ?_
  refine OpsA.callQ rfl rfl rfl hb31 (c31 n k hk) ?_
  refine OpsA.pre 1 (by simp (maxSteps := 2000000) (disch := omega) only [go_sem, Nat.reduceBEq, Nat.reduceAdd, Nat.reduceSub, Nat.reduceLeDiff, Nat.reduceMul, reduceIte, reduceCtorEq, Int.reduceNeg, Int.reduceToNat, Nat.reduceLT, Int.reduceLE, Int.reduceLT, Int.reduceAdd, Int.reduceSub, Int.reduceMul, maxLenI, wrap64, read1N, over1N, flat0N, shl1N, shl1M, List.length_set, List.length_replicate, Int.toNat_natCast_add_one, shl1K, int_prev, eq_self, beq_self_eq_true, if_pos, if_neg]; rfl) ?_
  refine OpsA.nil ?_
  change RunA _ _ _ _ _
  refine RunA.seq ?_
  refine RunA.region good ?_
  refine OpsA.pre 1 (by simp (maxSteps := 2000000) (disch := omega) only [go_sem, Nat.reduceBEq, Nat.reduceAdd, Nat.reduceSub, Nat.reduceLeDiff, Nat.reduceMul, reduceIte, reduceCtorEq, Int.reduceNeg, Int.reduceToNat, Nat.reduceLT, Int.reduceLE, Int.reduceLT, Int.reduceAdd, Int.reduceSub, Int.reduceMul, maxLenI, wrap64, read1N, over1N, flat0N, shl1N, shl1M, List.length_set, List.length_replicate, Int.toNat_natCast_add_one, shl1K, int_prev, eq_self, beq_self_eq_true, if_pos, if_neg]; rfl) ?_
  refine OpsA.callQ rfl rfl rfl hb40 (c40S hSd) ?_
  refine OpsA.pre 1 (by simp (maxSteps := 2000000) (disch := omega) only [go_sem, Nat.reduceBEq, Nat.reduceAdd, Nat.reduceSub, Nat.reduceLeDiff, Nat.reduceMul, reduceIte, reduceCtorEq, Int.reduceNeg, Int.reduceToNat, Nat.reduceLT, Int.reduceLE, Int.reduceLT, Int.reduceAdd, Int.reduceSub, Int.reduceMul, maxLenI, wrap64, read1N, over1N, flat0N, shl1N, shl1M, List.length_set, List.length_replicate, Int.toNat_natCast_add_one, shl1K, int_prev, eq_self, beq_self_eq_true, if_pos, if_neg]; rfl) ?_
  refine OpsA.nil ?_
  change RunA _ _ _ _ _
  refine RunA.seq ?_
  refine RunA.region good ?_
  refine OpsA.pre 1 (by simp (maxSteps := 2000000) (disch := omega) only [go_sem, Nat.reduceBEq, Nat.reduceAdd, Nat.reduceSub, Nat.reduceLeDiff, Nat.reduceMul, reduceIte, reduceCtorEq, Int.reduceNeg, Int.reduceToNat, Nat.reduceLT, Int.reduceLE, Int.reduceLT, Int.reduceAdd, Int.reduceSub, Int.reduceMul, maxLenI, wrap64, read1N, over1N, flat0N, shl1N, shl1M, List.length_set, List.length_replicate, Int.toNat_natCast_add_one, shl1K, int_prev, eq_self, beq_self_eq_true, if_pos, if_neg]; rfl) ?_
  refine OpsA.callQ rfl rfl rfl hb42 (c42 _ hs) ?_
  refine OpsA.pre 1 (by simp (maxSteps := 2000000) (disch := omega) only [go_sem, Nat.reduceBEq, Nat.reduceAdd, Nat.reduceSub, Nat.reduceLeDiff, Nat.reduceMul, reduceIte, reduceCtorEq, Int.reduceNeg, Int.reduceToNat, Nat.reduceLT, Int.reduceLE, Int.reduceLT, Int.reduceAdd, Int.reduceSub, Int.reduceMul, maxLenI, wrap64, read1N, over1N, flat0N, shl1N, shl1M, List.length_set, List.length_replicate, Int.toNat_natCast_add_one, shl1K, int_prev, eq_self, beq_self_eq_true, if_pos, if_neg]; rfl) ?_
  refine OpsA.nil ?_
  change RunA _ _ _ _ _
  refine RunA.seq ?_
  refine RunA.region good ?_
  refine OpsA.pre 1 (by simp (maxSteps := 2000000) (disch := omega) only [go_sem, Nat.reduceBEq, Nat.reduceAdd, Nat.reduceSub, Nat.reduceLeDiff, Nat.reduceMul, reduceIte, reduceCtorEq, Int.reduceNeg, Int.reduceToNat, Nat.reduceLT, Int.reduceLE, Int.reduceLT, Int.reduceAdd, Int.reduceSub, Int.reduceMul, maxLenI, wrap64, read1N, over1N, flat0N, shl1N, shl1M, List.length_set, List.length_replicate, Int.toNat_natCast_add_one, shl1K, int_prev, eq_self, beq_self_eq_true, if_pos, if_neg]; rfl) ?_
  refine OpsA.nil ?_
  change RunA _ _ _ _ _
  refine RunA.seq ?_
  refine RunA.seq ?_
  refine RunA.region good ?_
  refine OpsA.pre 1 (by simp (maxSteps := 2000000) (disch := omega) only [go_sem, Nat.reduceBEq, Nat.reduceAdd, Nat.reduceSub, Nat.reduceLeDiff, Nat.reduceMul, reduceIte, reduceCtorEq, Int.reduceNeg, Int.reduceToNat, Nat.reduceLT, Int.reduceLE, Int.reduceLT, Int.reduceAdd, Int.reduceSub, Int.reduceMul, maxLenI, wrap64, read1N, over1N, flat0N, shl1N, shl1M, List.length_set, List.length_replicate, Int.toNat_natCast_add_one, shl1K, int_prev, eq_self, beq_self_eq_true, if_pos, if_neg]; rfl) ?_
  refine OpsA.nil ?_
  change RunA _ _ _ _ _
  refine RunA.block ?_
  refine RunA.loopL (fun m st => ∃ (i : Nat), (m = (lsN S 9).length - i ∧ i ≤ (lsN S 9).length) ∧ st = ⟨[.int .i64 x, .int .i64 n, .int .i64 d, .bool re, .int .i64 z, .any, .any, .any, .any, .any, .bool false, .int .i64 ((k : Nat) : Int), .int .i64 ((S : Nat) : Int), vecN (lsN S 9), .int .i64 ((sumN (lsN S 9) i : Nat) : Int), .int .i64 ((i : Nat) : Int), .any, .any, .any, .any, .any, .any, .any, .any, .any, .any, .any, .any, .any, .any, .any, .any, .any, .any, .any, .any, .any, .any, .any, .any, .any, .any, .any, .any, .any, .any, .any, .any, .any, .any, .any, .any, .any, .any, .any, .any, .any, .any, .any, .any, .any, .any, .any, .any, .any, .any, .any, .any, .any, .any, .any, .any, .any, .any, .any, .any, .any, .any, .any, .any, .any, .any, .any, .any, .any, .any, .any, .any, .any, .any, .any, .any, .any, .any, .any, .any, .any, .any, .any, .any, .any, .any, .any, .any, .any, .any, .any, .any, .any, .any, .any, .any, .any, .any], h⟩) _ ⟨[.int .i64 x, .int .i64 n, .int .i64 d, .bool re, .int .i64 z, .any, .any, .any, .any, .any, .bool false, .int .i64 ((k : Nat) : Int), .int .i64 ((S : Nat) : Int), vecN (lsN S 9), .int .i64 ((sumN (lsN S 9) 0 : Nat) : Int), .int .i64 ((0 : Nat) : Int), .any, .any, .any, .any, .any, .any, .any, .any, .any, .any, .any, .any, .any, .any, .any, .any, .any, .any, .any, .any, .any, .any, .any, .any, .any, .any, .any, .any, .any, .any, .any, .any, .any, .any, .any, .any, .any, .any, .any, .any, .any, .any, .any, .any, .any, .any, .any, .any, .any, .any, .any, .any, .any, .any, .any, .any, .any, .any, .any, .any, .any, .any, .any, .any, .any, .any, .any, .any, .any, .any, .any, .any, .any, .any, .any, .any, .any, .any, .any, .any, .any, .any, .any, .any, .any, .any, .any, .any, .any, .any, .any, .any, .any, .any, .any, .any, .any, .any], ⟨(.inl (by first | rfl | (congr 1; omega) | (rw [sum_next]))), (.inl (by first | rfl | (congr 1; omega) | (rw [sum_next]))), (.inl (by first | rfl | (congr 1; omega) | (rw [sum_next]))), (.inl (by first | rfl | (congr 1; omega) | (rw [sum_next]))), (.inl (by first | rfl | (congr 1; omega) | (rw [sum_next]))), (.inr rfl), (.inr rfl), (.inr rfl), (.inr rfl), (.inr rfl), (.inl (by first | rfl | (congr 1; omega) | (rw [sum_next]))), (.inl (by first | rfl | (congr 1; omega) | (rw [sum_next]))), (.inl (by first | rfl | (congr 1; omega) | (rw [sum_next]))), (.inl (by first | rfl | (congr 1; omega) | (rw [sum_next]))), (.inl (by first | rfl | (congr 1; omega) | (rw [sum_next]))), (.inl (by first | rfl | (congr 1; omega) | (rw [sum_next]))), (.inr rfl), (.inr rfl), (.inr rfl), (.inr rfl), (.inr rfl), (.inr rfl), (.inr rfl), (.inr rfl), (.inr rfl), (.inr rfl), (.inr rfl), (.inr rfl), (.inr rfl), (.inr rfl), (.inr rfl), (.inr rfl), (.inr rfl), (.inr rfl), (.inr rfl), (.inr rfl), (.inr rfl), (.inr rfl), (.inr rfl), (.inr rfl), (.inr rfl), (.inr rfl), (.inr rfl), (.inr rfl), (.inr rfl), (.inr rfl), (.inr rfl), (.inr rfl), (.inr rfl), (.inr rfl), (.inr rfl), (.inr rfl), (.inr rfl), (.inr rfl), (.inr rfl), (.inr rfl), (.inr rfl), (.inr rfl), (.inr rfl), (.inr rfl), (.inr rfl), (.inr rfl), (.inr rfl), (.inr rfl), (.inr rfl), (.inr rfl), (.inr rfl), (.inr rfl), (.inr rfl), (.inr rfl), (.inr rfl), (.inr rfl), (.inr rfl), (.inr rfl), (.inr rfl), (.inr rfl), (.inr rfl), (.inr rfl), (.inr rfl), (.inr rfl), (.inr rfl), (.inr rfl), (.inr rfl), (.inr rfl), (.inr rfl), (.inr rfl), (.inr rfl), (.inr rfl), (.inr rfl), (.inr rfl), (.inr rfl), (.inr rfl), (.inr rfl), (.inr rfl), (.inr rfl), (.inr rfl), (.inr rfl), (.inr rfl), (.inr rfl), (.inr rfl), (.inr rfl), (.inr rfl), (.inr rfl), (.inr rfl), (.inr rfl), (.inr rfl), (.inr rfl), (.inr rfl), (.inr rfl), (.inr rfl), (.inr rfl), (.inr rfl), (.inr rfl), (.inr rfl), trivial⟩, 0, ⟨rfl, by omega⟩, rfl⟩ ?_
  rintro m sl h' ⟨i, ⟨hm, hi⟩, hst⟩
  obtain ⟨rfl, rfl⟩ := St.mk.inj hst
  have hg := @ls_get S i
  have hsum := @sum_le S i
  have hsum1 := @sum_le S (i + 1)
  have hp : 2 ^ (lsN S 9).getD i 0 ≤ 2 ^ 8 := Nat.pow_le_pow_right (by decide) hg
  have hll := ls_len S 9
  have hp0 : 0 < 2 ^ (lsN S 9).getD i 0 := Nat.two_pow_pos _
  refine RunA.seq ?_
  refine RunA.seq ?_
  refine RunA.region good ?_
  refine OpsA.pre 4 (by simp (maxSteps := 2000000) (disch := omega) only [go_sem, Nat.reduceBEq, Nat.reduceAdd, Nat.reduceSub, Nat.reduceLeDiff, Nat.reduceMul, reduceIte, reduceCtorEq, Int.reduceNeg, Int.reduceToNat, Nat.reduceLT, Int.reduceLE, Int.reduceLT, Int.reduceAdd, Int.reduceSub, Int.reduceMul, maxLenI, wrap64, read1N, over1N, flat0N, shl1N, shl1M, List.length_set, List.length_replicate, Int.toNat_natCast_add_one, shl1K, int_prev, eq_self, beq_self_eq_true, if_pos, if_neg]; rfl) ?_
  refine OpsA.nil ?_
  change RunA _ _ _ _ _
  refine RunA.split 26 rfl (fun e1 => ?_) (fun e1 => ?_)
  · try simp only [e1]
    have qe1 := e1; try simp only [decide_eq_true_eq, decide_eq_false_iff_not, Bool.not_eq_true', Bool.not_eq_false', Bool.not_eq_eq_eq_not, Bool.not_true, Bool.not_false, Int.not_le, Int.not_lt, beq_iff_eq, bne_iff_ne, ge_iff_le, gt_iff_lt, beq_eq_false_iff_ne, ne_eq, bne_eq_false_iff_eq] at qe1
    refine RunA.condT rfl ?_
    refine RunA.skip ?_
    change RunA _ _ _ _ _
    refine RunA.seq ?_
    refine RunA.block ?_
    refine RunA.seq ?_
    refine RunA.seq ?_
    refine RunA.solo good plan11_8 (by kernel_rfl) (by kernel_rfl) ?_
    refine OpsS.pre 6 (by simp (maxSteps := 2000000) (disch := omega) only [go_sem, Nat.reduceBEq, Nat.reduceAdd, Nat.reduceSub, Nat.reduceLeDiff, Nat.reduceMul, reduceIte, reduceCtorEq, Int.reduceNeg, Int.reduceToNat, Nat.reduceLT, Int.reduceLE, Int.reduceLT, Int.reduceAdd, Int.reduceSub, Int.reduceMul, maxLenI, wrap64, read1N, over1N, flat0N, shl1N, shl1M, List.length_set, List.length_replicate, Int.toNat_natCast_add_one, shl1K, int_prev, eq_self, beq_self_eq_true, if_pos, if_neg, plan11_8E]; rfl) ?_
    refine OpsS.split 34 rfl (fun e2 => ?_) (fun e2 => ?_)
    · exfalso; simp only [decide_eq_true_eq] at e2; omega
    · try simp only [e2]
      have qe2 := e2; try simp only [decide_eq_true_eq, decide_eq_false_iff_not, Bool.not_eq_true', Bool.not_eq_false', Bool.not_eq_eq_eq_not, Bool.not_true, Bool.not_false, Int.not_le, Int.not_lt, beq_iff_eq, bne_iff_ne, ge_iff_le, gt_iff_lt, beq_eq_false_iff_ne, ne_eq, bne_eq_false_iff_eq] at qe2
      refine OpsS.pre 6 (by simp (maxSteps := 2000000) (disch := omega) only [go_sem, Nat.reduceBEq, Nat.reduceAdd, Nat.reduceSub, Nat.reduceLeDiff, Nat.reduceMul, reduceIte, reduceCtorEq, Int.reduceNeg, Int.reduceToNat, Nat.reduceLT, Int.reduceLE, Int.reduceLT, Int.reduceAdd, Int.reduceSub, Int.reduceMul, maxLenI, wrap64, read1N, over1N, flat0N, shl1N, shl1M, List.length_set, List.length_replicate, Int.toNat_natCast_add_one, shl1K, int_prev, eq_self, beq_self_eq_true, if_pos, if_neg, plan11_8E]; rfl) ?_
      refine OpsS.pre 1 (by simp (maxSteps := 2000000) (disch := omega) only [go_sem, Nat.reduceBEq, Nat.reduceAdd, Nat.reduceSub, Nat.reduceLeDiff, Nat.reduceMul, reduceIte, reduceCtorEq, Int.reduceNeg, Int.reduceToNat, Nat.reduceLT, Int.reduceLE, Int.reduceLT, Int.reduceAdd, Int.reduceSub, Int.reduceMul, maxLenI, wrap64, read1N, over1N, flat0N, shl1N, shl1M, List.length_set, List.length_replicate, Int.toNat_natCast_add_one, shl1K, int_prev, eq_self, beq_self_eq_true, if_pos, if_neg, plan11_8E]; rfl) ?_
      refine OpsS.split 41 rfl (fun e3 => ?_) (fun e3 => ?_)
      · exfalso; simp only [decide_eq_true_eq] at e3; omega
      · try simp only [e3]
        have qe3 := e3; try simp only [decide_eq_true_eq, decide_eq_false_iff_not, Bool.not_eq_true', Bool.not_eq_false', Bool.not_eq_eq_eq_not, Bool.not_true, Bool.not_false, Int.not_le, Int.not_lt, beq_iff_eq, bne_iff_ne, ge_iff_le, gt_iff_lt, beq_eq_false_iff_ne, ne_eq, bne_eq_false_iff_eq] at qe3
        refine OpsS.pre 3 (by simp (maxSteps := 2000000) (disch := omega) only [go_sem, Nat.reduceBEq, Nat.reduceAdd, Nat.reduceSub, Nat.reduceLeDiff, Nat.reduceMul, reduceIte, reduceCtorEq, Int.reduceNeg, Int.reduceToNat, Nat.reduceLT, Int.reduceLE, Int.reduceLT, Int.reduceAdd, Int.reduceSub, Int.reduceMul, maxLenI, wrap64, read1N, over1N, flat0N, shl1N, shl1M, List.length_set, List.length_replicate, Int.toNat_natCast_add_one, shl1K, int_prev, eq_self, beq_self_eq_true, if_pos, if_neg, plan11_8E]; rfl) ?_
        refine OpsS.split 44 rfl (fun e4 => ?_) (fun e4 => ?_)
        · try simp only [e4]
          have qe4 := e4; try simp only [decide_eq_true_eq, decide_eq_false_iff_not, Bool.not_eq_true', Bool.not_eq_false', Bool.not_eq_eq_eq_not, Bool.not_true, Bool.not_false, Int.not_le, Int.not_lt, beq_iff_eq, bne_iff_ne, ge_iff_le, gt_iff_lt, beq_eq_false_iff_ne, ne_eq, bne_eq_false_iff_eq] at qe4
          refine OpsS.pre 6 (by simp (maxSteps := 2000000) (disch := omega) only [go_sem, Nat.reduceBEq, Nat.reduceAdd, Nat.reduceSub, Nat.reduceLeDiff, Nat.reduceMul, reduceIte, reduceCtorEq, Int.reduceNeg, Int.reduceToNat, Nat.reduceLT, Int.reduceLE, Int.reduceLT, Int.reduceAdd, Int.reduceSub, Int.reduceMul, maxLenI, wrap64, read1N, over1N, flat0N, shl1N, shl1M, List.length_set, List.length_replicate, Int.toNat_natCast_add_one, shl1K, int_prev, eq_self, beq_self_eq_true, if_pos, if_neg, plan11_8E]; rfl) ?_
          refine OpsS.pre 6 (by simp (maxSteps := 2000000) (disch := omega) only [go_sem, Nat.reduceBEq, Nat.reduceAdd, Nat.reduceSub, Nat.reduceLeDiff, Nat.reduceMul, reduceIte, reduceCtorEq, Int.reduceNeg, Int.reduceToNat, Nat.reduceLT, Int.reduceLE, Int.reduceLT, Int.reduceAdd, Int.reduceSub, Int.reduceMul, maxLenI, wrap64, read1N, over1N, flat0N, shl1N, shl1M, List.length_set, List.length_replicate, Int.toNat_natCast_add_one, shl1K, int_prev, eq_self, beq_self_eq_true, if_pos, if_neg, plan11_8E]; rfl) ?_
          show _
          change RunA _ _ _ _ _
          refine RunA.split 56 rfl (fun e5 => ?_) (fun e5 => ?_)
          · exfalso; first | (cases e5; done) | (simp only [decide_eq_true_eq, int_prev (show 0 < i from by omega)] at *; have hst2 := @ls_sorted S 9 (i - 1) (by omega); rw [show i - 1 + 1 = i from by omega] at hst2; omega)
          · try simp only [e5]
            have qe5 := e5; try simp only [decide_eq_true_eq, decide_eq_false_iff_not, Bool.not_eq_true', Bool.not_eq_false', Bool.not_eq_eq_eq_not, Bool.not_true, Bool.not_false, Int.not_le, Int.not_lt, beq_iff_eq, bne_iff_ne, ge_iff_le, gt_iff_lt, beq_eq_false_iff_ne, ne_eq, bne_eq_false_iff_eq] at qe5
            refine RunA.condF rfl ?_
            refine RunA.skip ?_
            change RunA _ _ _ _ _
            refine RunA.region good ?_
            refine OpsA.pre 6 (by simp (maxSteps := 2000000) (disch := omega) only [go_sem, Nat.reduceBEq, Nat.reduceAdd, Nat.reduceSub, Nat.reduceLeDiff, Nat.reduceMul, reduceIte, reduceCtorEq, Int.reduceNeg, Int.reduceToNat, Nat.reduceLT, Int.reduceLE, Int.reduceLT, Int.reduceAdd, Int.reduceSub, Int.reduceMul, maxLenI, wrap64, read1N, over1N, flat0N, shl1N, shl1M, List.length_set, List.length_replicate, Int.toNat_natCast_add_one, shl1K, int_prev, eq_self, beq_self_eq_true, if_pos, if_neg]; rfl) ?_
            refine OpsA.pre 2 (by simp (maxSteps := 2000000) (disch := omega) only [go_sem, Nat.reduceBEq, Nat.reduceAdd, Nat.reduceSub, Nat.reduceLeDiff, Nat.reduceMul, reduceIte, reduceCtorEq, Int.reduceNeg, Int.reduceToNat, Nat.reduceLT, Int.reduceLE, Int.reduceLT, Int.reduceAdd, Int.reduceSub, Int.reduceMul, maxLenI, wrap64, read1N, over1N, flat0N, shl1N, shl1M, List.length_set, List.length_replicate, Int.toNat_natCast_add_one, shl1K, int_prev, eq_self, beq_self_eq_true, if_pos, if_neg]; rfl) ?_
            refine OpsA.nil ?_
            change RunA _ _ _ _ _
            refine RunA.region good ?_
            refine OpsA.pre 3 (by simp (maxSteps := 2000000) (disch := omega) only [go_sem, Nat.reduceBEq, Nat.reduceAdd, Nat.reduceSub, Nat.reduceLeDiff, Nat.reduceMul, reduceIte, reduceCtorEq, Int.reduceNeg, Int.reduceToNat, Nat.reduceLT, Int.reduceLE, Int.reduceLT, Int.reduceAdd, Int.reduceSub, Int.reduceMul, maxLenI, wrap64, read1N, over1N, flat0N, shl1N, shl1M, List.length_set, List.length_replicate, Int.toNat_natCast_add_one, shl1K, int_prev, eq_self, beq_self_eq_true, if_pos, if_neg]; rfl) ?_
            refine OpsA.nil ?_
            exact ⟨(lsN S 9).length - (i + 1), by omega, [.int .i64 x, .int .i64 n, .int .i64 d, .bool re, .int .i64 z, .any, .any, .any, .any, .any, .bool false, .int .i64 ((k : Nat) : Int), .int .i64 ((S : Nat) : Int), vecN (lsN S 9), .int .i64 ((sumN (lsN S 9) (i + 1) : Nat) : Int), .int .i64 (((i + 1) : Nat) : Int), .any, .any, .any, .any, .any, .any, .any, .any, .any, .any, .any, .any, .any, .any, .any, .any, .any, .any, .any, .any, .any, .any, .any, .any, .any, .any, .any, .any, .any, .any, .any, .any, .any, .any, .any, .any, .any, .any, .any, .any, .any, .any, .any, .any, .any, .any, .any, .any, .any, .any, .any, .any, .any, .any, .any, .any, .any, .any, .any, .any, .any, .any, .any, .any, .any, .any, .any, .any, .any, .any, .any, .any, .any, .any, .any, .any, .any, .any, .any, .any, .any, .any, .any, .any, .any, .any, .any, .any, .any, .any, .any, .any, .any, .any, .any, .any, .any, .any], ⟨(.inl (by first | rfl | (congr 1; omega) | (rw [sum_next]))), (.inl (by first | rfl | (congr 1; omega) | (rw [sum_next]))), (.inl (by first | rfl | (congr 1; omega) | (rw [sum_next]))), (.inl (by first | rfl | (congr 1; omega) | (rw [sum_next]))), (.inl (by first | rfl | (congr 1; omega) | (rw [sum_next]))), (.inr rfl), (.inr rfl), (.inr rfl), (.inr rfl), (.inr rfl), (.inl (by first | rfl | (congr 1; omega) | (rw [sum_next]))), (.inl (by first | rfl | (congr 1; omega) | (rw [sum_next]))), (.inl (by first | rfl | (congr 1; omega) | (rw [sum_next]))), (.inl (by first | rfl | (congr 1; omega) | (rw [sum_next]))), (.inl (by first | rfl | (congr 1; omega) | (rw [sum_next]))), (.inl (by first | rfl | (congr 1; omega) | (rw [sum_next]))), (.inr rfl), (.inr rfl), (.inr rfl), (.inr rfl), (.inr rfl), (.inr rfl), (.inr rfl), (.inr rfl), (.inr rfl), (.inr rfl), (.inr rfl), (.inr rfl), (.inr rfl), (.inr rfl), (.inr rfl), (.inr rfl), (.inr rfl), (.inr rfl), (.inr rfl), (.inr rfl), (.inr rfl), (.inr rfl), (.inr rfl), (.inr rfl), (.inr rfl), (.inr rfl), (.inr rfl), (.inr rfl), (.inr rfl), (.inr rfl), (.inr rfl), (.inr rfl), (.inr rfl), (.inr rfl), (.inr rfl), (.inr rfl), (.inr rfl), (.inr rfl), (.inr rfl), (.inr rfl), (.inr rfl), (.inr rfl), (.inr rfl), (.inr rfl), (.inr rfl), (.inr rfl), (.inr rfl), (.inr rfl), (.inr rfl), (.inr rfl), (.inr rfl), (.inr rfl), (.inr rfl), (.inr rfl), (.inr rfl), (.inr rfl), (.inr rfl), (.inr rfl), (.inr rfl), (.inr rfl), (.inr rfl), (.inr rfl), (.inr rfl), (.inr rfl), (.inr rfl), (.inr rfl), (.inr rfl), (.inr rfl), (.inr rfl), (.inr rfl), (.inr rfl), (.inr rfl), (.inr rfl), (.inr rfl), (.inr rfl), (.inr rfl), (.inr rfl), (.inr rfl), (.inr rfl), (.inr rfl), (.inr rfl), (.inr rfl), (.inr rfl), (.inr rfl), (.inr rfl), (.inr rfl), (.inr rfl), (.inr rfl), (.inr rfl), (.inr rfl), (.inr rfl), (.inr rfl), (.inr rfl), (.inr rfl), (.inr rfl), (.inr rfl), (.inr rfl), (.inr rfl), trivial⟩, (i + 1), ⟨rfl, by omega⟩, rfl⟩
        · try simp only [e4]
          have qe4 := e4; try simp only [decide_eq_true_eq, decide_eq_false_iff_not, Bool.not_eq_true', Bool.not_eq_false', Bool.not_eq_eq_eq_not, Bool.not_true, Bool.not_false, Int.not_le, Int.not_lt, beq_iff_eq, bne_iff_ne, ge_iff_le, gt_iff_lt, beq_eq_false_iff_ne, ne_eq, bne_eq_false_iff_eq] at qe4
          refine OpsS.pre 6 (by simp (maxSteps := 2000000) (disch := omega) only [go_sem, Nat.reduceBEq, Nat.reduceAdd, Nat.reduceSub, Nat.reduceLeDiff, Nat.reduceMul, reduceIte, reduceCtorEq, Int.reduceNeg, Int.reduceToNat, Nat.reduceLT, Int.reduceLE, Int.reduceLT, Int.reduceAdd, Int.reduceSub, Int.reduceMul, maxLenI, wrap64, read1N, over1N, flat0N, shl1N, shl1M, List.length_set, List.length_replicate, Int.toNat_natCast_add_one, shl1K, int_prev, eq_self, beq_self_eq_true, if_pos, if_neg]; rfl) ?_
          refine OpsS.pre 6 (by simp (maxSteps := 2000000) (disch := omega) only [go_sem, Nat.reduceBEq, Nat.reduceAdd, Nat.reduceSub, Nat.reduceLeDiff, Nat.reduceMul, reduceIte, reduceCtorEq, Int.reduceNeg, Int.reduceToNat, Nat.reduceLT, Int.reduceLE, Int.reduceLT, Int.reduceAdd, Int.reduceSub, Int.reduceMul, maxLenI, wrap64, read1N, over1N, flat0N, shl1N, shl1M, List.length_set, List.length_replicate, Int.toNat_natCast_add_one, shl1K, int_prev, eq_self, beq_self_eq_true, if_pos, if_neg]; rfl) ?_
          show _
          change RunA _ _ _ _ _
          refine RunA.condF rfl ?_
          refine RunA.skip ?_
          change RunA _ _ _ _ _
          refine RunA.region good ?_
          refine OpsA.pre 6 (by simp (maxSteps := 2000000) (disch := omega) only [go_sem, Nat.reduceBEq, Nat.reduceAdd, Nat.reduceSub, Nat.reduceLeDiff, Nat.reduceMul, reduceIte, reduceCtorEq, Int.reduceNeg, Int.reduceToNat, Nat.reduceLT, Int.reduceLE, Int.reduceLT, Int.reduceAdd, Int.reduceSub, Int.reduceMul, maxLenI, wrap64, read1N, over1N, flat0N, shl1N, shl1M, List.length_set, List.length_replicate, Int.toNat_natCast_add_one, shl1K, int_prev, eq_self, beq_self_eq_true, if_pos, if_neg]; rfl) ?_
          refine OpsA.pre 2 (by simp (maxSteps := 2000000) (disch := omega) only [go_sem, Nat.reduceBEq, Nat.reduceAdd, Nat.reduceSub, Nat.reduceLeDiff, Nat.reduceMul, reduceIte, reduceCtorEq, Int.reduceNeg, Int.reduceToNat, Nat.reduceLT, Int.reduceLE, Int.reduceLT, Int.reduceAdd, Int.reduceSub, Int.reduceMul, maxLenI, wrap64, read1N, over1N, flat0N, shl1N, shl1M, List.length_set, List.length_replicate, Int.toNat_natCast_add_one, shl1K, int_prev, eq_self, beq_self_eq_true, if_pos, if_neg]; rfl) ?_
          refine OpsA.nil ?_
          change RunA _ _ _ _ _
          refine RunA.region good ?_
          refine OpsA.pre 3 (by simp (maxSteps := 2000000) (disch := omega) only [go_sem, Nat.reduceBEq, Nat.reduceAdd, Nat.reduceSub, Nat.reduceLeDiff, Nat.reduceMul, reduceIte, reduceCtorEq, Int.reduceNeg, Int.reduceToNat, Nat.reduceLT, Int.reduceLE, Int.reduceLT, Int.reduceAdd, Int.reduceSub, Int.reduceMul, maxLenI, wrap64, read1N, over1N, flat0N, shl1N, shl1M, List.length_set, List.length_replicate, Int.toNat_natCast_add_one, shl1K, int_prev, eq_self, beq_self_eq_true, if_pos, if_neg]; rfl) ?_
          refine OpsA.nil ?_
          exact ⟨(lsN S 9).length - (i + 1), by omega, [.int .i64 x, .int .i64 n, .int .i64 d, .bool re, .int .i64 z, .any, .any, .any, .any, .any, .bool false, .int .i64 ((k : Nat) : Int), .int .i64 ((S : Nat) : Int), vecN (lsN S 9), .int .i64 ((sumN (lsN S 9) (i + 1) : Nat) : Int), .int .i64 (((i + 1) : Nat) : Int), .any, .any, .any, .any, .any, .any, .any, .any, .any, .any, .any, .any, .any, .any, .any, .any, .any, .any, .any, .any, .any, .any, .any, .any, .any, .any, .any, .any, .any, .any, .any, .any, .any, .any, .any, .any, .any, .any, .any, .any, .any, .any, .any, .any, .any, .any, .any, .any, .any, .any, .any, .any, .any, .any, .any, .any, .any, .any, .any, .any, .any, .any, .any, .any, .any, .any, .any, .any, .any, .any, .any, .any, .any, .any, .any, .any, .any, .any, .any, .any, .any, .any, .any, .any, .any, .any, .any, .any, .any, .any, .any, .any, .any, .any, .any, .any, .any, .any], ⟨(.inl (by first | rfl | (congr 1; omega) | (rw [sum_next]))), (.inl (by first | rfl | (congr 1; omega) | (rw [sum_next]))), (.inl (by first | rfl | (congr 1; omega) | (rw [sum_next]))), (.inl (by first | rfl | (congr 1; omega) | (rw [sum_next]))), (.inl (by first | rfl | (congr 1; omega) | (rw [sum_next]))), (.inr rfl), (.inr rfl), (.inr rfl), (.inr rfl), (.inr rfl), (.inl (by first | rfl | (congr 1; omega) | (rw [sum_next]))), (.inl (by first | rfl | (congr 1; omega) | (rw [sum_next]))), (.inl (by first | rfl | (congr 1; omega) | (rw [sum_next]))), (.inl (by first | rfl | (congr 1; omega) | (rw [sum_next]))), (.inl (by first | rfl | (congr 1; omega) | (rw [sum_next]))), (.inl (by first | rfl | (congr 1; omega) | (rw [sum_next]))), (.inr rfl), (.inr rfl), (.inr rfl), (.inr rfl), (.inr rfl), (.inr rfl), (.inr rfl), (.inr rfl), (.inr rfl), (.inr rfl), (.inr rfl), (.inr rfl), (.inr rfl), (.inr rfl), (.inr rfl), (.inr rfl), (.inr rfl), (.inr rfl), (.inr rfl), (.inr rfl), (.inr rfl), (.inr rfl), (.inr rfl), (.inr rfl), (.inr rfl), (.inr rfl), (.inr rfl), (.inr rfl), (.inr rfl), (.inr rfl), (.inr rfl), (.inr rfl), (.inr rfl), (.inr rfl), (.inr rfl), (.inr rfl), (.inr rfl), (.inr rfl), (.inr rfl), (.inr rfl), (.inr rfl), (.inr rfl), (.inr rfl), (.inr rfl), (.inr rfl), (.inr rfl), (.inr rfl), (.inr rfl), (.inr rfl), (.inr rfl), (.inr rfl), (.inr rfl), (.inr rfl), (.inr rfl), (.inr rfl), (.inr rfl), (.inr rfl), (.inr rfl), (.inr rfl), (.inr rfl), (.inr rfl), (.inr rfl), (.inr rfl), (.inr rfl), (.inr rfl), (.inr rfl), (.inr rfl), (.inr rfl), (.inr rfl), (.inr rfl), (.inr rfl), (.inr rfl), (.inr rfl), (.inr rfl), (.inr rfl), (.inr rfl), (.inr rfl), (.inr rfl), (.inr rfl), (.inr rfl), (.inr rfl), (.inr rfl), (.inr rfl), (.inr rfl), (.inr rfl), (.inr rfl), (.inr rfl), (.inr rfl), (.inr rfl), (.inr rfl), (.inr rfl), (.inr rfl), (.inr rfl), (.inr rfl), (.inr rfl), (.inr rfl), (.inr rfl), (.inr rfl), trivial⟩, (i + 1), ⟨rfl, by omega⟩, rfl⟩
  · try simp only [e1]
    have qe1 := e1; try simp only [decide_eq_true_eq, decide_eq_false_iff_not, Bool.not_eq_true', Bool.not_eq_false', Bool.not_eq_eq_eq_not, Bool.not_true, Bool.not_false, Int.not_le, Int.not_lt, beq_iff_eq, bne_iff_ne, ge_iff_le, gt_iff_lt, beq_eq_false_iff_ne, ne_eq, bne_eq_false_iff_eq] at qe1
    refine RunA.condF rfl ?_
    refine RunA.exit ?_
    have hil : i = (lsN S 9).length := by omega
    subst hil
    have hsq := sum_eq hs
    change RunA _ _ _ _ _
    refine RunA.seq ?_
    refine RunA.region good ?_
    refine OpsA.pre 2 (by simp (maxSteps := 2000000) (disch := omega) only [go_sem, Nat.reduceBEq, Nat.reduceAdd, Nat.reduceSub, Nat.reduceLeDiff, Nat.reduceMul, reduceIte, reduceCtorEq, Int.reduceNeg, Int.reduceToNat, Nat.reduceLT, Int.reduceLE, Int.reduceLT, Int.reduceAdd, Int.reduceSub, Int.reduceMul, maxLenI, wrap64, read1N, over1N, flat0N, shl1N, shl1M, List.length_set, List.length_replicate, Int.toNat_natCast_add_one, shl1K, int_prev, eq_self, beq_self_eq_true, if_pos, if_neg]; rfl) ?_
    refine OpsA.callQ rfl rfl rfl hb16 (c16N _ _ (by omega) (by omega)) ?_
    refine OpsA.pre 3 (by simp (maxSteps := 2000000) (disch := omega) only [go_sem, Nat.reduceBEq, Nat.reduceAdd, Nat.reduceSub, Nat.reduceLeDiff, Nat.reduceMul, reduceIte, reduceCtorEq, Int.reduceNeg, Int.reduceToNat, Nat.reduceLT, Int.reduceLE, Int.reduceLT, Int.reduceAdd, Int.reduceSub, Int.reduceMul, maxLenI, wrap64, read1N, over1N, flat0N, shl1N, shl1M, List.length_set, List.length_replicate, Int.toNat_natCast_add_one, shl1K, int_prev, eq_self, beq_self_eq_true, if_pos, if_neg]; rfl) ?_
    refine OpsA.nil ?_
    change RunA _ _ _ _ _
    refine RunA.seq ?_
    refine RunA.seq ?_
    refine RunA.region good ?_
    refine OpsA.pre 1 (by simp (maxSteps := 2000000) (disch := omega) only [go_sem, Nat.reduceBEq, Nat.reduceAdd, Nat.reduceSub, Nat.reduceLeDiff, Nat.reduceMul, reduceIte, reduceCtorEq, Int.reduceNeg, Int.reduceToNat, Nat.reduceLT, Int.reduceLE, Int.reduceLT, Int.reduceAdd, Int.reduceSub, Int.reduceMul, maxLenI, wrap64, read1N, over1N, flat0N, shl1N, shl1M, List.length_set, List.length_replicate, Int.toNat_natCast_add_one, shl1K, int_prev, eq_self, beq_self_eq_true, if_pos, if_neg]; rfl) ?_
    refine OpsA.nil ?_
    change RunA _ _ _ _ _
    refine RunA.split 68 rfl (fun e6 => ?_) (fun e6 => ?_)
    · try simp only [e6]
      have qe6 := e6; try simp only [decide_eq_true_eq, decide_eq_false_iff_not, Bool.not_eq_true', Bool.not_eq_false', Bool.not_eq_eq_eq_not, Bool.not_true, Bool.not_false, Int.not_le, Int.not_lt, beq_iff_eq, bne_iff_ne, ge_iff_le, gt_iff_lt, beq_eq_false_iff_ne, ne_eq, bne_eq_false_iff_eq] at qe6
      refine RunA.condT rfl ?_
      refine RunA.region good ?_
      refine OpsA.pre 2 (by simp (maxSteps := 2000000) (disch := omega) only [go_sem, Nat.reduceBEq, Nat.reduceAdd, Nat.reduceSub, Nat.reduceLeDiff, Nat.reduceMul, reduceIte, reduceCtorEq, Int.reduceNeg, Int.reduceToNat, Nat.reduceLT, Int.reduceLE, Int.reduceLT, Int.reduceAdd, Int.reduceSub, Int.reduceMul, maxLenI, wrap64, read1N, over1N, flat0N, shl1N, shl1M, List.length_set, List.length_replicate, Int.toNat_natCast_add_one, shl1K, int_prev, eq_self, beq_self_eq_true, if_pos, if_neg]; rfl) ?_
      refine OpsA.nil ?_
      change RunA _ _ _ _ _
      refine RunA.seq ?_
      refine RunA.seq ?_
      refine RunA.region good ?_
      refine OpsA.pre 3 (by simp (maxSteps := 2000000) (disch := omega) only [go_sem, Nat.reduceBEq, Nat.reduceAdd, Nat.reduceSub, Nat.reduceLeDiff, Nat.reduceMul, reduceIte, reduceCtorEq, Int.reduceNeg, Int.reduceToNat, Nat.reduceLT, Int.reduceLE, Int.reduceLT, Int.reduceAdd, Int.reduceSub, Int.reduceMul, maxLenI, wrap64, read1N, over1N, flat0N, shl1N, shl1M, List.length_set, List.length_replicate, Int.toNat_natCast_add_one, shl1K, int_prev, eq_self, beq_self_eq_true, if_pos, if_neg]; rfl) ?_
      refine OpsA.split 72 rfl (fun e7 => ?_) (fun e7 => ?_)
      · try simp only [e7]
        have qe7 := e7; try simp only [decide_eq_true_eq, decide_eq_false_iff_not, Bool.not_eq_true', Bool.not_eq_false', Bool.not_eq_eq_eq_not, Bool.not_true, Bool.not_false, Int.not_le, Int.not_lt, beq_iff_eq, bne_iff_ne, ge_iff_le, gt_iff_lt, beq_eq_false_iff_ne, ne_eq, bne_eq_false_iff_eq] at qe7
        refine OpsA.pre 3 (by simp (maxSteps := 2000000) (disch := omega) only [go_sem, Nat.reduceBEq, Nat.reduceAdd, Nat.reduceSub, Nat.reduceLeDiff, Nat.reduceMul, reduceIte, reduceCtorEq, Int.reduceNeg, Int.reduceToNat, Nat.reduceLT, Int.reduceLE, Int.reduceLT, Int.reduceAdd, Int.reduceSub, Int.reduceMul, maxLenI, wrap64, read1N, over1N, flat0N, shl1N, shl1M, List.length_set, List.length_replicate, Int.toNat_natCast_add_one, shl1K, int_prev, eq_self, beq_self_eq_true, if_pos, if_neg]; rfl) ?_
        refine OpsA.nil ?_
        change RunA _ _ _ _ _
        refine RunA.condT rfl ?_
        refine RunA.seq ?_
        refine RunA.region good ?_
        refine OpsA.pre 2 (by simp (maxSteps := 2000000) (disch := omega) only [go_sem, Nat.reduceBEq, Nat.reduceAdd, Nat.reduceSub, Nat.reduceLeDiff, Nat.reduceMul, reduceIte, reduceCtorEq, Int.reduceNeg, Int.reduceToNat, Nat.reduceLT, Int.reduceLE, Int.reduceLT, Int.reduceAdd, Int.reduceSub, Int.reduceMul, maxLenI, wrap64, read1N, over1N, flat0N, shl1N, shl1M, List.length_set, List.length_replicate, Int.toNat_natCast_add_one, shl1K, int_prev, eq_self, beq_self_eq_true, if_pos, if_neg]; rfl) ?_
        refine OpsA.callQ rfl rfl rfl hb43 (c43 _ _ hs) ?_
        refine OpsA.pre 2 (by simp (maxSteps := 2000000) (disch := omega) only [go_sem, Nat.reduceBEq, Nat.reduceAdd, Nat.reduceSub, Nat.reduceLeDiff, Nat.reduceMul, reduceIte, reduceCtorEq, Int.reduceNeg, Int.reduceToNat, Nat.reduceLT, Int.reduceLE, Int.reduceLT, Int.reduceAdd, Int.reduceSub, Int.reduceMul, maxLenI, wrap64, read1N, over1N, flat0N, shl1N, shl1M, List.length_set, List.length_replicate, Int.toNat_natCast_add_one, shl1K, int_prev, eq_self, beq_self_eq_true, if_pos, if_neg]; rfl) ?_
        refine OpsA.split 80 rfl (fun e8 => ?_) (fun e8 => ?_)
        · try simp only [e8]
          have qe8 := e8; try simp only [decide_eq_true_eq, decide_eq_false_iff_not, Bool.not_eq_true', Bool.not_eq_false', Bool.not_eq_eq_eq_not, Bool.not_true, Bool.not_false, Int.not_le, Int.not_lt, beq_iff_eq, bne_iff_ne, ge_iff_le, gt_iff_lt, beq_eq_false_iff_ne, ne_eq, bne_eq_false_iff_eq] at qe8
          refine OpsA.callQ rfl rfl rfl hb38 (c38) ?_
          refine OpsA.pre 2 (by simp (maxSteps := 2000000) (disch := omega) only [go_sem, Nat.reduceBEq, Nat.reduceAdd, Nat.reduceSub, Nat.reduceLeDiff, Nat.reduceMul, reduceIte, reduceCtorEq, Int.reduceNeg, Int.reduceToNat, Nat.reduceLT, Int.reduceLE, Int.reduceLT, Int.reduceAdd, Int.reduceSub, Int.reduceMul, maxLenI, wrap64, read1N, over1N, flat0N, shl1N, shl1M, List.length_set, List.length_replicate, Int.toNat_natCast_add_one, shl1K, int_prev, eq_self, beq_self_eq_true, if_pos, if_neg]; rfl) ?_
          refine OpsA.nil ?_
          change RunA _ _ _ _ _
          refine RunA.ret ?_
          refine Ends.mk (by simp only [res11, resA, resAs, resA1]; first | rfl | (simp (maxSteps := 2000000) (disch := omega) only [go_sem, Nat.reduceBEq, Nat.reduceAdd, Nat.reduceSub, Nat.reduceLeDiff, Nat.reduceMul, reduceIte, reduceCtorEq, Int.reduceNeg, Int.reduceToNat, Nat.reduceLT, Int.reduceLE, Int.reduceLT, Int.reduceAdd, Int.reduceSub, Int.reduceMul, maxLenI, wrap64, read1N, over1N, flat0N, shl1N, shl1M, List.length_set, List.length_replicate, Int.toNat_natCast_add_one, shl1K, int_prev, eq_self, beq_self_eq_true, if_pos, if_neg]; rfl)) ?_
          exact ⟨_, _, rfl, by first | rfl | (simp only [frzT, frzP, optMap, get_app, get_app0]; rfl), by rfl⟩
        · exfalso; first | (cases e8; done) | (exact absurd e8 (by decide)) | (simp [hsq] at e8; done) | (simp [hasB] at e8; omega)
      · try simp only [e7]
        have qe7 := e7; try simp only [decide_eq_true_eq, decide_eq_false_iff_not, Bool.not_eq_true', Bool.not_eq_false', Bool.not_eq_eq_eq_not, Bool.not_true, Bool.not_false, Int.not_le, Int.not_lt, beq_iff_eq, bne_iff_ne, ge_iff_le, gt_iff_lt, beq_eq_false_iff_ne, ne_eq, bne_eq_false_iff_eq] at qe7
        refine OpsA.pre 3 (by simp (maxSteps := 2000000) (disch := omega) only [go_sem, Nat.reduceBEq, Nat.reduceAdd, Nat.reduceSub, Nat.reduceLeDiff, Nat.reduceMul, reduceIte, reduceCtorEq, Int.reduceNeg, Int.reduceToNat, Nat.reduceLT, Int.reduceLE, Int.reduceLT, Int.reduceAdd, Int.reduceSub, Int.reduceMul, maxLenI, wrap64, read1N, over1N, flat0N, shl1N, shl1M, List.length_set, List.length_replicate, Int.toNat_natCast_add_one, shl1K, int_prev, eq_self, beq_self_eq_true, if_pos, if_neg]; rfl) ?_
        refine OpsA.nil ?_
        change RunA _ _ _ _ _
        refine RunA.split 75 rfl (fun e9 => ?_) (fun e9 => ?_)
        · try simp only [e9]
          have qe9 := e9; try simp only [decide_eq_true_eq, decide_eq_false_iff_not, Bool.not_eq_true', Bool.not_eq_false', Bool.not_eq_eq_eq_not, Bool.not_true, Bool.not_false, Int.not_le, Int.not_lt, beq_iff_eq, bne_iff_ne, ge_iff_le, gt_iff_lt, beq_eq_false_iff_ne, ne_eq, bne_eq_false_iff_eq] at qe9
          refine RunA.condT rfl ?_
          refine RunA.seq ?_
          refine RunA.region good ?_
          refine OpsA.pre 2 (by simp (maxSteps := 2000000) (disch := omega) only [go_sem, Nat.reduceBEq, Nat.reduceAdd, Nat.reduceSub, Nat.reduceLeDiff, Nat.reduceMul, reduceIte, reduceCtorEq, Int.reduceNeg, Int.reduceToNat, Nat.reduceLT, Int.reduceLE, Int.reduceLT, Int.reduceAdd, Int.reduceSub, Int.reduceMul, maxLenI, wrap64, read1N, over1N, flat0N, shl1N, shl1M, List.length_set, List.length_replicate, Int.toNat_natCast_add_one, shl1K, int_prev, eq_self, beq_self_eq_true, if_pos, if_neg]; rfl) ?_
          refine OpsA.callQ rfl rfl rfl hb43 (c43 _ _ hs) ?_
          refine OpsA.pre 2 (by simp (maxSteps := 2000000) (disch := omega) only [go_sem, Nat.reduceBEq, Nat.reduceAdd, Nat.reduceSub, Nat.reduceLeDiff, Nat.reduceMul, reduceIte, reduceCtorEq, Int.reduceNeg, Int.reduceToNat, Nat.reduceLT, Int.reduceLE, Int.reduceLT, Int.reduceAdd, Int.reduceSub, Int.reduceMul, maxLenI, wrap64, read1N, over1N, flat0N, shl1N, shl1M, List.length_set, List.length_replicate, Int.toNat_natCast_add_one, shl1K, int_prev, eq_self, beq_self_eq_true, if_pos, if_neg]; rfl) ?_
          refine OpsA.split 80 rfl (fun e10 => ?_) (fun e10 => ?_)
          · try simp only [e10]
            have qe10 := e10; try simp only [decide_eq_true_eq, decide_eq_false_iff_not, Bool.not_eq_true', Bool.not_eq_false', Bool.not_eq_eq_eq_not, Bool.not_true, Bool.not_false, Int.not_le, Int.not_lt, beq_iff_eq, bne_iff_ne, ge_iff_le, gt_iff_lt, beq_eq_false_iff_ne, ne_eq, bne_eq_false_iff_eq] at qe10
            refine OpsA.callQ rfl rfl rfl hb38 (c38) ?_
            refine OpsA.pre 2 (by simp (maxSteps := 2000000) (disch := omega) only [go_sem, Nat.reduceBEq, Nat.reduceAdd, Nat.reduceSub, Nat.reduceLeDiff, Nat.reduceMul, reduceIte, reduceCtorEq, Int.reduceNeg, Int.reduceToNat, Nat.reduceLT, Int.reduceLE, Int.reduceLT, Int.reduceAdd, Int.reduceSub, Int.reduceMul, maxLenI, wrap64, read1N, over1N, flat0N, shl1N, shl1M, List.length_set, List.length_replicate, Int.toNat_natCast_add_one, shl1K, int_prev, eq_self, beq_self_eq_true, if_pos, if_neg]; rfl) ?_
            refine OpsA.nil ?_
            change RunA _ _ _ _ _
            refine RunA.ret ?_
            refine Ends.mk (by simp only [res11, resA, resAs, resA1]; first | rfl | (simp (maxSteps := 2000000) (disch := omega) only [go_sem, Nat.reduceBEq, Nat.reduceAdd, Nat.reduceSub, Nat.reduceLeDiff, Nat.reduceMul, reduceIte, reduceCtorEq, Int.reduceNeg, Int.reduceToNat, Nat.reduceLT, Int.reduceLE, Int.reduceLT, Int.reduceAdd, Int.reduceSub, Int.reduceMul, maxLenI, wrap64, read1N, over1N, flat0N, shl1N, shl1M, List.length_set, List.length_replicate, Int.toNat_natCast_add_one, shl1K, int_prev, eq_self, beq_self_eq_true, if_pos, if_neg]; rfl)) ?_
            exact ⟨_, _, rfl, by first | rfl | (simp only [frzT, frzP, optMap, get_app, get_app0]; rfl), by rfl⟩
          · exfalso; first | (cases e10; done) | (exact absurd e10 (by decide)) | (simp [hsq] at e10; done) | (simp [hasB] at e10; omega)
        · try simp only [e9]
          have qe9 := e9; try simp only [decide_eq_true_eq, decide_eq_false_iff_not, Bool.not_eq_true', Bool.not_eq_false', Bool.not_eq_eq_eq_not, Bool.not_true, Bool.not_false, Int.not_le, Int.not_lt, beq_iff_eq, bne_iff_ne, ge_iff_le, gt_iff_lt, beq_eq_false_iff_ne, ne_eq, bne_eq_false_iff_eq] at qe9
          refine RunA.condF rfl ?_
          refine RunA.skip ?_
          change RunA _ _ _ _ _
          refine RunA.seq ?_
          refine RunA.solo good plan11_16 (by kernel_rfl) (by kernel_rfl) ?_
          refine OpsS.pre 4 (by simp (maxSteps := 2000000) (disch := omega) only [go_sem, Nat.reduceBEq, Nat.reduceAdd, Nat.reduceSub, Nat.reduceLeDiff, Nat.reduceMul, reduceIte, reduceCtorEq, Int.reduceNeg, Int.reduceToNat, Nat.reduceLT, Int.reduceLE, Int.reduceLT, Int.reduceAdd, Int.reduceSub, Int.reduceMul, maxLenI, wrap64, read1N, over1N, flat0N, shl1N, shl1M, List.length_set, List.length_replicate, Int.toNat_natCast_add_one, shl1K, int_prev, eq_self, beq_self_eq_true, if_pos, if_neg, plan11_16E]; rfl) ?_
          refine OpsS.split 86 rfl (fun e11 => ?_) (fun e11 => ?_)
          · try simp only [e11]
            have qe11 := e11; try simp only [decide_eq_true_eq, decide_eq_false_iff_not, Bool.not_eq_true', Bool.not_eq_false', Bool.not_eq_eq_eq_not, Bool.not_true, Bool.not_false, Int.not_le, Int.not_lt, beq_iff_eq, bne_iff_ne, ge_iff_le, gt_iff_lt, beq_eq_false_iff_ne, ne_eq, bne_eq_false_iff_eq] at qe11
            refine OpsS.pre 1 (by simp (maxSteps := 2000000) (disch := omega) only [go_sem, Nat.reduceBEq, Nat.reduceAdd, Nat.reduceSub, Nat.reduceLeDiff, Nat.reduceMul, reduceIte, reduceCtorEq, Int.reduceNeg, Int.reduceToNat, Nat.reduceLT, Int.reduceLE, Int.reduceLT, Int.reduceAdd, Int.reduceSub, Int.reduceMul, maxLenI, wrap64, read1N, over1N, flat0N, shl1N, shl1M, List.length_set, List.length_replicate, Int.toNat_natCast_add_one, shl1K, int_prev, eq_self, beq_self_eq_true, if_pos, if_neg, plan11_16E]; rfl) ?_
            refine OpsS.call rfl rfl rfl hb44 (c44 _ hk8) ?_
            refine OpsS.pre 6 (by simp (maxSteps := 2000000) (disch := omega) only [go_sem, Nat.reduceBEq, Nat.reduceAdd, Nat.reduceSub, Nat.reduceLeDiff, Nat.reduceMul, reduceIte, reduceCtorEq, Int.reduceNeg, Int.reduceToNat, Nat.reduceLT, Int.reduceLE, Int.reduceLT, Int.reduceAdd, Int.reduceSub, Int.reduceMul, maxLenI, wrap64, read1N, over1N, flat0N, shl1N, shl1M, List.length_set, List.length_replicate, Int.toNat_natCast_add_one, shl1K, int_prev, eq_self, beq_self_eq_true, if_pos, if_neg, plan11_16E]; rfl) ?_
            refine OpsS.pre 1 (by simp (maxSteps := 2000000) (disch := omega) only [go_sem, Nat.reduceBEq, Nat.reduceAdd, Nat.reduceSub, Nat.reduceLeDiff, Nat.reduceMul, reduceIte, reduceCtorEq, Int.reduceNeg, Int.reduceToNat, Nat.reduceLT, Int.reduceLE, Int.reduceLT, Int.reduceAdd, Int.reduceSub, Int.reduceMul, maxLenI, wrap64, read1N, over1N, flat0N, shl1N, shl1M, List.length_set, List.length_replicate, Int.toNat_natCast_add_one, shl1K, int_prev, eq_self, beq_self_eq_true, if_pos, if_neg, plan11_16E]; rfl) ?_
            refine OpsS.split 95 rfl (fun e12 => ?_) (fun e12 => ?_)
            · try simp only [e12]
              have qe12 := e12; try simp only [decide_eq_true_eq, decide_eq_false_iff_not, Bool.not_eq_true', Bool.not_eq_false', Bool.not_eq_eq_eq_not, Bool.not_true, Bool.not_false, Int.not_le, Int.not_lt, beq_iff_eq, bne_iff_ne, ge_iff_le, gt_iff_lt, beq_eq_false_iff_ne, ne_eq, bne_eq_false_iff_eq] at qe12
              refine OpsS.pre 2 (by simp (maxSteps := 2000000) (disch := omega) only [go_sem, Nat.reduceBEq, Nat.reduceAdd, Nat.reduceSub, Nat.reduceLeDiff, Nat.reduceMul, reduceIte, reduceCtorEq, Int.reduceNeg, Int.reduceToNat, Nat.reduceLT, Int.reduceLE, Int.reduceLT, Int.reduceAdd, Int.reduceSub, Int.reduceMul, maxLenI, wrap64, read1N, over1N, flat0N, shl1N, shl1M, List.length_set, List.length_replicate, Int.toNat_natCast_add_one, shl1K, int_prev, eq_self, beq_self_eq_true, if_pos, if_neg, plan11_16E]; rfl) ?_
              refine OpsS.call rfl rfl rfl hb43 (c43 _ _ hs) ?_
              refine OpsS.pre 2 (by simp (maxSteps := 2000000) (disch := omega) only [go_sem, Nat.reduceBEq, Nat.reduceAdd, Nat.reduceSub, Nat.reduceLeDiff, Nat.reduceMul, reduceIte, reduceCtorEq, Int.reduceNeg, Int.reduceToNat, Nat.reduceLT, Int.reduceLE, Int.reduceLT, Int.reduceAdd, Int.reduceSub, Int.reduceMul, maxLenI, wrap64, read1N, over1N, flat0N, shl1N, shl1M, List.length_set, List.length_replicate, Int.toNat_natCast_add_one, shl1K, int_prev, eq_self, beq_self_eq_true, if_pos, if_neg, plan11_16E]; rfl) ?_
              refine OpsS.call rfl rfl rfl hb45 (c45 _ _ hs) ?_
              refine OpsS.pre 3 (by simp (maxSteps := 2000000) (disch := omega) only [go_sem, Nat.reduceBEq, Nat.reduceAdd, Nat.reduceSub, Nat.reduceLeDiff, Nat.reduceMul, reduceIte, reduceCtorEq, Int.reduceNeg, Int.reduceToNat, Nat.reduceLT, Int.reduceLE, Int.reduceLT, Int.reduceAdd, Int.reduceSub, Int.reduceMul, maxLenI, wrap64, read1N, over1N, flat0N, shl1N, shl1M, List.length_set, List.length_replicate, Int.toNat_natCast_add_one, shl1K, int_prev, eq_self, beq_self_eq_true, if_pos, if_neg, plan11_16E]; rfl) ?_
              refine OpsS.split 104 rfl (fun e13 => ?_) (fun e13 => ?_)
              · try simp only [e13]
                have qe13 := e13; try simp only [decide_eq_true_eq, decide_eq_false_iff_not, Bool.not_eq_true', Bool.not_eq_false', Bool.not_eq_eq_eq_not, Bool.not_true, Bool.not_false, Int.not_le, Int.not_lt, beq_iff_eq, bne_iff_ne, ge_iff_le, gt_iff_lt, beq_eq_false_iff_ne, ne_eq, bne_eq_false_iff_eq] at qe13
                refine OpsS.pre 1 (by simp (maxSteps := 2000000) (disch := omega) only [go_sem, Nat.reduceBEq, Nat.reduceAdd, Nat.reduceSub, Nat.reduceLeDiff, Nat.reduceMul, reduceIte, reduceCtorEq, Int.reduceNeg, Int.reduceToNat, Nat.reduceLT, Int.reduceLE, Int.reduceLT, Int.reduceAdd, Int.reduceSub, Int.reduceMul, maxLenI, wrap64, read1N, over1N, flat0N, shl1N, shl1M, List.length_set, List.length_replicate, Int.toNat_natCast_add_one, shl1K, int_prev, eq_self, beq_self_eq_true, if_pos, if_neg, plan11_16E]; rfl) ?_
                refine OpsS.call rfl rfl rfl hb46 (c46 _ _ _) ?_
                refine OpsS.pre 1 (by simp (maxSteps := 2000000) (disch := omega) only [go_sem, Nat.reduceBEq, Nat.reduceAdd, Nat.reduceSub, Nat.reduceLeDiff, Nat.reduceMul, reduceIte, reduceCtorEq, Int.reduceNeg, Int.reduceToNat, Nat.reduceLT, Int.reduceLE, Int.reduceLT, Int.reduceAdd, Int.reduceSub, Int.reduceMul, maxLenI, wrap64, read1N, over1N, flat0N, shl1N, shl1M, List.length_set, List.length_replicate, Int.toNat_natCast_add_one, shl1K, int_prev, eq_self, beq_self_eq_true, if_pos, if_neg, plan11_16E]; rfl) ?_
                refine OpsS.call rfl rfl rfl hb47 (c47 _ _ _) ?_
                refine OpsS.pre 3 (by simp (maxSteps := 2000000) (disch := omega) only [go_sem, Nat.reduceBEq, Nat.reduceAdd, Nat.reduceSub, Nat.reduceLeDiff, Nat.reduceMul, reduceIte, reduceCtorEq, Int.reduceNeg, Int.reduceToNat, Nat.reduceLT, Int.reduceLE, Int.reduceLT, Int.reduceAdd, Int.reduceSub, Int.reduceMul, maxLenI, wrap64, read1N, over1N, flat0N, shl1N, shl1M, List.length_set, List.length_replicate, Int.toNat_natCast_add_one, shl1K, int_prev, eq_self, beq_self_eq_true, if_pos, if_neg, plan11_16E]; rfl) ?_
                refine OpsS.split 111 rfl (fun e14 => ?_) (fun e14 => ?_)
                · try simp only [e14]
                  have qe14 := e14; try simp only [decide_eq_true_eq, decide_eq_false_iff_not, Bool.not_eq_true', Bool.not_eq_false', Bool.not_eq_eq_eq_not, Bool.not_true, Bool.not_false, Int.not_le, Int.not_lt, beq_iff_eq, bne_iff_ne, ge_iff_le, gt_iff_lt, beq_eq_false_iff_ne, ne_eq, bne_eq_false_iff_eq] at qe14
                  refine OpsS.call rfl rfl rfl hb38 (c38) ?_
                  refine OpsS.pre 2 (by simp (maxSteps := 2000000) (disch := omega) only [go_sem, Nat.reduceBEq, Nat.reduceAdd, Nat.reduceSub, Nat.reduceLeDiff, Nat.reduceMul, reduceIte, reduceCtorEq, Int.reduceNeg, Int.reduceToNat, Nat.reduceLT, Int.reduceLE, Int.reduceLT, Int.reduceAdd, Int.reduceSub, Int.reduceMul, maxLenI, wrap64, read1N, over1N, flat0N, shl1N, shl1M, List.length_set, List.length_replicate, Int.toNat_natCast_add_one, shl1K, int_prev, eq_self, beq_self_eq_true, if_pos, if_neg, plan11_16E]; rfl) ?_
                  show _
                  change RunA _ _ _ _ _
                  refine RunA.ret ?_
                  refine Ends.mk (by simp only [res11, resA, resAs, resA1]; first | rfl | (simp (maxSteps := 2000000) (disch := omega) only [go_sem, Nat.reduceBEq, Nat.reduceAdd, Nat.reduceSub, Nat.reduceLeDiff, Nat.reduceMul, reduceIte, reduceCtorEq, Int.reduceNeg, Int.reduceToNat, Nat.reduceLT, Int.reduceLE, Int.reduceLT, Int.reduceAdd, Int.reduceSub, Int.reduceMul, maxLenI, wrap64, read1N, over1N, flat0N, shl1N, shl1M, List.length_set, List.length_replicate, Int.toNat_natCast_add_one, shl1K, int_prev, eq_self, beq_self_eq_true, if_pos, if_neg, plan11_16E]; rfl)) ?_
                  exact ⟨_, _, rfl, by first | rfl | (simp only [frzT, frzP, optMap, get_app, get_app0]; rfl), by rfl⟩
                · exfalso; first | (cases e14; done) | (exact absurd e14 (by decide)) | (simp [hsq] at e14; done) | (simp [hasB] at e14; omega)
              · exfalso; first | (cases e13; done) | (exact absurd e13 (by decide)) | (simp [hsq] at e13; done) | (simp [hasB] at e13; omega)
            · exfalso; first | (cases e12; done) | (exact absurd e12 (by decide)) | (simp [hsq] at e12; done) | (simp [hasB] at e12; omega)
          · exfalso; first | (cases e11; done) | (exact absurd e11 (by decide)) | (simp [hsq] at e11; done) | (simp [hasB] at e11; omega)
    · try simp only [e6]
      have qe6 := e6; try simp only [decide_eq_true_eq, decide_eq_false_iff_not, Bool.not_eq_true', Bool.not_eq_false', Bool.not_eq_eq_eq_not, Bool.not_true, Bool.not_false, Int.not_le, Int.not_lt, beq_iff_eq, bne_iff_ne, ge_iff_le, gt_iff_lt, beq_eq_false_iff_ne, ne_eq, bne_eq_false_iff_eq] at qe6
      refine RunA.condF rfl ?_
      refine RunA.skip ?_
      change RunA _ _ _ _ _
      refine RunA.seq ?_
      refine RunA.seq ?_
      refine RunA.region good ?_
      refine OpsA.pre 3 (by simp (maxSteps := 2000000) (disch := omega) only [go_sem, Nat.reduceBEq, Nat.reduceAdd, Nat.reduceSub, Nat.reduceLeDiff, Nat.reduceMul, reduceIte, reduceCtorEq, Int.reduceNeg, Int.reduceToNat, Nat.reduceLT, Int.reduceLE, Int.reduceLT, Int.reduceAdd, Int.reduceSub, Int.reduceMul, maxLenI, wrap64, read1N, over1N, flat0N, shl1N, shl1M, List.length_set, List.length_replicate, Int.toNat_natCast_add_one, shl1K, int_prev, eq_self, beq_self_eq_true, if_pos, if_neg]; rfl) ?_
      refine OpsA.split 72 rfl (fun e15 => ?_) (fun e15 => ?_)
      · try simp only [e15]
        have qe15 := e15; try simp only [decide_eq_true_eq, decide_eq_false_iff_not, Bool.not_eq_true', Bool.not_eq_false', Bool.not_eq_eq_eq_not, Bool.not_true, Bool.not_false, Int.not_le, Int.not_lt, beq_iff_eq, bne_iff_ne, ge_iff_le, gt_iff_lt, beq_eq_false_iff_ne, ne_eq, bne_eq_false_iff_eq] at qe15
        refine OpsA.pre 3 (by simp (maxSteps := 2000000) (disch := omega) only [go_sem, Nat.reduceBEq, Nat.reduceAdd, Nat.reduceSub, Nat.reduceLeDiff, Nat.reduceMul, reduceIte, reduceCtorEq, Int.reduceNeg, Int.reduceToNat, Nat.reduceLT, Int.reduceLE, Int.reduceLT, Int.reduceAdd, Int.reduceSub, Int.reduceMul, maxLenI, wrap64, read1N, over1N, flat0N, shl1N, shl1M, List.length_set, List.length_replicate, Int.toNat_natCast_add_one, shl1K, int_prev, eq_self, beq_self_eq_true, if_pos, if_neg]; rfl) ?_
        refine OpsA.nil ?_
        change RunA _ _ _ _ _
        refine RunA.condT rfl ?_
        refine RunA.seq ?_
        refine RunA.region good ?_
        refine OpsA.pre 2 (by simp (maxSteps := 2000000) (disch := omega) only [go_sem, Nat.reduceBEq, Nat.reduceAdd, Nat.reduceSub, Nat.reduceLeDiff, Nat.reduceMul, reduceIte, reduceCtorEq, Int.reduceNeg, Int.reduceToNat, Nat.reduceLT, Int.reduceLE, Int.reduceLT, Int.reduceAdd, Int.reduceSub, Int.reduceMul, maxLenI, wrap64, read1N, over1N, flat0N, shl1N, shl1M, List.length_set, List.length_replicate, Int.toNat_natCast_add_one, shl1K, int_prev, eq_self, beq_self_eq_true, if_pos, if_neg]; rfl) ?_
        refine OpsA.callQ rfl rfl rfl hb43 (c43 _ _ hs) ?_
        refine OpsA.pre 2 (by simp (maxSteps := 2000000) (disch := omega) only [go_sem, Nat.reduceBEq, Nat.reduceAdd, Nat.reduceSub, Nat.reduceLeDiff, Nat.reduceMul, reduceIte, reduceCtorEq, Int.reduceNeg, Int.reduceToNat, Nat.reduceLT, Int.reduceLE, Int.reduceLT, Int.reduceAdd, Int.reduceSub, Int.reduceMul, maxLenI, wrap64, read1N, over1N, flat0N, shl1N, shl1M, List.length_set, List.length_replicate, Int.toNat_natCast_add_one, shl1K, int_prev, eq_self, beq_self_eq_true, if_pos, if_neg]; rfl) ?_
        refine OpsA.split 80 rfl (fun e16 => ?_) (fun e16 => ?_)
        · try simp only [e16]
          have qe16 := e16; try simp only [decide_eq_true_eq, decide_eq_false_iff_not, Bool.not_eq_true', Bool.not_eq_false', Bool.not_eq_eq_eq_not, Bool.not_true, Bool.not_false, Int.not_le, Int.not_lt, beq_iff_eq, bne_iff_ne, ge_iff_le, gt_iff_lt, beq_eq_false_iff_ne, ne_eq, bne_eq_false_iff_eq] at qe16
          refine OpsA.callQ rfl rfl rfl hb38 (c38) ?_
          refine OpsA.pre 2 (by simp (maxSteps := 2000000) (disch := omega) only [go_sem, Nat.reduceBEq, Nat.reduceAdd, Nat.reduceSub, Nat.reduceLeDiff, Nat.reduceMul, reduceIte, reduceCtorEq, Int.reduceNeg, Int.reduceToNat, Nat.reduceLT, Int.reduceLE, Int.reduceLT, Int.reduceAdd, Int.reduceSub, Int.reduceMul, maxLenI, wrap64, read1N, over1N, flat0N, shl1N, shl1M, List.length_set, List.length_replicate, Int.toNat_natCast_add_one, shl1K, int_prev, eq_self, beq_self_eq_true, if_pos, if_neg]; rfl) ?_
          refine OpsA.nil ?_
          change RunA _ _ _ _ _
          refine RunA.ret ?_
          refine Ends.mk (by simp only [res11, resA, resAs, resA1]; first | rfl | (simp (maxSteps := 2000000) (disch := omega) only [go_sem, Nat.reduceBEq, Nat.reduceAdd, Nat.reduceSub, Nat.reduceLeDiff, Nat.reduceMul, reduceIte, reduceCtorEq, Int.reduceNeg, Int.reduceToNat, Nat.reduceLT, Int.reduceLE, Int.reduceLT, Int.reduceAdd, Int.reduceSub, Int.reduceMul, maxLenI, wrap64, read1N, over1N, flat0N, shl1N, shl1M, List.length_set, List.length_replicate, Int.toNat_natCast_add_one, shl1K, int_prev, eq_self, beq_self_eq_true, if_pos, if_neg]; rfl)) ?_
          exact ⟨_, _, rfl, by first | rfl | (simp only [frzT, frzP, optMap, get_app, get_app0]; rfl), by rfl⟩
        · exfalso; first | (cases e16; done) | (exact absurd e16 (by decide)) | (simp [hsq] at e16; done) | (simp [hasB] at e16; omega)
      · try simp only [e15]
        have qe15 := e15; try simp only [decide_eq_true_eq, decide_eq_false_iff_not, Bool.not_eq_true', Bool.not_eq_false', Bool.not_eq_eq_eq_not, Bool.not_true, Bool.not_false, Int.not_le, Int.not_lt, beq_iff_eq, bne_iff_ne, ge_iff_le, gt_iff_lt, beq_eq_false_iff_ne, ne_eq, bne_eq_false_iff_eq] at qe15
        refine OpsA.pre 3 (by simp (maxSteps := 2000000) (disch := omega) only [go_sem, Nat.reduceBEq, Nat.reduceAdd, Nat.reduceSub, Nat.reduceLeDiff, Nat.reduceMul, reduceIte, reduceCtorEq, Int.reduceNeg, Int.reduceToNat, Nat.reduceLT, Int.reduceLE, Int.reduceLT, Int.reduceAdd, Int.reduceSub, Int.reduceMul, maxLenI, wrap64, read1N, over1N, flat0N, shl1N, shl1M, List.length_set, List.length_replicate, Int.toNat_natCast_add_one, shl1K, int_prev, eq_self, beq_self_eq_true, if_pos, if_neg]; rfl) ?_
        refine OpsA.nil ?_
        change RunA _ _ _ _ _
        refine RunA.split 75 rfl (fun e17 => ?_) (fun e17 => ?_)
        · try simp only [e17]
          have qe17 := e17; try simp only [decide_eq_true_eq, decide_eq_false_iff_not, Bool.not_eq_true', Bool.not_eq_false', Bool.not_eq_eq_eq_not, Bool.not_true, Bool.not_false, Int.not_le, Int.not_lt, beq_iff_eq, bne_iff_ne, ge_iff_le, gt_iff_lt, beq_eq_false_iff_ne, ne_eq, bne_eq_false_iff_eq] at qe17
          refine RunA.condT rfl ?_
          refine RunA.seq ?_
          refine RunA.region good ?_
          refine OpsA.pre 2 (by simp (maxSteps := 2000000) (disch := omega) only [go_sem, Nat.reduceBEq, Nat.reduceAdd, Nat.reduceSub, Nat.reduceLeDiff, Nat.reduceMul, reduceIte, reduceCtorEq, Int.reduceNeg, Int.reduceToNat, Nat.reduceLT, Int.reduceLE, Int.reduceLT, Int.reduceAdd, Int.reduceSub, Int.reduceMul, maxLenI, wrap64, read1N, over1N, flat0N, shl1N, shl1M, List.length_set, List.length_replicate, Int.toNat_natCast_add_one, shl1K, int_prev, eq_self, beq_self_eq_true, if_pos, if_neg]; rfl) ?_
          refine OpsA.callQ rfl rfl rfl hb43 (c43 _ _ hs) ?_
          refine OpsA.pre 2 (by simp (maxSteps := 2000000) (disch := omega) only [go_sem, Nat.reduceBEq, Nat.reduceAdd, Nat.reduceSub, Nat.reduceLeDiff, Nat.reduceMul, reduceIte, reduceCtorEq, Int.reduceNeg, Int.reduceToNat, Nat.reduceLT, Int.reduceLE, Int.reduceLT, Int.reduceAdd, Int.reduceSub, Int.reduceMul, maxLenI, wrap64, read1N, over1N, flat0N, shl1N, shl1M, List.length_set, List.length_replicate, Int.toNat_natCast_add_one, shl1K, int_prev, eq_self, beq_self_eq_true, if_pos, if_neg]; rfl) ?_
          refine OpsA.split 80 rfl (fun e18 => ?_) (fun e18 => ?_)
          · try simp only [e18]
            have qe18 := e18; try simp only [decide_eq_true_eq, decide_eq_false_iff_not, Bool.not_eq_true', Bool.not_eq_false', Bool.not_eq_eq_eq_not, Bool.not_true, Bool.not_false, Int.not_le, Int.not_lt, beq_iff_eq, bne_iff_ne, ge_iff_le, gt_iff_lt, beq_eq_false_iff_ne, ne_eq, bne_eq_false_iff_eq] at qe18
            refine OpsA.callQ rfl rfl rfl hb38 (c38) ?_
            refine OpsA.pre 2 (by simp (maxSteps := 2000000) (disch := omega) only [go_sem, Nat.reduceBEq, Nat.reduceAdd, Nat.reduceSub, Nat.reduceLeDiff, Nat.reduceMul, reduceIte, reduceCtorEq, Int.reduceNeg, Int.reduceToNat, Nat.reduceLT, Int.reduceLE, Int.reduceLT, Int.reduceAdd, Int.reduceSub, Int.reduceMul, maxLenI, wrap64, read1N, over1N, flat0N, shl1N, shl1M, List.length_set, List.length_replicate, Int.toNat_natCast_add_one, shl1K, int_prev, eq_self, beq_self_eq_true, if_pos, if_neg]; rfl) ?_
            refine OpsA.nil ?_
            change RunA _ _ _ _ _
            refine RunA.ret ?_
            refine Ends.mk (by simp only [res11, resA, resAs, resA1]; first | rfl | (simp (maxSteps := 2000000) (disch := omega) only [go_sem, Nat.reduceBEq, Nat.reduceAdd, Nat.reduceSub, Nat.reduceLeDiff, Nat.reduceMul, reduceIte, reduceCtorEq, Int.reduceNeg, Int.reduceToNat, Nat.reduceLT, Int.reduceLE, Int.reduceLT, Int.reduceAdd, Int.reduceSub, Int.reduceMul, maxLenI, wrap64, read1N, over1N, flat0N, shl1N, shl1M, List.length_set, List.length_replicate, Int.toNat_natCast_add_one, shl1K, int_prev, eq_self, beq_self_eq_true, if_pos, if_neg]; rfl)) ?_
            exact ⟨_, _, rfl, by first | rfl | (simp only [frzT, frzP, optMap, get_app, get_app0]; rfl), by rfl⟩
          · exfalso; first | (cases e18; done) | (exact absurd e18 (by decide)) | (simp [hsq] at e18; done) | (simp [hasB] at e18; omega)
        · try simp only [e17]
          have qe17 := e17; try simp only [decide_eq_true_eq, decide_eq_false_iff_not, Bool.not_eq_true', Bool.not_eq_false', Bool.not_eq_eq_eq_not, Bool.not_true, Bool.not_false, Int.not_le, Int.not_lt, beq_iff_eq, bne_iff_ne, ge_iff_le, gt_iff_lt, beq_eq_false_iff_ne, ne_eq, bne_eq_false_iff_eq] at qe17
          refine RunA.condF rfl ?_
          refine RunA.skip ?_
          change RunA _ _ _ _ _
          refine RunA.seq ?_
          refine RunA.solo good plan11_16 (by kernel_rfl) (by kernel_rfl) ?_
          refine OpsS.pre 4 (by simp (maxSteps := 2000000) (disch := omega) only [go_sem, Nat.reduceBEq, Nat.reduceAdd, Nat.reduceSub, Nat.reduceLeDiff, Nat.reduceMul, reduceIte, reduceCtorEq, Int.reduceNeg, Int.reduceToNat, Nat.reduceLT, Int.reduceLE, Int.reduceLT, Int.reduceAdd, Int.reduceSub, Int.reduceMul, maxLenI, wrap64, read1N, over1N, flat0N, shl1N, shl1M, List.length_set, List.length_replicate, Int.toNat_natCast_add_one, shl1K, int_prev, eq_self, beq_self_eq_true, if_pos, if_neg, plan11_16E]; rfl) ?_
          refine OpsS.split 86 rfl (fun e19 => ?_) (fun e19 => ?_)
          · try simp only [e19]
            have qe19 := e19; try simp only [decide_eq_true_eq, decide_eq_false_iff_not, Bool.not_eq_true', Bool.not_eq_false', Bool.not_eq_eq_eq_not, Bool.not_true, Bool.not_false, Int.not_le, Int.not_lt, beq_iff_eq, bne_iff_ne, ge_iff_le, gt_iff_lt, beq_eq_false_iff_ne, ne_eq, bne_eq_false_iff_eq] at qe19
            refine OpsS.pre 1 (by simp (maxSteps := 2000000) (disch := omega) only [go_sem, Nat.reduceBEq, Nat.reduceAdd, Nat.reduceSub, Nat.reduceLeDiff, Nat.reduceMul, reduceIte, reduceCtorEq, Int.reduceNeg, Int.reduceToNat, Nat.reduceLT, Int.reduceLE, Int.reduceLT, Int.reduceAdd, Int.reduceSub, Int.reduceMul, maxLenI, wrap64, read1N, over1N, flat0N, shl1N, shl1M, List.length_set, List.length_replicate, Int.toNat_natCast_add_one, shl1K, int_prev, eq_self, beq_self_eq_true, if_pos, if_neg, plan11_16E]; rfl) ?_
            refine OpsS.call rfl rfl rfl hb44 (c44 _ hk8) ?_
            refine OpsS.pre 6 (by simp (maxSteps := 2000000) (disch := omega) only [go_sem, Nat.reduceBEq, Nat.reduceAdd, Nat.reduceSub, Nat.reduceLeDiff, Nat.reduceMul, reduceIte, reduceCtorEq, Int.reduceNeg, Int.reduceToNat, Nat.reduceLT, Int.reduceLE, Int.reduceLT, Int.reduceAdd, Int.reduceSub, Int.reduceMul, maxLenI, wrap64, read1N, over1N, flat0N, shl1N, shl1M, List.length_set, List.length_replicate, Int.toNat_natCast_add_one, shl1K, int_prev, eq_self, beq_self_eq_true, if_pos, if_neg, plan11_16E]; rfl) ?_
            refine OpsS.pre 1 (by simp (maxSteps := 2000000) (disch := omega) only [go_sem, Nat.reduceBEq, Nat.reduceAdd, Nat.reduceSub, Nat.reduceLeDiff, Nat.reduceMul, reduceIte, reduceCtorEq, Int.reduceNeg, Int.reduceToNat, Nat.reduceLT, Int.reduceLE, Int.reduceLT, Int.reduceAdd, Int.reduceSub, Int.reduceMul, maxLenI, wrap64, read1N, over1N, flat0N, shl1N, shl1M, List.length_set, List.length_replicate, Int.toNat_natCast_add_one, shl1K, int_prev, eq_self, beq_self_eq_true, if_pos, if_neg, plan11_16E]; rfl) ?_
            refine OpsS.split 95 rfl (fun e20 => ?_) (fun e20 => ?_)
            · try simp only [e20]
              have qe20 := e20; try simp only [decide_eq_true_eq, decide_eq_false_iff_not, Bool.not_eq_true', Bool.not_eq_false', Bool.not_eq_eq_eq_not, Bool.not_true, Bool.not_false, Int.not_le, Int.not_lt, beq_iff_eq, bne_iff_ne, ge_iff_le, gt_iff_lt, beq_eq_false_iff_ne, ne_eq, bne_eq_false_iff_eq] at qe20
              refine OpsS.pre 2 (by simp (maxSteps := 2000000) (disch := omega) only [go_sem, Nat.reduceBEq, Nat.reduceAdd, Nat.reduceSub, Nat.reduceLeDiff, Nat.reduceMul, reduceIte, reduceCtorEq, Int.reduceNeg, Int.reduceToNat, Nat.reduceLT, Int.reduceLE, Int.reduceLT, Int.reduceAdd, Int.reduceSub, Int.reduceMul, maxLenI, wrap64, read1N, over1N, flat0N, shl1N, shl1M, List.length_set, List.length_replicate, Int.toNat_natCast_add_one, shl1K, int_prev, eq_self, beq_self_eq_true, if_pos, if_neg, plan11_16E]; rfl) ?_
              refine OpsS.call rfl rfl rfl hb43 (c43 _ _ hs) ?_
              refine OpsS.pre 2 (by simp (maxSteps := 2000000) (disch := omega) only [go_sem, Nat.reduceBEq, Nat.reduceAdd, Nat.reduceSub, Nat.reduceLeDiff, Nat.reduceMul, reduceIte, reduceCtorEq, Int.reduceNeg, Int.reduceToNat, Nat.reduceLT, Int.reduceLE, Int.reduceLT, Int.reduceAdd, Int.reduceSub, Int.reduceMul, maxLenI, wrap64, read1N, over1N, flat0N, shl1N, shl1M, List.length_set, List.length_replicate, Int.toNat_natCast_add_one, shl1K, int_prev, eq_self, beq_self_eq_true, if_pos, if_neg, plan11_16E]; rfl) ?_
              refine OpsS.call rfl rfl rfl hb45 (c45 _ _ hs) ?_
              refine OpsS.pre 3 (by simp (maxSteps := 2000000) (disch := omega) only [go_sem, Nat.reduceBEq, Nat.reduceAdd, Nat.reduceSub, Nat.reduceLeDiff, Nat.reduceMul, reduceIte, reduceCtorEq, Int.reduceNeg, Int.reduceToNat, Nat.reduceLT, Int.reduceLE, Int.reduceLT, Int.reduceAdd, Int.reduceSub, Int.reduceMul, maxLenI, wrap64, read1N, over1N, flat0N, shl1N, shl1M, List.length_set, List.length_replicate, Int.toNat_natCast_add_one, shl1K, int_prev, eq_self, beq_self_eq_true, if_pos, if_neg, plan11_16E]; rfl) ?_
              refine OpsS.split 104 rfl (fun e21 => ?_) (fun e21 => ?_)
              · try simp only [e21]
                have qe21 := e21; try simp only [decide_eq_true_eq, decide_eq_false_iff_not, Bool.not_eq_true', Bool.not_eq_false', Bool.not_eq_eq_eq_not, Bool.not_true, Bool.not_false, Int.not_le, Int.not_lt, beq_iff_eq, bne_iff_ne, ge_iff_le, gt_iff_lt, beq_eq_false_iff_ne, ne_eq, bne_eq_false_iff_eq] at qe21
                refine OpsS.pre 1 (by simp (maxSteps := 2000000) (disch := omega) only [go_sem, Nat.reduceBEq, Nat.reduceAdd, Nat.reduceSub, Nat.reduceLeDiff, Nat.reduceMul, reduceIte, reduceCtorEq, Int.reduceNeg, Int.reduceToNat, Nat.reduceLT, Int.reduceLE, Int.reduceLT, Int.reduceAdd, Int.reduceSub, Int.reduceMul, maxLenI, wrap64, read1N, over1N, flat0N, shl1N, shl1M, List.length_set, List.length_replicate, Int.toNat_natCast_add_one, shl1K, int_prev, eq_self, beq_self_eq_true, if_pos, if_neg, plan11_16E]; rfl) ?_
                refine OpsS.call rfl rfl rfl hb46 (c46 _ _ _) ?_
                refine OpsS.pre 1 (by simp (maxSteps := 2000000) (disch := omega) only [go_sem, Nat.reduceBEq, Nat.reduceAdd, Nat.reduceSub, Nat.reduceLeDiff, Nat.reduceMul, reduceIte, reduceCtorEq, Int.reduceNeg, Int.reduceToNat, Nat.reduceLT, Int.reduceLE, Int.reduceLT, Int.reduceAdd, Int.reduceSub, Int.reduceMul, maxLenI, wrap64, read1N, over1N, flat0N, shl1N, shl1M, List.length_set, List.length_replicate, Int.toNat_natCast_add_one, shl1K, int_prev, eq_self, beq_self_eq_true, if_pos, if_neg, plan11_16E]; rfl) ?_
                refine OpsS.call rfl rfl rfl hb47 (c47 _ _ _) ?_
                refine OpsS.pre 3 (by simp (maxSteps := 2000000) (disch := omega) only [go_sem, Nat.reduceBEq, Nat.reduceAdd, Nat.reduceSub, Nat.reduceLeDiff, Nat.reduceMul, reduceIte, reduceCtorEq, Int.reduceNeg, Int.reduceToNat, Nat.reduceLT, Int.reduceLE, Int.reduceLT, Int.reduceAdd, Int.reduceSub, Int.reduceMul, maxLenI, wrap64, read1N, over1N, flat0N, shl1N, shl1M, List.length_set, List.length_replicate, Int.toNat_natCast_add_one, shl1K, int_prev, eq_self, beq_self_eq_true, if_pos, if_neg, plan11_16E]; rfl) ?_
                refine OpsS.split 111 rfl (fun e22 => ?_) (fun e22 => ?_)
                · try simp only [e22]
                  have qe22 := e22; try simp only [decide_eq_true_eq, decide_eq_false_iff_not, Bool.not_eq_true', Bool.not_eq_false', Bool.not_eq_eq_eq_not, Bool.not_true, Bool.not_false, Int.not_le, Int.not_lt, beq_iff_eq, bne_iff_ne, ge_iff_le, gt_iff_lt, beq_eq_false_iff_ne, ne_eq, bne_eq_false_iff_eq] at qe22
                  refine OpsS.call rfl rfl rfl hb38 (c38) ?_
                  refine OpsS.pre 2 (by simp (maxSteps := 2000000) (disch := omega) only [go_sem, Nat.reduceBEq, Nat.reduceAdd, Nat.reduceSub, Nat.reduceLeDiff, Nat.reduceMul, reduceIte, reduceCtorEq, Int.reduceNeg, Int.reduceToNat, Nat.reduceLT, Int.reduceLE, Int.reduceLT, Int.reduceAdd, Int.reduceSub, Int.reduceMul, maxLenI, wrap64, read1N, over1N, flat0N, shl1N, shl1M, List.length_set, List.length_replicate, Int.toNat_natCast_add_one, shl1K, int_prev, eq_self, beq_self_eq_true, if_pos, if_neg, plan11_16E]; rfl) ?_
                  show _
                  change RunA _ _ _ _ _
                  refine RunA.ret ?_
                  refine Ends.mk (by simp only [res11, resA, resAs, resA1]; first | rfl | (simp (maxSteps := 2000000) (disch := omega) only [go_sem, Nat.reduceBEq, Nat.reduceAdd, Nat.reduceSub, Nat.reduceLeDiff, Nat.reduceMul, reduceIte, reduceCtorEq, Int.reduceNeg, Int.reduceToNat, Nat.reduceLT, Int.reduceLE, Int.reduceLT, Int.reduceAdd, Int.reduceSub, Int.reduceMul, maxLenI, wrap64, read1N, over1N, flat0N, shl1N, shl1M, List.length_set, List.length_replicate, Int.toNat_natCast_add_one, shl1K, int_prev, eq_self, beq_self_eq_true, if_pos, if_neg, plan11_16E]; rfl)) ?_
                  exact ⟨_, _, rfl, by first | rfl | (simp only [frzT, frzP, optMap, get_app, get_app0]; rfl), by rfl⟩
                · exfalso; first | (cases e22; done) | (exact absurd e22 (by decide)) | (simp [hsq] at e22; done) | (simp [hasB] at e22; omega)
              · exfalso; first | (cases e21; done) | (exact absurd e21 (by decide)) | (simp [hsq] at e21; done) | (simp [hasB] at e21; omega)
            · exfalso; first | (cases e20; done) | (exact absurd e20 (by decide)) | (simp [hsq] at e20; done) | (simp [hasB] at e20; omega)
          · exfalso; first | (cases e19; done) | (exact absurd e19 (by decide)) | (simp [hsq] at e19; done) | (simp [hasB] at e19; omega)

end Go.Proofs.Ytlmclkamedhmhaa
