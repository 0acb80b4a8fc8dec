/-
  THE EFFECT OF A WHOLE PATH. Written in part by a program of mine (gen24d.py, walk.py). Conditions: none.
-/
import Derived.Test.YtlmclkamedhmhaaEff24E
import Derived.Test.YtlmclkamedhmhaaDep14B
import Derived.Test.YtlmclkamedhmhaaAbsLoopD
import Derived.Test.YtlmclkamedhmhaaAbsMulti
namespace Go.Proofs.Ytlmclkamedhmhaa
open Go.Ab
set_option linter.unusedSimpArgs false
set_option linter.unusedVariables false
set_option maxRecDepth 10000
set_option maxHeartbeats 2000000
attribute [local go_sem] opsE opsSE opsME List.contains_cons List.contains_nil Bool.or_true Bool.true_or Bool.or_false Bool.false_or stepS quietA wantA plainA pureA readA effA callPureA lenA minA maxA rho embT emb putA List.set List.getD_cons_zero List.getD_cons_succ List.getD_nil binA intBin isShift unA buildA fillA over partA loadA readAt writeAt newVarA virts addOff AV.cellsOf AV.storable AV.one UD.isAgg UD.known rd lenOf appendA sliceA boundA virtNone get_app get_app0 set_app set_app0 Array.toList List.take_succ_cons List.take_zero List.drop_succ_cons List.drop_zero List.getElem?_cons_succ List.getElem?_cons_zero List.getElem?_toArray Option.bind_some Option.map_some Option.map_none List.map_cons List.map_nil List.length_cons List.length_nil List.length_append Nat.zero_add Nat.add_zero Nat.le_refl Nat.one_mul Nat.mul_one List.append_assoc List.cons_append List.nil_append List.append_nil and_self and_true true_and true_or or_true if_true if_false Bool.false_eq_true not_false_eq_true bTT bTF bFT bFF Bool.not_true Bool.not_false decide_true decide_false Int.toNat_zero Int.toNat_one Int.toNat_natCast List.size_toArray ut3 sz3 ti3 ut4 sz4 ti4 ut23 sz23 ti23 ut34 sz34 ti34 ut61 sz61 ti61 vecI List.length_map Int.natCast_nonneg effV brokenE

def pathTo (l : List Int) : Nat → E
  | 0 => ⟨0, 0, 0⟩
  | i + 1 => ⟨if (pathTo l i).net + l.getD i 0 < (pathTo l i).low then (pathTo l i).net + l.getD i 0 else (pathTo l i).low, if (pathTo l i).net + l.getD i 0 > (pathTo l i).high then (pathTo l i).net + l.getD i 0 else (pathTo l i).high, (pathTo l i).net + l.getD i 0⟩
def pathE (l : List Int) : E := pathTo l l.length
def goodP (x : E) : Prop := -8 ≤ x.low ∧ x.high ≤ 8
instance (x : E) : Decidable (goodP x) := by unfold goodP; exact inferInstance
theorem path_ord (l : List Int) : ∀ i, (pathTo l i).low ≤ (pathTo l i).net ∧ (pathTo l i).net ≤ (pathTo l i).high ∧ (pathTo l i).low ≤ 0 ∧ 0 ≤ (pathTo l i).high
  | 0 => by simp [pathTo]
  | i + 1 => by
    have ih := path_ord l i
    simp only [pathTo]
    omega
theorem path_bound {l : List Int} (hb : ∀ i, -1 ≤ l.getD i 0 ∧ l.getD i 0 ≤ 1) : ∀ i : Nat, -(i : Int) ≤ (pathTo l i).net ∧ (pathTo l i).net ≤ (i : Int)
  | 0 => by simp [pathTo]
  | i + 1 => by
    have ih := path_bound hb i
    have := hb i
    simp only [pathTo]
    omega
theorem path_valid {l : List Int} {i : Nat} (h : goodP (pathTo l i)) : validP (pathTo l i) := by
  have := path_ord l i
  simp only [goodP, validP] at *
  omega
theorem path_prev {l : List Int} {i : Nat} (h : goodP (pathTo l (i + 1))) : goodP (pathTo l i) := by
  simp only [goodP, pathTo] at *
  omega
theorem path_step {l : List Int} {i : Nat} (h1 : -1 ≤ l.getD i 0) (h2 : l.getD i 0 ≤ 1) : thenR (pathTo l i) (ofE (l.getD i 0)) = pathTo l (i + 1) := by
  have := path_ord l i
  rw [of_eq h1 h2]
  simp only [thenR, pathTo, E.mk.injEq]
  generalize l.getD i 0 = c at *
  generalize (pathTo l i).net = n at *
  generalize (pathTo l i).low = lo at *
  generalize (pathTo l i).high = hi at *
  have hc : c = -1 ∨ c = 0 ∨ c = 1 := by omega
  refine ⟨?_, ?_, trivial⟩
  · rcases hc with rfl | rfl | rfl
    · rfl
    · rfl
    · rw [if_pos (show (0 : Int) < 1 from by decide), if_neg (show ¬ n + 0 < lo from by omega), if_neg (show ¬ n + 1 < lo from by omega)]
  · rcases hc with rfl | rfl | rfl
    · rw [if_pos (show (0 : Int) > -1 from by decide), if_neg (show ¬ n + 0 > hi from by omega), if_neg (show ¬ n + -1 > hi from by omega)]
    · rfl
    · rfl
def thenTo (l : List Int) : Nat → E
  | 0 => ⟨0, 0, 0⟩
  | i + 1 => thenE (thenTo l i) (ofE (l.getD i 0))
theorem then_path {l : List Int} (hb : ∀ i, -1 ≤ l.getD i 0 ∧ l.getD i 0 ≤ 1) : ∀ i, (goodP (pathTo l i) → thenTo l i = pathTo l i) ∧ (¬ goodP (pathTo l i) → thenTo l i = brokenE)
  | 0 => ⟨fun _ => rfl, fun h => absurd (show goodP ⟨0, 0, 0⟩ by decide) h⟩
  | i + 1 => by
    obtain ⟨k1, k2⟩ := then_path hb i
    have hs := path_step (hb i).1 (hb i).2
    refine ⟨fun h => ?_, fun h => ?_⟩
    · have hp := path_prev h
      rw [thenTo, k1 hp, (then_eq (path_valid hp) (of_valid (hb i).1 (hb i).2)).1 (by rw [hs]; exact path_valid h), hs]
    · by_cases hp : goodP (pathTo l i)
      · rw [thenTo, k1 hp]
        refine (then_eq (path_valid hp) (of_valid (hb i).1 (hb i).2)).2 fun hv => h ?_
        rw [hs] at hv
        exact ⟨hv.1, hv.2.2.2.1⟩
      · rw [thenTo, k2 hp, then_broken]
theorem path_take {l : List Int} {k : Nat} : ∀ i, i ≤ k → pathTo (l.take k) i = pathTo l i
  | 0, _ => rfl
  | i + 1, h => by
    have e : (l.take k).getD i 0 = l.getD i 0 := by
      rw [List.getD_eq_getElem?_getD, List.getD_eq_getElem?_getD, List.getElem?_take, if_pos (by omega)]
    simp only [pathTo, path_take (k := k) i (by omega), e]
theorem path_cat {l : List Int} {k : Nat} : ∀ j, pathTo l (k + j) = thenR (pathTo l k) (pathTo (l.drop k) j)
  | 0 => by
    have := path_ord l k
    show pathTo l k = thenR (pathTo l k) ⟨0, 0, 0⟩
    have e : pathTo l k = ⟨(pathTo l k).low, (pathTo l k).high, (pathTo l k).net⟩ := rfl
    rw [e]
    simp only [thenR, E.mk.injEq]
    omega
  | j + 1 => by
    have ih := path_cat (l := l) (k := k) j
    have o1 := path_ord l k
    have o2 := path_ord (l.drop k) j
    have e : (l.drop k).getD j 0 = l.getD (k + j) 0 := by
      rw [List.getD_eq_getElem?_getD, List.getD_eq_getElem?_getD, List.getElem?_drop]
    rw [← Nat.add_assoc]
    simp only [pathTo, ih, e]
    simp only [thenR, E.mk.injEq]
    omega
theorem path_split {l : List Int} {k : Nat} (hk : k ≤ l.length) (hg : goodP (pathE l)) (hb : goodP (pathE (l.drop k))) : thenE (pathE (l.take k)) (pathE (l.drop k)) = pathE l := by
  have h1 : pathE (l.take k) = pathTo l k := by
    rw [pathE, List.length_take, Nat.min_eq_left hk, path_take k (Nat.le_refl _)]
  have h2 : pathE l = thenR (pathTo l k) (pathE (l.drop k)) := by
    rw [pathE, pathE, List.length_drop, ← path_cat]
    congr 1
    omega
  have g1 : ∀ j, goodP (pathTo l (k + j)) → goodP (pathTo l k) := by
    intro j
    induction j with
    | zero => exact id
    | succ j ih => exact fun h => ih (path_prev h)
  have g2 : goodP (pathTo l k) := g1 (l.length - k) (by rw [show k + (l.length - k) = l.length from by omega]; exact hg)
  have vb : validP (pathE (l.drop k)) := path_valid hb
  rw [h1, (then_eq (path_valid g2) vb).1 (by rw [← h2]; exact path_valid hg), h2]

def plan29_5 : Plan := ⟨[[], [0], [], [], [2, 3], [2, 3, 4], [0, 1, 2, 3, 4, 5], [0, 1, 2, 3, 4, 5, 6], [0, 1, 2, 3, 4, 5, 6, 7]], [false, false, false, false, false, false, false, false, true]⟩
theorem plan29_5E (i : Nat) : plan29_5.isE i = [false, false, false, false, false, false, false, false, true].getD i false := rfl

def plan29_7 : Plan := ⟨[[], [], [1], [1, 2], [1, 2, 3], [1, 2, 3, 4], [1, 2, 3, 4, 5], [1, 2, 3, 4, 5, 6], [1, 2, 3, 4, 5, 6, 7], [0, 1, 2, 3, 4], [0, 1, 2, 3, 4, 5, 6, 7, 8, 9]], [false, false, false, false, false, false, false, false, false, true, false]⟩
theorem plan29_7E (i : Nat) : plan29_7.isE i = [false, false, false, false, false, false, false, false, false, true, false].getD i false := rfl

theorem c29 {h : Heap} (l : List Int) (hl : l.length ≤ 60) (hb : ∀ i, -1 ≤ l.getD i 0 ∧ l.getD i 0 ≤ 1) : CallA Try.prog cfg 29 [vecI l] h (fun y' h' => y' = .tup [effV (pathE l), .bool (decide (goodP (pathE l)))] ∧ h' = h) := by
  refine CallA.body (Q := fun y' => y' = .tup [effV (pathE l), .bool (decide (goodP (pathE l)))]) good fn29 rfl ?_
  simp only [ntm29, List.length_cons, List.length_nil, Nat.reduceAdd, Nat.reduceSub, List.replicate, List.cons_append, List.nil_append]
  refine RunA.seq ?_
  refine RunA.region good ?_
  refine OpsA.pre 2 (by simp (maxSteps := 2000000) (disch := omega) only [go_sem, Nat.reduceBEq, Nat.reduceAdd, Nat.reduceSub, Nat.reduceLeDiff, Nat.reduceMul, reduceIte, reduceCtorEq, Int.reduceNeg, Int.reduceToNat, Nat.reduceLT, Int.reduceLE, Int.reduceLT, Int.reduceAdd, Int.reduceSub, Int.reduceMul, wrap64, read1, if_pos, if_neg]; rfl) ?_
  refine OpsA.nil ?_
  change RunA _ _ _ _ _
  refine RunA.seq ?_
  refine RunA.region good ?_
  refine OpsA.pre 3 (by simp (maxSteps := 2000000) (disch := omega) only [go_sem, Nat.reduceBEq, Nat.reduceAdd, Nat.reduceSub, Nat.reduceLeDiff, Nat.reduceMul, reduceIte, reduceCtorEq, Int.reduceNeg, Int.reduceToNat, Nat.reduceLT, Int.reduceLE, Int.reduceLT, Int.reduceAdd, Int.reduceSub, Int.reduceMul, wrap64, read1, if_pos, if_neg]; rfl) ?_
  refine OpsA.nil ?_
  change RunA _ _ _ _ _
  refine RunA.seq ?_
  refine RunA.seq ?_
  refine RunA.region good ?_
  refine OpsA.pre 1 (by simp (maxSteps := 2000000) (disch := omega) only [go_sem, Nat.reduceBEq, Nat.reduceAdd, Nat.reduceSub, Nat.reduceLeDiff, Nat.reduceMul, reduceIte, reduceCtorEq, Int.reduceNeg, Int.reduceToNat, Nat.reduceLT, Int.reduceLE, Int.reduceLT, Int.reduceAdd, Int.reduceSub, Int.reduceMul, wrap64, read1, if_pos, if_neg]; rfl) ?_
  refine OpsA.nil ?_
  change RunA _ _ _ _ _
  refine RunA.block ?_
  refine RunA.loopL (fun m st => ∃ (i : Nat), (m = l.length - i ∧ i ≤ l.length) ∧ st = ⟨[vecI l, .any, .ptr h.length 0 0, .bool false, .ptr (h.length + 1) 0 0, .int .i64 ((i : Nat) : Int), .any, .any, .any, .any, .any, .any, .any, .any, .any, .any, .any, .any, .any, .any, .any, .any, .any, .any, .any, .any, .any, .any, .any, .any, .any, .any, .any, .any, .any, .any, .any, .any, .any, .any, .any, .any], h ++ [⟨0, false, 23, 3, [.int .i64 0, .int .i64 0, .int .i64 0]⟩, ⟨0, false, 23, 3, [.int .i64 (pathTo l i).low, .int .i64 (pathTo l i).high, .int .i64 (pathTo l i).net]⟩]⟩) _ ⟨[vecI l, .any, .ptr h.length 0 0, .bool false, .ptr (h.length + 1) 0 0, .int .i64 ((0 : Nat) : Int), .any, .any, .any, .any, .any, .any, .any, .any, .any, .any, .any, .any, .any, .any, .any, .any, .any, .any, .any, .any, .any, .any, .any, .any, .any, .any, .any, .any, .any, .any, .any, .any, .any, .any, .any, .any], ⟨(.inl (by first | rfl | (congr 1; omega))), (.inr rfl), (.inl (by first | rfl | (congr 1; omega))), (.inl (by first | rfl | (congr 1; omega))), (.inl (by first | rfl | (congr 1; omega))), (.inl (by first | rfl | (congr 1; omega))), (.inr rfl), (.inr rfl), (.inr rfl), (.inr rfl), (.inr rfl), (.inr rfl), (.inr rfl), (.inr rfl), (.inr rfl), (.inr rfl), (.inr rfl), (.inr rfl), (.inr rfl), (.inr rfl), (.inr rfl), (.inr rfl), (.inr rfl), (.inr rfl), (.inr rfl), (.inr rfl), (.inr rfl), (.inr rfl), (.inr rfl), (.inr rfl), (.inr rfl), (.inr rfl), (.inr rfl), (.inr rfl), (.inr rfl), (.inr rfl), (.inr rfl), (.inr rfl), (.inr rfl), (.inr rfl), (.inr rfl), (.inr rfl), trivial⟩, 0, ⟨rfl, by omega⟩, rfl⟩ ?_
  rintro m sl h' ⟨i, ⟨hm, hi⟩, hst⟩
  obtain ⟨rfl, rfl⟩ := St.mk.inj hst
  have hc := hb i; have hn := path_bound hb i
  refine RunA.seq ?_
  refine RunA.seq ?_
  refine RunA.region good ?_
  refine OpsA.pre 4 (by simp (maxSteps := 2000000) (disch := omega) only [go_sem, Nat.reduceBEq, Nat.reduceAdd, Nat.reduceSub, Nat.reduceLeDiff, Nat.reduceMul, reduceIte, reduceCtorEq, Int.reduceNeg, Int.reduceToNat, Nat.reduceLT, Int.reduceLE, Int.reduceLT, Int.reduceAdd, Int.reduceSub, Int.reduceMul, wrap64, read1, if_pos, if_neg]; rfl) ?_
  refine OpsA.nil ?_
  change RunA _ _ _ _ _
  refine RunA.split 10 rfl (fun e1 => ?_) (fun e1 => ?_)
  · try simp only [e1]
    have qe1 := e1; try simp only [decide_eq_true_eq, decide_eq_false_iff_not, Bool.not_eq_true', Bool.not_eq_false', Bool.not_eq_eq_eq_not, Bool.not_true, Bool.not_false, Int.not_le, Int.not_lt, beq_iff_eq, bne_iff_ne, ge_iff_le, gt_iff_lt, beq_eq_false_iff_ne, ne_eq, bne_eq_false_iff_eq] at qe1
    refine RunA.condT rfl ?_
    refine RunA.skip ?_
    change RunA _ _ _ _ _
    refine RunA.seq ?_
    refine RunA.block ?_
    refine RunA.seq ?_
    refine RunA.solo good plan29_5 (by kernel_rfl) (by kernel_rfl) ?_
    refine OpsS.pre 6 (by simp (maxSteps := 2000000) (disch := omega) only [go_sem, Nat.reduceBEq, Nat.reduceAdd, Nat.reduceSub, Nat.reduceLeDiff, Nat.reduceMul, reduceIte, reduceCtorEq, Int.reduceNeg, Int.reduceToNat, Nat.reduceLT, Int.reduceLE, Int.reduceLT, Int.reduceAdd, Int.reduceSub, Int.reduceMul, wrap64, read1, if_pos, if_neg, plan29_5E]; rfl) ?_
    refine OpsS.pre 3 (by simp (maxSteps := 2000000) (disch := omega) only [go_sem, Nat.reduceBEq, Nat.reduceAdd, Nat.reduceSub, Nat.reduceLeDiff, Nat.reduceMul, reduceIte, reduceCtorEq, Int.reduceNeg, Int.reduceToNat, Nat.reduceLT, Int.reduceLE, Int.reduceLT, Int.reduceAdd, Int.reduceSub, Int.reduceMul, wrap64, read1, if_pos, if_neg, plan29_5E]; rfl) ?_
    show _
    change RunA _ _ _ _ _
    refine RunA.region good ?_
    refine OpsA.pre 6 (by simp (maxSteps := 2000000) (disch := omega) only [go_sem, Nat.reduceBEq, Nat.reduceAdd, Nat.reduceSub, Nat.reduceLeDiff, Nat.reduceMul, reduceIte, reduceCtorEq, Int.reduceNeg, Int.reduceToNat, Nat.reduceLT, Int.reduceLE, Int.reduceLT, Int.reduceAdd, Int.reduceSub, Int.reduceMul, wrap64, read1, if_pos, if_neg]; rfl) ?_
    refine OpsA.pre 6 (by simp (maxSteps := 2000000) (disch := omega) only [go_sem, Nat.reduceBEq, Nat.reduceAdd, Nat.reduceSub, Nat.reduceLeDiff, Nat.reduceMul, reduceIte, reduceCtorEq, Int.reduceNeg, Int.reduceToNat, Nat.reduceLT, Int.reduceLE, Int.reduceLT, Int.reduceAdd, Int.reduceSub, Int.reduceMul, wrap64, read1, if_pos, if_neg]; rfl) ?_
    refine OpsA.pre 2 (by simp (maxSteps := 2000000) (disch := omega) only [go_sem, Nat.reduceBEq, Nat.reduceAdd, Nat.reduceSub, Nat.reduceLeDiff, Nat.reduceMul, reduceIte, reduceCtorEq, Int.reduceNeg, Int.reduceToNat, Nat.reduceLT, Int.reduceLE, Int.reduceLT, Int.reduceAdd, Int.reduceSub, Int.reduceMul, wrap64, read1, if_pos, if_neg]; rfl) ?_
    refine OpsA.nil ?_
    change RunA _ _ _ _ _
    refine RunA.region good ?_
    refine OpsA.pre 3 (by simp (maxSteps := 2000000) (disch := omega) only [go_sem, Nat.reduceBEq, Nat.reduceAdd, Nat.reduceSub, Nat.reduceLeDiff, Nat.reduceMul, reduceIte, reduceCtorEq, Int.reduceNeg, Int.reduceToNat, Nat.reduceLT, Int.reduceLE, Int.reduceLT, Int.reduceAdd, Int.reduceSub, Int.reduceMul, wrap64, read1, if_pos, if_neg]; rfl) ?_
    refine OpsA.nil ?_
    exact ⟨l.length - (i + 1), by omega, [vecI l, .any, .ptr h.length 0 0, .bool false, .ptr (h.length + 1) 0 0, .int .i64 (((i + 1) : Nat) : Int), .any, .any, .any, .any, .any, .any, .any, .any, .any, .any, .any, .any, .any, .any, .any, .any, .any, .any, .any, .any, .any, .any, .any, .any, .any, .any, .any, .any, .any, .any, .any, .any, .any, .any, .any, .any], ⟨(.inl (by first | rfl | (congr 1; omega))), (.inr rfl), (.inl (by first | rfl | (congr 1; omega))), (.inl (by first | rfl | (congr 1; omega))), (.inl (by first | rfl | (congr 1; omega))), (.inl (by first | rfl | (congr 1; omega))), (.inr rfl), (.inr rfl), (.inr rfl), (.inr rfl), (.inr rfl), (.inr rfl), (.inr rfl), (.inr rfl), (.inr rfl), (.inr rfl), (.inr rfl), (.inr rfl), (.inr rfl), (.inr rfl), (.inr rfl), (.inr rfl), (.inr rfl), (.inr rfl), (.inr rfl), (.inr rfl), (.inr rfl), (.inr rfl), (.inr rfl), (.inr rfl), (.inr rfl), (.inr rfl), (.inr rfl), (.inr rfl), (.inr rfl), (.inr rfl), (.inr rfl), (.inr rfl), (.inr rfl), (.inr rfl), (.inr rfl), (.inr rfl), trivial⟩, (i + 1), ⟨rfl, by omega⟩, rfl⟩
  · try simp only [e1]
    have qe1 := e1; try simp only [decide_eq_true_eq, decide_eq_false_iff_not, Bool.not_eq_true', Bool.not_eq_false', Bool.not_eq_eq_eq_not, Bool.not_true, Bool.not_false, Int.not_le, Int.not_lt, beq_iff_eq, bne_iff_ne, ge_iff_le, gt_iff_lt, beq_eq_false_iff_ne, ne_eq, bne_eq_false_iff_eq] at qe1
    refine RunA.condF rfl ?_
    refine RunA.exit ?_
    change RunA _ _ _ _ _
    refine RunA.seq ?_
    refine RunA.multi good plan29_7 [5, 6, 7, 8] (by kernel_rfl) (by kernel_rfl) ?_
    refine OpsM.pre (pd := []) 5 (by simp (maxSteps := 2000000) (disch := omega) only [go_sem, Nat.reduceBEq, Nat.reduceAdd, Nat.reduceSub, Nat.reduceLeDiff, Nat.reduceMul, reduceIte, reduceCtorEq, Int.reduceNeg, Int.reduceToNat, Nat.reduceLT, Int.reduceLE, Int.reduceLT, Int.reduceAdd, Int.reduceSub, Int.reduceMul, wrap64, read1, if_pos, if_neg, plan29_7E]; rfl) ?_
    refine OpsM.split 37 rfl (fun e2 => ?_) (fun e2 => ?_)
    · try simp only [e2]
      have qe2 := e2; try simp only [decide_eq_true_eq, decide_eq_false_iff_not, Bool.not_eq_true', Bool.not_eq_false', Bool.not_eq_eq_eq_not, Bool.not_true, Bool.not_false, Int.not_le, Int.not_lt, beq_iff_eq, bne_iff_ne, ge_iff_le, gt_iff_lt, beq_eq_false_iff_ne, ne_eq, bne_eq_false_iff_eq] at qe2
      refine OpsM.pre 6 (by simp (maxSteps := 2000000) (disch := omega) only [go_sem, Nat.reduceBEq, Nat.reduceAdd, Nat.reduceSub, Nat.reduceLeDiff, Nat.reduceMul, reduceIte, reduceCtorEq, Int.reduceNeg, Int.reduceToNat, Nat.reduceLT, Int.reduceLE, Int.reduceLT, Int.reduceAdd, Int.reduceSub, Int.reduceMul, wrap64, read1, if_pos, if_neg, plan29_7E]; rfl) ?_
      refine OpsM.nil (by simp only [pdAll, pdOne]; first | (simp (maxSteps := 2000000) (disch := omega) only [go_sem, Nat.reduceBEq, Nat.reduceAdd, Nat.reduceSub, Nat.reduceLeDiff, Nat.reduceMul, reduceIte, reduceCtorEq, Int.reduceNeg, Int.reduceToNat, Nat.reduceLT, Int.reduceLE, Int.reduceLT, Int.reduceAdd, Int.reduceSub, Int.reduceMul, wrap64, read1, if_pos, if_neg, plan29_7E]) | skip; repeat (first | trivial | refine ⟨?_, ?_⟩)) ?_
      change RunA _ _ _ _ _
      refine RunA.ret ?_
      refine Ends.mk (by simp only [res29, resA, resAs, resA1]; first | rfl | (simp (maxSteps := 2000000) (disch := omega) only [go_sem, Nat.reduceBEq, Nat.reduceAdd, Nat.reduceSub, Nat.reduceLeDiff, Nat.reduceMul, reduceIte, reduceCtorEq, Int.reduceNeg, Int.reduceToNat, Nat.reduceLT, Int.reduceLE, Int.reduceLT, Int.reduceAdd, Int.reduceSub, Int.reduceMul, wrap64, read1, if_pos, if_neg, plan29_7E]; rfl)) ?_
      exact ⟨_, _, rfl, by first | rfl | (simp only [frzT, frzP, optMap, get_app, get_app0]; rfl), by (have hil : i = l.length := by omega); subst hil; first | exact congrArg (fun b => AV.tup [effV (pathE l), .bool b]) (decide_eq_decide.2 (by simp only [goodP, pathE]; omega)) | exact congrArg (fun b => AV.tup [effV (pathE l), .bool b]) (decide_eq_false (by simp only [goodP, pathE]; omega)).symm⟩
    · try simp only [e2]
      have qe2 := e2; try simp only [decide_eq_true_eq, decide_eq_false_iff_not, Bool.not_eq_true', Bool.not_eq_false', Bool.not_eq_eq_eq_not, Bool.not_true, Bool.not_false, Int.not_le, Int.not_lt, beq_iff_eq, bne_iff_ne, ge_iff_le, gt_iff_lt, beq_eq_false_iff_ne, ne_eq, bne_eq_false_iff_eq] at qe2
      refine OpsM.pre 6 (by simp (maxSteps := 2000000) (disch := omega) only [go_sem, Nat.reduceBEq, Nat.reduceAdd, Nat.reduceSub, Nat.reduceLeDiff, Nat.reduceMul, reduceIte, reduceCtorEq, Int.reduceNeg, Int.reduceToNat, Nat.reduceLT, Int.reduceLE, Int.reduceLT, Int.reduceAdd, Int.reduceSub, Int.reduceMul, wrap64, read1, if_pos, if_neg, plan29_7E]; rfl) ?_
      refine OpsM.nil (by simp only [pdAll, pdOne]; first | (simp (maxSteps := 2000000) (disch := omega) only [go_sem, Nat.reduceBEq, Nat.reduceAdd, Nat.reduceSub, Nat.reduceLeDiff, Nat.reduceMul, reduceIte, reduceCtorEq, Int.reduceNeg, Int.reduceToNat, Nat.reduceLT, Int.reduceLE, Int.reduceLT, Int.reduceAdd, Int.reduceSub, Int.reduceMul, wrap64, read1, if_pos, if_neg, plan29_7E]) | skip; repeat (first | trivial | refine ⟨?_, ?_⟩)) ?_
      change RunA _ _ _ _ _
      refine RunA.ret ?_
      refine Ends.mk (by simp only [res29, resA, resAs, resA1]; first | rfl | (simp (maxSteps := 2000000) (disch := omega) only [go_sem, Nat.reduceBEq, Nat.reduceAdd, Nat.reduceSub, Nat.reduceLeDiff, Nat.reduceMul, reduceIte, reduceCtorEq, Int.reduceNeg, Int.reduceToNat, Nat.reduceLT, Int.reduceLE, Int.reduceLT, Int.reduceAdd, Int.reduceSub, Int.reduceMul, wrap64, read1, if_pos, if_neg, plan29_7E]; rfl)) ?_
      exact ⟨_, _, rfl, by first | rfl | (simp only [frzT, frzP, optMap, get_app, get_app0]; rfl), by (have hil : i = l.length := by omega); subst hil; first | exact congrArg (fun b => AV.tup [effV (pathE l), .bool b]) (decide_eq_decide.2 (by simp only [goodP, pathE]; omega)) | exact congrArg (fun b => AV.tup [effV (pathE l), .bool b]) (decide_eq_false (by simp only [goodP, pathE]; omega)).symm⟩

end Go.Proofs.Ytlmclkamedhmhaa
