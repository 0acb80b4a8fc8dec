/-
  THE LAW EffectRun. Written in part by a program of mine (gen24d.py, walk.py). Conditions: none.
-/
import Derived.Test.YtlmclkamedhmhaaEff24D
import Derived.Test.YtlmclkamedhmhaaDep14B
import Derived.Test.YtlmclkamedhmhaaAbsLoopD
namespace Go.Proofs.Ytlmclkamedhmhaa
open Go.Ab
set_option linter.unusedSimpArgs false
set_option linter.unusedVariables false
set_option maxRecDepth 10000
attribute [local go_sem] opsE opsSE stepS quietA wantA plainA pureA readA effA callPureA lenA minA maxA rho embT emb putA List.set List.getD_cons_zero List.getD_cons_succ List.getD_nil binA intBin isShift unA buildA fillA over partA loadA readAt writeAt newVarA virts addOff AV.cellsOf AV.storable AV.one UD.isAgg UD.known rd lenOf appendA sliceA boundA virtNone get_app get_app0 set_app set_app0 Array.toList List.take_succ_cons List.take_zero List.drop_succ_cons List.drop_zero List.getElem?_cons_succ List.getElem?_cons_zero List.getElem?_toArray Option.bind_some Option.map_some Option.map_none List.map_cons List.map_nil List.length_cons List.length_nil List.length_append Nat.zero_add Nat.add_zero Nat.le_refl Nat.one_mul Nat.mul_one List.append_assoc List.cons_append List.nil_append List.append_nil and_self and_true true_and true_or or_true if_true if_false Bool.false_eq_true not_false_eq_true bTT bTF bFT bFF Bool.not_true Bool.not_false decide_true decide_false Int.toNat_zero Int.toNat_one Int.toNat_natCast List.size_toArray ut3 sz3 ti3 ut4 sz4 ti4 ut23 sz23 ti23 ut34 sz34 ti34 ut61 sz61 ti61 vecI List.length_map Int.natCast_nonneg effV brokenE

def RunInv (fr k : Int) (x : E) (d : Int) (ok : Bool) : Prop := (validP x ∧ d = fr + x.net ∧ (ok = true ↔ fr ≤ k ∧ 0 ≤ fr + x.low ∧ fr + x.high ≤ k)) ∨ (x = brokenE ∧ ok = false)
theorem of_eq {c : Int} (h1 : -1 ≤ c) (h2 : c ≤ 1) : ofE c = ⟨if 0 < c then 0 else c, if 0 > c then 0 else c, c⟩ := if_neg (by omega)
theorem of_valid {c : Int} (h1 : -1 ≤ c) (h2 : c ≤ 1) : validP (ofE c) := by
  rw [of_eq h1 h2]
  simp only [validP]
  omega
theorem then_broken (y : E) : thenE brokenE y = brokenE := if_neg fun h => broken_bad h.1
theorem run_step {fr k : Int} {x : E} {d c : Int} {ok : Bool} (hf : 0 ≤ fr ∧ fr ≤ 8) (hk : 0 ≤ k ∧ k ≤ 8) (h1 : -1 ≤ c) (h2 : c ≤ 1) (h : RunInv fr k x d ok) : RunInv fr k (thenE x (ofE c)) (d + c) (ok && (decide (0 ≤ d + c) && decide (d + c ≤ k))) := by
  rcases h with ⟨hx, rfl, hok⟩ | ⟨rfl, rfl⟩
  · obtain ⟨t1, t2⟩ := then_eq hx (of_valid h1 h2)
    by_cases hv : validP (thenR x (ofE c))
    · rw [t1 hv]
      refine .inl ⟨hv, ?_, ?_⟩
      · simp only [thenR, of_eq h1 h2]; omega
      · rw [Bool.and_eq_true, Bool.and_eq_true, hok, decide_eq_true_eq, decide_eq_true_eq]
        simp only [thenR, of_eq h1 h2]
        simp only [validP] at hx
        omega
    · rw [t2 hv]
      refine .inr ⟨rfl, ?_⟩
      have hn : ¬ (0 ≤ fr + x.net + c ∧ fr + x.net + c ≤ k) := by
        intro hh
        apply hv
        simp only [thenR, of_eq h1 h2, validP] at *
        omega
      cases ok with
      | false => rfl
      | true =>
        rw [Bool.true_and, Bool.and_eq_false_iff, decide_eq_false_iff_not, decide_eq_false_iff_not]
        omega
  · rw [then_broken]
    exact .inr ⟨rfl, rfl⟩
theorem run_A {fr k : Int} {x : E} {d c : Int} {ok : Bool} (ho : ok = false) (hf : 0 ≤ fr ∧ fr ≤ 8) (hk : 0 ≤ k ∧ k ≤ 8) (hc : -1 ≤ c ∧ c ≤ 1) (h : RunInv fr k x d ok) : RunInv fr k (thenE x (ofE c)) (d + c) false := by
  subst ho
  exact run_step hf hk hc.1 hc.2 h
theorem run_B {fr k : Int} {x : E} {d c : Int} {ok : Bool} (ho : ok = true) (hf : 0 ≤ fr ∧ fr ≤ 8) (hk : 0 ≤ k ∧ k ≤ 8) (hc : -1 ≤ c ∧ c ≤ 1) (hd : d + c < 0) (h : RunInv fr k x d ok) : RunInv fr k (thenE x (ofE c)) (d + c) false := by
  subst ho
  have t := run_step hf hk hc.1 hc.2 h
  rw [decide_eq_false (show ¬ 0 ≤ d + c from by omega)] at t
  exact t
theorem run_C {fr k : Int} {x : E} {d c : Int} {ok : Bool} (ho : ok = true) (hf : 0 ≤ fr ∧ fr ≤ 8) (hk : 0 ≤ k ∧ k ≤ 8) (hc : -1 ≤ c ∧ c ≤ 1) (hd : 0 ≤ d + c) (h : RunInv fr k x d ok) : RunInv fr k (thenE x (ofE c)) (d + c) (decide (d + c ≤ k)) := by
  subst ho
  have t := run_step hf hk hc.1 hc.2 h
  rw [decide_eq_true hd] at t
  exact t
theorem run_0 {fr k : Int} (hf : 0 ≤ fr) : RunInv fr k ⟨0, 0, 0⟩ fr (decide (fr ≤ k)) := by
  refine .inl ⟨by decide, by simp, ?_⟩
  rw [decide_eq_true_eq]
  simp
  omega
theorem run_end {fr k : Int} {x : E} {d : Int} {ok : Bool} (hf : 0 ≤ fr ∧ fr ≤ 8) (hk : 0 ≤ k ∧ k ≤ 8) (h : RunInv fr k x d ok) : decide (fitsP x fr k) = ok := by
  rcases h with ⟨hx, rfl, hok⟩ | ⟨rfl, rfl⟩
  · rw [Bool.eq_iff_iff, hok, decide_eq_true_eq]
    simp only [fitsP]
    have hx' := hx
    simp only [validP] at hx'
    constructor
    · intro h; omega
    · intro h; exact ⟨hx, by omega⟩
  · rw [decide_eq_false_iff_not]
    exact fun h => broken_bad h.1
theorem ch_get (l : List Int) (i : Nat) : -1 ≤ (chL l).getD i 0 ∧ (chL l).getD i 0 ≤ 1 := by
  rw [List.getD_eq_getElem?_getD]
  cases h : (chL l)[i]? with
  | none => simp
  | some y =>
    obtain ⟨z, _, rfl⟩ := List.mem_map.1 (List.mem_of_getElem? h)
    exact ch_bound z
theorem ch_len (l : List Int) : (chL l).length ≤ 60 := by simp [chL]; omega

def plan8_8 : Plan := ⟨[[], [], [], [1, 2], [1, 2, 3], [1, 2, 3, 4], [0, 1, 2, 3, 4, 5], [0, 1, 2, 3, 4, 5, 6]], [false, false, false, false, false, false, false, true]⟩
theorem plan8_8E (i : Nat) : plan8_8.isE i = [false, false, false, false, false, false, false, true].getD i false := rfl

theorem c8 {h : Heap} (l : List Int) (p q : Int) (hl : l.length < 9223372036854775808) : CallA Try.prog cfg 8 [vecI l, .int .i64 p, .int .i64 q] h (fun y' h' => y' = .bool true ∧ h' = h) := by
  have wm0 := @within_lo p 9 (by omega); have wm1 := @within_hi p 9 (by omega)
  have wk0 := @within_lo q 9 (by omega); have wk1 := @within_hi q 9 (by omega)
  refine CallA.body (Q := fun y' => y' = .bool true) good fn8 rfl ?_
  simp only [ntm8, List.length_cons, List.length_nil, Nat.reduceAdd, Nat.reduceSub, List.replicate, List.cons_append, List.nil_append]
  refine RunA.seq ?_
  refine RunA.region good ?_
  refine OpsA.pre 1 (by simp (maxSteps := 2000000) (disch := omega) only [go_sem, Nat.reduceAdd, Nat.reduceSub, Nat.reduceLeDiff, Nat.reduceMul, reduceIte, reduceCtorEq, Int.reduceNeg, Int.reduceToNat, Nat.reduceLT, Int.reduceLE, Int.reduceLT, Int.reduceAdd, Int.reduceSub, Int.reduceMul, wrap64, read1, etaE, eq_self, beq_self_eq_true, if_pos, if_neg]; rfl) ?_
  refine OpsA.nil ?_
  change RunA _ _ _ _ _
  refine RunA.seq ?_
  refine RunA.region good ?_
  refine OpsA.pre 1 (by simp (maxSteps := 2000000) (disch := omega) only [go_sem, Nat.reduceAdd, Nat.reduceSub, Nat.reduceLeDiff, Nat.reduceMul, reduceIte, reduceCtorEq, Int.reduceNeg, Int.reduceToNat, Nat.reduceLT, Int.reduceLE, Int.reduceLT, Int.reduceAdd, Int.reduceSub, Int.reduceMul, wrap64, read1, etaE, eq_self, beq_self_eq_true, if_pos, if_neg]; rfl) ?_
  refine OpsA.callQ rfl rfl rfl hb28 (c28 l hl) ?_
  refine OpsA.pre 1 (by simp (maxSteps := 2000000) (disch := omega) only [go_sem, Nat.reduceAdd, Nat.reduceSub, Nat.reduceLeDiff, Nat.reduceMul, reduceIte, reduceCtorEq, Int.reduceNeg, Int.reduceToNat, Nat.reduceLT, Int.reduceLE, Int.reduceLT, Int.reduceAdd, Int.reduceSub, Int.reduceMul, wrap64, read1, etaE, eq_self, beq_self_eq_true, if_pos, if_neg]; rfl) ?_
  refine OpsA.nil ?_
  change RunA _ _ _ _ _
  refine RunA.seq ?_
  refine RunA.region good ?_
  refine OpsA.pre 1 (by simp (maxSteps := 2000000) (disch := omega) only [go_sem, Nat.reduceAdd, Nat.reduceSub, Nat.reduceLeDiff, Nat.reduceMul, reduceIte, reduceCtorEq, Int.reduceNeg, Int.reduceToNat, Nat.reduceLT, Int.reduceLE, Int.reduceLT, Int.reduceAdd, Int.reduceSub, Int.reduceMul, wrap64, read1, etaE, eq_self, beq_self_eq_true, if_pos, if_neg]; rfl) ?_
  refine OpsA.callQ rfl rfl rfl hb16 (c16 _ _ (by omega) (by omega)) ?_
  refine OpsA.pre 1 (by simp (maxSteps := 2000000) (disch := omega) only [go_sem, Nat.reduceAdd, Nat.reduceSub, Nat.reduceLeDiff, Nat.reduceMul, reduceIte, reduceCtorEq, Int.reduceNeg, Int.reduceToNat, Nat.reduceLT, Int.reduceLE, Int.reduceLT, Int.reduceAdd, Int.reduceSub, Int.reduceMul, wrap64, read1, etaE, eq_self, beq_self_eq_true, if_pos, if_neg]; rfl) ?_
  refine OpsA.callQ rfl rfl rfl hb16 (c16 _ _ (by omega) (by omega)) ?_
  refine OpsA.pre 2 (by simp (maxSteps := 2000000) (disch := omega) only [go_sem, Nat.reduceAdd, Nat.reduceSub, Nat.reduceLeDiff, Nat.reduceMul, reduceIte, reduceCtorEq, Int.reduceNeg, Int.reduceToNat, Nat.reduceLT, Int.reduceLE, Int.reduceLT, Int.reduceAdd, Int.reduceSub, Int.reduceMul, wrap64, read1, etaE, eq_self, beq_self_eq_true, if_pos, if_neg]; rfl) ?_
  refine OpsA.nil ?_
  change RunA _ _ _ _ _
  refine RunA.seq ?_
  refine RunA.region good ?_
  refine OpsA.pre 3 (by simp (maxSteps := 2000000) (disch := omega) only [go_sem, Nat.reduceAdd, Nat.reduceSub, Nat.reduceLeDiff, Nat.reduceMul, reduceIte, reduceCtorEq, Int.reduceNeg, Int.reduceToNat, Nat.reduceLT, Int.reduceLE, Int.reduceLT, Int.reduceAdd, Int.reduceSub, Int.reduceMul, wrap64, read1, etaE, eq_self, beq_self_eq_true, if_pos, if_neg]; rfl) ?_
  refine OpsA.nil ?_
  change RunA _ _ _ _ _
  refine RunA.seq ?_
  refine RunA.region good ?_
  refine OpsA.pre 6 (by simp (maxSteps := 2000000) (disch := omega) only [go_sem, Nat.reduceAdd, Nat.reduceSub, Nat.reduceLeDiff, Nat.reduceMul, reduceIte, reduceCtorEq, Int.reduceNeg, Int.reduceToNat, Nat.reduceLT, Int.reduceLE, Int.reduceLT, Int.reduceAdd, Int.reduceSub, Int.reduceMul, wrap64, read1, etaE, eq_self, beq_self_eq_true, if_pos, if_neg]; rfl) ?_
  refine OpsA.nil ?_
  change RunA _ _ _ _ _
  refine RunA.seq ?_
  refine RunA.seq ?_
  refine RunA.region good ?_
  refine OpsA.pre 1 (by simp (maxSteps := 2000000) (disch := omega) only [go_sem, Nat.reduceAdd, Nat.reduceSub, Nat.reduceLeDiff, Nat.reduceMul, reduceIte, reduceCtorEq, Int.reduceNeg, Int.reduceToNat, Nat.reduceLT, Int.reduceLE, Int.reduceLT, Int.reduceAdd, Int.reduceSub, Int.reduceMul, wrap64, read1, etaE, eq_self, beq_self_eq_true, if_pos, if_neg]; rfl) ?_
  refine OpsA.nil ?_
  change RunA _ _ _ _ _
  refine RunA.block ?_
  refine RunA.loopL (fun m st => ∃ (i : Nat) (x : E) (d : Int) (ok : Bool), (m = (chL l).length - i ∧ RunInv (within p 9) (within q 9) x d ok ∧ (-9 - ((i : Nat) : Int) ≤ d ∧ d ≤ 9 + ((i : Nat) : Int)) ∧ i ≤ (chL l).length) ∧ st = ⟨[vecI l, .int .i64 (within p 9), .int .i64 (within q 9), .any, .any, .any, .bool false, vecI (chL l), .ptr h.length 0 0, .bool ok, .int .i64 d, .int .i64 ((i : Nat) : Int), .any, .any, .any, .any, .any, .any, .any, .any, .any, .any, .any, .any, .any, .any, .any, .any, .any, .any, .any, .any, .any, .any, .any, .any, .any, .any, .any, .any, .any, .any, .any, .any, .any, .any, .any, .any, .any, .any, .any, .any, .any, .any, .any, .any, .any, .any, .any, .any, .any], h ++ [⟨0, false, 23, 3, [.int .i64 (x : E).low, .int .i64 (x : E).high, .int .i64 (x : E).net]⟩]⟩) _ ⟨[vecI l, .int .i64 (within p 9), .int .i64 (within q 9), .any, .any, .any, .bool false, vecI (chL l), .ptr h.length 0 0, .bool _, .int .i64 (within p 9), .int .i64 ((0 : Nat) : Int), .any, .any, .any, .any, .any, .any, .any, .any, .any, .any, .any, .any, .any, .any, .any, .any, .any, .any, .any, .any, .any, .any, .any, .any, .any, .any, .any, .any, .any, .any, .any, .any, .any, .any, .any, .any, .any, .any, .any, .any, .any, .any, .any, .any, .any, .any, .any, .any, .any], ⟨(.inl (by first | rfl | (congr 1; omega))), (.inl (by first | rfl | (congr 1; omega))), (.inl (by first | rfl | (congr 1; omega))), (.inr rfl), (.inr rfl), (.inr rfl), (.inl (by first | rfl | (congr 1; omega))), (.inl (by first | rfl | (congr 1; omega))), (.inl (by first | rfl | (congr 1; omega))), (.inl (by first | rfl | (congr 1; omega))), (.inl (by first | rfl | (congr 1; omega))), (.inl (by first | rfl | (congr 1; omega))), (.inr rfl), (.inr rfl), (.inr rfl), (.inr rfl), (.inr rfl), (.inr rfl), (.inr rfl), (.inr rfl), (.inr rfl), (.inr rfl), (.inr rfl), (.inr rfl), (.inr rfl), (.inr rfl), (.inr rfl), (.inr rfl), (.inr rfl), (.inr rfl), (.inr rfl), (.inr rfl), (.inr rfl), (.inr rfl), (.inr rfl), (.inr rfl), (.inr rfl), (.inr rfl), (.inr rfl), (.inr rfl), (.inr rfl), (.inr rfl), (.inr rfl), (.inr rfl), (.inr rfl), (.inr rfl), (.inr rfl), (.inr rfl), (.inr rfl), (.inr rfl), (.inr rfl), (.inr rfl), (.inr rfl), (.inr rfl), (.inr rfl), (.inr rfl), (.inr rfl), (.inr rfl), (.inr rfl), (.inr rfl), (.inr rfl), trivial⟩, 0, ⟨0, 0, 0⟩, (within p 9), _, ⟨rfl, run_0 wm0, by omega, by omega⟩, rfl⟩ ?_
  rintro m sl h' ⟨i, x, d, ok, ⟨hm, hI, hd, hi⟩, hst⟩
  obtain ⟨rfl, rfl⟩ := St.mk.inj hst
  have hc := ch_get l i; have hcl := ch_len l
  refine RunA.seq ?_
  refine RunA.seq ?_
  refine RunA.region good ?_
  refine OpsA.pre 4 (by simp (maxSteps := 2000000) (disch := omega) only [go_sem, Nat.reduceAdd, Nat.reduceSub, Nat.reduceLeDiff, Nat.reduceMul, reduceIte, reduceCtorEq, Int.reduceNeg, Int.reduceToNat, Nat.reduceLT, Int.reduceLE, Int.reduceLT, Int.reduceAdd, Int.reduceSub, Int.reduceMul, wrap64, read1, etaE, eq_self, beq_self_eq_true, if_pos, if_neg]; rfl) ?_
  refine OpsA.nil ?_
  change RunA _ _ _ _ _
  refine RunA.split 26 rfl (fun e1 => ?_) (fun e1 => ?_)
  · try simp only [e1]
    have qe1 := e1; try simp only [decide_eq_true_eq, decide_eq_false_iff_not, Bool.not_eq_true', Bool.not_eq_false', Bool.not_eq_eq_eq_not, Bool.not_true, Bool.not_false, Int.not_le, Int.not_lt, beq_iff_eq, bne_iff_ne, ge_iff_le, gt_iff_lt, beq_eq_false_iff_ne, ne_eq, bne_eq_false_iff_eq] at qe1
    refine RunA.condT rfl ?_
    refine RunA.skip ?_
    change RunA _ _ _ _ _
    refine RunA.seq ?_
    refine RunA.block ?_
    refine RunA.seq ?_
    refine RunA.solo good plan8_8 (by kernel_rfl) (by kernel_rfl) ?_
    refine OpsS.pre 5 (by simp (maxSteps := 2000000) (disch := omega) only [go_sem, Nat.reduceAdd, Nat.reduceSub, Nat.reduceLeDiff, Nat.reduceMul, reduceIte, reduceCtorEq, Int.reduceNeg, Int.reduceToNat, Nat.reduceLT, Int.reduceLE, Int.reduceLT, Int.reduceAdd, Int.reduceSub, Int.reduceMul, wrap64, read1, etaE, eq_self, beq_self_eq_true, if_pos, if_neg, plan8_8E]; rfl) ?_
    refine OpsS.call rfl rfl rfl hb17 (c17 _) ?_
    refine OpsS.call rfl rfl rfl hb24 (d24 _ _ _ _ _ _) ?_
    refine OpsS.pre 1 (by simp (maxSteps := 2000000) (disch := omega) only [go_sem, Nat.reduceAdd, Nat.reduceSub, Nat.reduceLeDiff, Nat.reduceMul, reduceIte, reduceCtorEq, Int.reduceNeg, Int.reduceToNat, Nat.reduceLT, Int.reduceLE, Int.reduceLT, Int.reduceAdd, Int.reduceSub, Int.reduceMul, wrap64, read1, etaE, eq_self, beq_self_eq_true, if_pos, if_neg, plan8_8E]; rfl) ?_
    show _
    change RunA _ _ _ _ _
    refine RunA.seq ?_
    refine RunA.region good ?_
    refine OpsA.pre 6 (by simp (maxSteps := 2000000) (disch := omega) only [go_sem, Nat.reduceAdd, Nat.reduceSub, Nat.reduceLeDiff, Nat.reduceMul, reduceIte, reduceCtorEq, Int.reduceNeg, Int.reduceToNat, Nat.reduceLT, Int.reduceLE, Int.reduceLT, Int.reduceAdd, Int.reduceSub, Int.reduceMul, wrap64, read1, etaE, eq_self, beq_self_eq_true, if_pos, if_neg]; rfl) ?_
    refine OpsA.pre 1 (by simp (maxSteps := 2000000) (disch := omega) only [go_sem, Nat.reduceAdd, Nat.reduceSub, Nat.reduceLeDiff, Nat.reduceMul, reduceIte, reduceCtorEq, Int.reduceNeg, Int.reduceToNat, Nat.reduceLT, Int.reduceLE, Int.reduceLT, Int.reduceAdd, Int.reduceSub, Int.reduceMul, wrap64, read1, etaE, eq_self, beq_self_eq_true, if_pos, if_neg]; rfl) ?_
    refine OpsA.nil ?_
    change RunA _ _ _ _ _
    refine RunA.region good ?_
    refine OpsA.pre 2 (by simp (maxSteps := 2000000) (disch := omega) only [go_sem, Nat.reduceAdd, Nat.reduceSub, Nat.reduceLeDiff, Nat.reduceMul, reduceIte, reduceCtorEq, Int.reduceNeg, Int.reduceToNat, Nat.reduceLT, Int.reduceLE, Int.reduceLT, Int.reduceAdd, Int.reduceSub, Int.reduceMul, wrap64, read1, etaE, eq_self, beq_self_eq_true, if_pos, if_neg]; rfl) ?_
    refine OpsA.split 43 rfl (fun e2 => ?_) (fun e2 => ?_)
    · try simp only [e2]
      have qe2 := e2; try simp only [decide_eq_true_eq, decide_eq_false_iff_not, Bool.not_eq_true', Bool.not_eq_false', Bool.not_eq_eq_eq_not, Bool.not_true, Bool.not_false, Int.not_le, Int.not_lt, beq_iff_eq, bne_iff_ne, ge_iff_le, gt_iff_lt, beq_eq_false_iff_ne, ne_eq, bne_eq_false_iff_eq] at qe2
      refine OpsA.pre 4 (by simp (maxSteps := 2000000) (disch := omega) only [go_sem, Nat.reduceAdd, Nat.reduceSub, Nat.reduceLeDiff, Nat.reduceMul, reduceIte, reduceCtorEq, Int.reduceNeg, Int.reduceToNat, Nat.reduceLT, Int.reduceLE, Int.reduceLT, Int.reduceAdd, Int.reduceSub, Int.reduceMul, wrap64, read1, etaE, eq_self, beq_self_eq_true, if_pos, if_neg]; rfl) ?_
      refine OpsA.split 47 rfl (fun e3 => ?_) (fun e3 => ?_)
      · try simp only [e3]
        have qe3 := e3; try simp only [decide_eq_true_eq, decide_eq_false_iff_not, Bool.not_eq_true', Bool.not_eq_false', Bool.not_eq_eq_eq_not, Bool.not_true, Bool.not_false, Int.not_le, Int.not_lt, beq_iff_eq, bne_iff_ne, ge_iff_le, gt_iff_lt, beq_eq_false_iff_ne, ne_eq, bne_eq_false_iff_eq] at qe3
        refine OpsA.pre 5 (by simp (maxSteps := 2000000) (disch := omega) only [go_sem, Nat.reduceAdd, Nat.reduceSub, Nat.reduceLeDiff, Nat.reduceMul, reduceIte, reduceCtorEq, Int.reduceNeg, Int.reduceToNat, Nat.reduceLT, Int.reduceLE, Int.reduceLT, Int.reduceAdd, Int.reduceSub, Int.reduceMul, wrap64, read1, etaE, eq_self, beq_self_eq_true, if_pos, if_neg]; rfl) ?_
        refine OpsA.nil ?_
        change RunA _ _ _ _ _
        refine RunA.region good ?_
        refine OpsA.pre 3 (by simp (maxSteps := 2000000) (disch := omega) only [go_sem, Nat.reduceAdd, Nat.reduceSub, Nat.reduceLeDiff, Nat.reduceMul, reduceIte, reduceCtorEq, Int.reduceNeg, Int.reduceToNat, Nat.reduceLT, Int.reduceLE, Int.reduceLT, Int.reduceAdd, Int.reduceSub, Int.reduceMul, wrap64, read1, etaE, eq_self, beq_self_eq_true, if_pos, if_neg]; rfl) ?_
        refine OpsA.nil ?_
        exact ⟨(chL l).length - (i + 1), by omega, [vecI l, .int .i64 (within p 9), .int .i64 (within q 9), .any, .any, .any, .bool false, vecI (chL l), .ptr h.length 0 0, .bool _, .int .i64 (d + ((chL l).getD i 0)), .int .i64 (((i + 1) : Nat) : Int), .any, .any, .any, .any, .any, .any, .any, .any, .any, .any, .any, .any, .any, .any, .any, .any, .any, .any, .any, .any, .any, .any, .any, .any, .any, .any, .any, .any, .any, .any, .any, .any, .any, .any, .any, .any, .any, .any, .any, .any, .any, .any, .any, .any, .any, .any, .any, .any, .any], ⟨(.inl (by first | rfl | (congr 1; omega))), (.inl (by first | rfl | (congr 1; omega))), (.inl (by first | rfl | (congr 1; omega))), (.inr rfl), (.inr rfl), (.inr rfl), (.inl (by first | rfl | (congr 1; omega))), (.inl (by first | rfl | (congr 1; omega))), (.inl (by first | rfl | (congr 1; omega))), (.inl (by first | rfl | (congr 1; omega))), (.inl (by first | rfl | (congr 1; omega))), (.inl (by first | rfl | (congr 1; omega))), (.inr rfl), (.inr rfl), (.inr rfl), (.inr rfl), (.inr rfl), (.inr rfl), (.inr rfl), (.inr rfl), (.inr rfl), (.inr rfl), (.inr rfl), (.inr rfl), (.inr rfl), (.inr rfl), (.inr rfl), (.inr rfl), (.inr rfl), (.inr rfl), (.inr rfl), (.inr rfl), (.inr rfl), (.inr rfl), (.inr rfl), (.inr rfl), (.inr rfl), (.inr rfl), (.inr rfl), (.inr rfl), (.inr rfl), (.inr rfl), (.inr rfl), (.inr rfl), (.inr rfl), (.inr rfl), (.inr rfl), (.inr rfl), (.inr rfl), (.inr rfl), (.inr rfl), (.inr rfl), (.inr rfl), (.inr rfl), (.inr rfl), (.inr rfl), (.inr rfl), (.inr rfl), (.inr rfl), (.inr rfl), (.inr rfl), trivial⟩, (i + 1), (thenE x (ofE ((chL l).getD i 0))), (d + ((chL l).getD i 0)), _, ⟨rfl, (by first | exact run_C e2 ⟨wm0, by omega⟩ ⟨wk0, by omega⟩ hc (by omega) hI | exact run_B e2 ⟨wm0, by omega⟩ ⟨wk0, by omega⟩ hc (by omega) hI | exact run_A e2 ⟨wm0, by omega⟩ ⟨wk0, by omega⟩ hc hI), by omega, by omega⟩, rfl⟩
      · try simp only [e3]
        have qe3 := e3; try simp only [decide_eq_true_eq, decide_eq_false_iff_not, Bool.not_eq_true', Bool.not_eq_false', Bool.not_eq_eq_eq_not, Bool.not_true, Bool.not_false, Int.not_le, Int.not_lt, beq_iff_eq, bne_iff_ne, ge_iff_le, gt_iff_lt, beq_eq_false_iff_ne, ne_eq, bne_eq_false_iff_eq] at qe3
        refine OpsA.pre 5 (by simp (maxSteps := 2000000) (disch := omega) only [go_sem, Nat.reduceAdd, Nat.reduceSub, Nat.reduceLeDiff, Nat.reduceMul, reduceIte, reduceCtorEq, Int.reduceNeg, Int.reduceToNat, Nat.reduceLT, Int.reduceLE, Int.reduceLT, Int.reduceAdd, Int.reduceSub, Int.reduceMul, wrap64, read1, etaE, eq_self, beq_self_eq_true, if_pos, if_neg]; rfl) ?_
        refine OpsA.nil ?_
        change RunA _ _ _ _ _
        refine RunA.region good ?_
        refine OpsA.pre 3 (by simp (maxSteps := 2000000) (disch := omega) only [go_sem, Nat.reduceAdd, Nat.reduceSub, Nat.reduceLeDiff, Nat.reduceMul, reduceIte, reduceCtorEq, Int.reduceNeg, Int.reduceToNat, Nat.reduceLT, Int.reduceLE, Int.reduceLT, Int.reduceAdd, Int.reduceSub, Int.reduceMul, wrap64, read1, etaE, eq_self, beq_self_eq_true, if_pos, if_neg]; rfl) ?_
        refine OpsA.nil ?_
        exact ⟨(chL l).length - (i + 1), by omega, [vecI l, .int .i64 (within p 9), .int .i64 (within q 9), .any, .any, .any, .bool false, vecI (chL l), .ptr h.length 0 0, .bool _, .int .i64 (d + ((chL l).getD i 0)), .int .i64 (((i + 1) : Nat) : Int), .any, .any, .any, .any, .any, .any, .any, .any, .any, .any, .any, .any, .any, .any, .any, .any, .any, .any, .any, .any, .any, .any, .any, .any, .any, .any, .any, .any, .any, .any, .any, .any, .any, .any, .any, .any, .any, .any, .any, .any, .any, .any, .any, .any, .any, .any, .any, .any, .any], ⟨(.inl (by first | rfl | (congr 1; omega))), (.inl (by first | rfl | (congr 1; omega))), (.inl (by first | rfl | (congr 1; omega))), (.inr rfl), (.inr rfl), (.inr rfl), (.inl (by first | rfl | (congr 1; omega))), (.inl (by first | rfl | (congr 1; omega))), (.inl (by first | rfl | (congr 1; omega))), (.inl (by first | rfl | (congr 1; omega))), (.inl (by first | rfl | (congr 1; omega))), (.inl (by first | rfl | (congr 1; omega))), (.inr rfl), (.inr rfl), (.inr rfl), (.inr rfl), (.inr rfl), (.inr rfl), (.inr rfl), (.inr rfl), (.inr rfl), (.inr rfl), (.inr rfl), (.inr rfl), (.inr rfl), (.inr rfl), (.inr rfl), (.inr rfl), (.inr rfl), (.inr rfl), (.inr rfl), (.inr rfl), (.inr rfl), (.inr rfl), (.inr rfl), (.inr rfl), (.inr rfl), (.inr rfl), (.inr rfl), (.inr rfl), (.inr rfl), (.inr rfl), (.inr rfl), (.inr rfl), (.inr rfl), (.inr rfl), (.inr rfl), (.inr rfl), (.inr rfl), (.inr rfl), (.inr rfl), (.inr rfl), (.inr rfl), (.inr rfl), (.inr rfl), (.inr rfl), (.inr rfl), (.inr rfl), (.inr rfl), (.inr rfl), (.inr rfl), trivial⟩, (i + 1), (thenE x (ofE ((chL l).getD i 0))), (d + ((chL l).getD i 0)), _, ⟨rfl, (by first | exact run_C e2 ⟨wm0, by omega⟩ ⟨wk0, by omega⟩ hc (by omega) hI | exact run_B e2 ⟨wm0, by omega⟩ ⟨wk0, by omega⟩ hc (by omega) hI | exact run_A e2 ⟨wm0, by omega⟩ ⟨wk0, by omega⟩ hc hI), by omega, by omega⟩, rfl⟩
    · try simp only [e2]
      have qe2 := e2; try simp only [decide_eq_true_eq, decide_eq_false_iff_not, Bool.not_eq_true', Bool.not_eq_false', Bool.not_eq_eq_eq_not, Bool.not_true, Bool.not_false, Int.not_le, Int.not_lt, beq_iff_eq, bne_iff_ne, ge_iff_le, gt_iff_lt, beq_eq_false_iff_ne, ne_eq, bne_eq_false_iff_eq] at qe2
      refine OpsA.pre 6 (by simp (maxSteps := 2000000) (disch := omega) only [go_sem, Nat.reduceAdd, Nat.reduceSub, Nat.reduceLeDiff, Nat.reduceMul, reduceIte, reduceCtorEq, Int.reduceNeg, Int.reduceToNat, Nat.reduceLT, Int.reduceLE, Int.reduceLT, Int.reduceAdd, Int.reduceSub, Int.reduceMul, wrap64, read1, etaE, eq_self, beq_self_eq_true, if_pos, if_neg]; rfl) ?_
      refine OpsA.pre 3 (by simp (maxSteps := 2000000) (disch := omega) only [go_sem, Nat.reduceAdd, Nat.reduceSub, Nat.reduceLeDiff, Nat.reduceMul, reduceIte, reduceCtorEq, Int.reduceNeg, Int.reduceToNat, Nat.reduceLT, Int.reduceLE, Int.reduceLT, Int.reduceAdd, Int.reduceSub, Int.reduceMul, wrap64, read1, etaE, eq_self, beq_self_eq_true, if_pos, if_neg]; rfl) ?_
      refine OpsA.nil ?_
      change RunA _ _ _ _ _
      refine RunA.region good ?_
      refine OpsA.pre 3 (by simp (maxSteps := 2000000) (disch := omega) only [go_sem, Nat.reduceAdd, Nat.reduceSub, Nat.reduceLeDiff, Nat.reduceMul, reduceIte, reduceCtorEq, Int.reduceNeg, Int.reduceToNat, Nat.reduceLT, Int.reduceLE, Int.reduceLT, Int.reduceAdd, Int.reduceSub, Int.reduceMul, wrap64, read1, etaE, eq_self, beq_self_eq_true, if_pos, if_neg]; rfl) ?_
      refine OpsA.nil ?_
      exact ⟨(chL l).length - (i + 1), by omega, [vecI l, .int .i64 (within p 9), .int .i64 (within q 9), .any, .any, .any, .bool false, vecI (chL l), .ptr h.length 0 0, .bool _, .int .i64 (d + ((chL l).getD i 0)), .int .i64 (((i + 1) : Nat) : Int), .any, .any, .any, .any, .any, .any, .any, .any, .any, .any, .any, .any, .any, .any, .any, .any, .any, .any, .any, .any, .any, .any, .any, .any, .any, .any, .any, .any, .any, .any, .any, .any, .any, .any, .any, .any, .any, .any, .any, .any, .any, .any, .any, .any, .any, .any, .any, .any, .any], ⟨(.inl (by first | rfl | (congr 1; omega))), (.inl (by first | rfl | (congr 1; omega))), (.inl (by first | rfl | (congr 1; omega))), (.inr rfl), (.inr rfl), (.inr rfl), (.inl (by first | rfl | (congr 1; omega))), (.inl (by first | rfl | (congr 1; omega))), (.inl (by first | rfl | (congr 1; omega))), (.inl (by first | rfl | (congr 1; omega))), (.inl (by first | rfl | (congr 1; omega))), (.inl (by first | rfl | (congr 1; omega))), (.inr rfl), (.inr rfl), (.inr rfl), (.inr rfl), (.inr rfl), (.inr rfl), (.inr rfl), (.inr rfl), (.inr rfl), (.inr rfl), (.inr rfl), (.inr rfl), (.inr rfl), (.inr rfl), (.inr rfl), (.inr rfl), (.inr rfl), (.inr rfl), (.inr rfl), (.inr rfl), (.inr rfl), (.inr rfl), (.inr rfl), (.inr rfl), (.inr rfl), (.inr rfl), (.inr rfl), (.inr rfl), (.inr rfl), (.inr rfl), (.inr rfl), (.inr rfl), (.inr rfl), (.inr rfl), (.inr rfl), (.inr rfl), (.inr rfl), (.inr rfl), (.inr rfl), (.inr rfl), (.inr rfl), (.inr rfl), (.inr rfl), (.inr rfl), (.inr rfl), (.inr rfl), (.inr rfl), (.inr rfl), (.inr rfl), trivial⟩, (i + 1), (thenE x (ofE ((chL l).getD i 0))), (d + ((chL l).getD i 0)), _, ⟨rfl, (by first | exact run_C e2 ⟨wm0, by omega⟩ ⟨wk0, by omega⟩ hc (by omega) hI | exact run_B e2 ⟨wm0, by omega⟩ ⟨wk0, by omega⟩ hc (by omega) hI | exact run_A e2 ⟨wm0, by omega⟩ ⟨wk0, by omega⟩ hc hI), by omega, by omega⟩, rfl⟩
  · try simp only [e1]
    have qe1 := e1; try simp only [decide_eq_true_eq, decide_eq_false_iff_not, Bool.not_eq_true', Bool.not_eq_false', Bool.not_eq_eq_eq_not, Bool.not_true, Bool.not_false, Int.not_le, Int.not_lt, beq_iff_eq, bne_iff_ne, ge_iff_le, gt_iff_lt, beq_eq_false_iff_ne, ne_eq, bne_eq_false_iff_eq] at qe1
    refine RunA.condF rfl ?_
    refine RunA.exit ?_
    change RunA _ _ _ _ _
    refine RunA.seq ?_
    refine RunA.region good ?_
    refine OpsA.pre 3 (by simp (maxSteps := 2000000) (disch := omega) only [go_sem, Nat.reduceAdd, Nat.reduceSub, Nat.reduceLeDiff, Nat.reduceMul, reduceIte, reduceCtorEq, Int.reduceNeg, Int.reduceToNat, Nat.reduceLT, Int.reduceLE, Int.reduceLT, Int.reduceAdd, Int.reduceSub, Int.reduceMul, wrap64, read1, etaE, eq_self, beq_self_eq_true, if_pos, if_neg]; rfl) ?_
    refine OpsA.callQ rfl rfl rfl hb26 (d26 _ _ _ _ _) ?_
    refine OpsA.pre 3 (by simp (maxSteps := 2000000) (disch := omega) only [go_sem, Nat.reduceAdd, Nat.reduceSub, Nat.reduceLeDiff, Nat.reduceMul, reduceIte, reduceCtorEq, Int.reduceNeg, Int.reduceToNat, Nat.reduceLT, Int.reduceLE, Int.reduceLT, Int.reduceAdd, Int.reduceSub, Int.reduceMul, wrap64, read1, etaE, eq_self, beq_self_eq_true, if_pos, if_neg]; rfl) ?_
    refine OpsA.split 58 rfl (fun e4 => ?_) (fun e4 => ?_)
    · try simp only [e4]
      have qe4 := e4; try simp only [decide_eq_true_eq, decide_eq_false_iff_not, Bool.not_eq_true', Bool.not_eq_false', Bool.not_eq_eq_eq_not, Bool.not_true, Bool.not_false, Int.not_le, Int.not_lt, beq_iff_eq, bne_iff_ne, ge_iff_le, gt_iff_lt, beq_eq_false_iff_ne, ne_eq, bne_eq_false_iff_eq] at qe4
      refine OpsA.callQ rfl rfl rfl hb23 (c23) ?_
      refine OpsA.pre 2 (by simp (maxSteps := 2000000) (disch := omega) only [go_sem, Nat.reduceAdd, Nat.reduceSub, Nat.reduceLeDiff, Nat.reduceMul, reduceIte, reduceCtorEq, Int.reduceNeg, Int.reduceToNat, Nat.reduceLT, Int.reduceLE, Int.reduceLT, Int.reduceAdd, Int.reduceSub, Int.reduceMul, wrap64, read1, etaE, eq_self, beq_self_eq_true, if_pos, if_neg]; rfl) ?_
      refine OpsA.nil ?_
      change RunA _ _ _ _ _
      refine RunA.ret ?_
      refine Ends.mk (by simp only [res8, resA, resAs, resA1]; first | rfl | (simp (maxSteps := 2000000) (disch := omega) only [go_sem, Nat.reduceAdd, Nat.reduceSub, Nat.reduceLeDiff, Nat.reduceMul, reduceIte, reduceCtorEq, Int.reduceNeg, Int.reduceToNat, Nat.reduceLT, Int.reduceLE, Int.reduceLT, Int.reduceAdd, Int.reduceSub, Int.reduceMul, wrap64, read1, etaE, eq_self, beq_self_eq_true, if_pos, if_neg]; rfl)) ?_
      exact ⟨_, _, rfl, by first | rfl | (simp only [frzT, frzP, optMap, get_app, get_app0]; rfl), by rfl⟩
    · exfalso; have t := run_end ⟨wm0, by omega⟩ ⟨wk0, by omega⟩ hI; simp [t] at e4

end Go.Proofs.Ytlmclkamedhmhaa
