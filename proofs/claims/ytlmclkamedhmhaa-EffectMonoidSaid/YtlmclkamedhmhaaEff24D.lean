/-
  CHANGES, AND THE EFFECT OF A RUN. Written in part by a program of mine (gen24d.py, walk.py). Conditions: none.
-/
import Derived.Test.YtlmclkamedhmhaaEff24C
import Derived.Test.YtlmclkamedhmhaaDep14B
import Derived.Test.YtlmclkamedhmhaaAbsLoopD
namespace Go.Proofs.Ytlmclkamedhmhaa
open Go.Ab
set_option linter.unusedSimpArgs false
set_option linter.unusedVariables false
set_option maxRecDepth 10000
attribute [local go_sem] opsE opsSE stepS quietA wantA plainA pureA readA effA callPureA lenA minA maxA rho embT emb putA List.set List.getD_cons_zero List.getD_cons_succ List.getD_nil binA intBin isShift unA buildA fillA over partA loadA readAt writeAt newVarA virts addOff AV.cellsOf AV.storable AV.one UD.isAgg UD.known lenOf sliceA boundA virtNone get_app get_app0 set_app set_app0 Array.toList List.take_succ_cons List.take_zero List.drop_succ_cons List.drop_zero List.getElem?_cons_succ List.getElem?_cons_zero List.getElem?_toArray Option.bind_some Option.map_some Option.map_none List.map_cons List.map_nil List.length_cons List.length_nil List.length_append Nat.zero_add Nat.add_zero Nat.le_refl Nat.one_mul Nat.mul_one List.append_assoc List.cons_append List.nil_append List.append_nil and_self and_true true_and true_or or_true if_true if_false Bool.false_eq_true not_false_eq_true bTT bTF bFT bFF Bool.not_true Bool.not_false decide_true decide_false Int.toNat_zero Int.toNat_one Int.toNat_natCast List.size_toArray ut3 sz3 ti3 ut4 sz4 ti4 ut23 sz23 ti23 ut34 sz34 ti34 ut61 sz61 ti61 vecI List.length_map Int.natCast_nonneg effV brokenE

def chI (x : Int) : Int := within x 3 - 1
def chA (l : List Int) (i : Nat) : List AV := (l.take i).map fun x => .int .i64 (chI x)
def chL (l : List Int) : List Int := (l.take 60).map chI
theorem chA_succ {l : List Int} {i : Nat} (h : i < l.length) : chA l (i + 1) = chA l i ++ [.int .i64 (chI (l.getD i 0))] := by
  simp only [chA, List.take_add_one, List.map_append]
  simp [List.getD, h]
theorem chA_len {l : List Int} {i : Nat} (h : i ≤ l.length) : (chA l i).length = i := by simp [chA]; omega
theorem chA_refs {l : List Int} {i n : Nat} : ∀ b ∈ [outB 3 i (chA l i)], ∀ x ∈ b.cells, Refs n x := by
  intro b hb x hx
  rw [List.mem_singleton] at hb
  subst hb
  unfold outB at hx
  split at hx
  · simp at hx
  · obtain ⟨y, _, rfl⟩ := List.mem_map.1 hx
    exact .int _ _
theorem chA_int {l : List Int} {i : Nat} : ∀ x ∈ chA l i, ∃ k n, x = AV.int k n := by
  intro x hx
  obtain ⟨y, _, rfl⟩ := List.mem_map.1 hx
  exact ⟨_, _, rfl⟩
theorem append_ch {h g : Heap} {l : List Int} {i : Nat} {v : Int} (hi : i < l.length) (h6 : i < 60) : appendA cfg 3 (h ++ outB 3 i (chA l i) :: ⟨0, false, 3, 1, [.int .i64 v]⟩ :: g) (.own h.length i 0 i) (.own (h.length + 1) 0 0 1) =
    some (.own h.length (i + 1) 0 (i + 1), h ++ outB 3 (i + 1) (chA l i ++ [.int .i64 v]) :: ⟨0, false, 3, 1, [.int .i64 v]⟩ :: g) :=
  append_out (chA_len (by omega)) sz3 (by decide) (by omega) (by simp only [rd, get_app, List.getElem?_cons_succ, List.getElem?_cons_zero]; rfl) rfl rfl
theorem flat1 : (List.replicate 1 [AV.int .i64 0]).flatten = [AV.int .i64 0] := rfl
theorem one_max : (1 ≤ maxLen) = True := by simp; decide
theorem ch_end {l : List Int} {i : Nat} (h : l.length ≤ i ∨ 60 ≤ i) (hi : i ≤ l.length) (h6 : i ≤ 60) : AV.vec i (chA l i) = vecI (chL l) := by
  have e : l.take i = l.take 60 := by
    rcases h with h | h
    · rw [List.take_of_length_le h, List.take_of_length_le (by omega)]
    · rw [show i = 60 from by omega]
  have e2 : (chL l).length = i := by simp [chL]; omega
  simp only [vecI, e2]
  simp only [chA, chL, e, List.map_map, Function.comp_def]
theorem ch_bound (x : Int) : -1 ≤ chI x ∧ chI x ≤ 1 := by
  have h1 := @within_lo x 3 (by omega)
  have h2 := @within_hi x 3 (by omega)
  unfold chI
  omega

theorem c28 {h : Heap} (l : List Int) (hl : l.length < 9223372036854775808) : CallA Try.prog cfg 28 [vecI l] h (fun y' h' => y' = vecI (chL l) ∧ h' = h) := by
  refine CallA.body (Q := fun y' => y' = vecI (chL l)) good fn28 rfl ?_
  simp only [ntm28, List.length_cons, List.length_nil, Nat.reduceAdd, Nat.reduceSub, List.replicate, List.cons_append, List.nil_append]
  refine RunA.seq ?_
  refine RunA.region good ?_
  refine OpsA.pre 1 (by simp (maxSteps := 2000000) (disch := omega) only [go_sem, Nat.reduceAdd, Nat.reduceSub, Nat.reduceLeDiff, Nat.reduceMul, reduceIte, reduceCtorEq, Int.reduceNeg, Int.reduceToNat, Nat.reduceLT, Int.reduceLE, Int.reduceLT, Int.reduceAdd, Int.reduceSub, Int.reduceMul, wrap64, read1, append_ch, flat1, one_max, if_pos, if_neg]; rfl) ?_
  refine OpsA.nil ?_
  change RunA _ _ _ _ _
  refine RunA.seq ?_
  refine RunA.region good ?_
  refine OpsA.pre 1 (by simp (maxSteps := 2000000) (disch := omega) only [go_sem, Nat.reduceAdd, Nat.reduceSub, Nat.reduceLeDiff, Nat.reduceMul, reduceIte, reduceCtorEq, Int.reduceNeg, Int.reduceToNat, Nat.reduceLT, Int.reduceLE, Int.reduceLT, Int.reduceAdd, Int.reduceSub, Int.reduceMul, wrap64, read1, append_ch, flat1, one_max, if_pos, if_neg]; rfl) ?_
  refine OpsA.nil ?_
  change RunA _ _ _ _ _
  refine RunA.seq ?_
  refine RunA.seq ?_
  refine RunA.region good ?_
  refine OpsA.pre 1 (by simp (maxSteps := 2000000) (disch := omega) only [go_sem, Nat.reduceAdd, Nat.reduceSub, Nat.reduceLeDiff, Nat.reduceMul, reduceIte, reduceCtorEq, Int.reduceNeg, Int.reduceToNat, Nat.reduceLT, Int.reduceLE, Int.reduceLT, Int.reduceAdd, Int.reduceSub, Int.reduceMul, wrap64, read1, append_ch, flat1, one_max, if_pos, if_neg]; rfl) ?_
  refine OpsA.nil ?_
  change RunA _ _ _ _ _
  refine RunA.block ?_
  refine RunA.fit [vecI l, .any, .nils, .nils, .int .i64 ((0 : Nat) : Int), .any, .any, .any, .any, .any, .any, .any, .any, .any, .any, .any, .any, .any, .any, .any, .any, .any, .any, .any, .any] ⟨(.inl (by first | rfl | (congr 1; omega))), (.inr rfl), (.inl (by first | rfl | (congr 1; omega))), (.inl (by first | rfl | (congr 1; omega))), (.inl (by first | rfl | (congr 1; omega))), (.inr rfl), (.inr rfl), (.inr rfl), (.inr rfl), (.inr rfl), (.inr rfl), (.inr rfl), (.inr rfl), (.inr rfl), (.inr rfl), (.inr rfl), (.inr rfl), (.inr rfl), (.inr rfl), (.inr rfl), (.inr rfl), (.inr rfl), (.inr rfl), (.inr rfl), (.inr rfl), trivial⟩ ?_
  refine RunA.virtual [vecI l, .any, .nils, .own h.length 0 0 0, .int .i64 ((0 : Nat) : Int), .any, .any, .any, .any, .any, .any, .any, .any, .any, .any, .any, .any, .any, .any, .any, .any, .any, .any, .any, .any] ⟨.inl rfl, .inl rfl, .inl rfl, .inr ⟨rfl, rfl⟩, .inl rfl, .inl rfl, .inl rfl, .inl rfl, .inl rfl, .inl rfl, .inl rfl, .inl rfl, .inl rfl, .inl rfl, .inl rfl, .inl rfl, .inl rfl, .inl rfl, .inl rfl, .inl rfl, .inl rfl, .inl rfl, .inl rfl, .inl rfl, .inl rfl, trivial⟩ ?_
  refine RunA.loopD h [⟨0, true, 0, 0, []⟩] rfl (fun m st => ∃ (i : Nat), (m = 60 - i ∧ i ≤ l.length ∧ i ≤ 60) ∧ st = ⟨[vecI l, .any, .nils, .own h.length i 0 i, .int .i64 ((i : Nat) : Int), .any, .any, .any, .any, .any, .any, .any, .any, .any, .any, .any, .any, .any, .any, .any, .any, .any, .any, .any, .any], h ++ [outB 3 i (chA l i)]⟩) _ ⟨[vecI l, .any, .nils, .own h.length 0 0 0, .int .i64 ((0 : Nat) : Int), .any, .any, .any, .any, .any, .any, .any, .any, .any, .any, .any, .any, .any, .any, .any, .any, .any, .any, .any, .any], [⟨0, true, 0, 0, []⟩], [], rfl, Nat.le_refl _, ⟨.inl rfl, .inl rfl, .inl rfl, .inl rfl, .inl rfl, .inl rfl, .inl rfl, .inl rfl, .inl rfl, .inl rfl, .inl rfl, .inl rfl, .inl rfl, .inl rfl, .inl rfl, .inl rfl, .inl rfl, .inl rfl, .inl rfl, .inl rfl, .inl rfl, .inl rfl, .inl rfl, .inl rfl, .inl rfl, trivial⟩, RefsL.get ⟨(by first | exact .any | exact .int _ _ | exact .bool _ | exact .vec _ _ | exact .nils | exact .own _ _ _ _ (by simp) | exact .ptr _ _ _ (by simp)), (by first | exact .any | exact .int _ _ | exact .bool _ | exact .vec _ _ | exact .nils | exact .own _ _ _ _ (by simp) | exact .ptr _ _ _ (by simp)), (by first | exact .any | exact .int _ _ | exact .bool _ | exact .vec _ _ | exact .nils | exact .own _ _ _ _ (by simp) | exact .ptr _ _ _ (by simp)), (by first | exact .any | exact .int _ _ | exact .bool _ | exact .vec _ _ | exact .nils | exact .own _ _ _ _ (by simp) | exact .ptr _ _ _ (by simp)), (by first | exact .any | exact .int _ _ | exact .bool _ | exact .vec _ _ | exact .nils | exact .own _ _ _ _ (by simp) | exact .ptr _ _ _ (by simp)), (by first | exact .any | exact .int _ _ | exact .bool _ | exact .vec _ _ | exact .nils | exact .own _ _ _ _ (by simp) | exact .ptr _ _ _ (by simp)), (by first | exact .any | exact .int _ _ | exact .bool _ | exact .vec _ _ | exact .nils | exact .own _ _ _ _ (by simp) | exact .ptr _ _ _ (by simp)), (by first | exact .any | exact .int _ _ | exact .bool _ | exact .vec _ _ | exact .nils | exact .own _ _ _ _ (by simp) | exact .ptr _ _ _ (by simp)), (by first | exact .any | exact .int _ _ | exact .bool _ | exact .vec _ _ | exact .nils | exact .own _ _ _ _ (by simp) | exact .ptr _ _ _ (by simp)), (by first | exact .any | exact .int _ _ | exact .bool _ | exact .vec _ _ | exact .nils | exact .own _ _ _ _ (by simp) | exact .ptr _ _ _ (by simp)), (by first | exact .any | exact .int _ _ | exact .bool _ | exact .vec _ _ | exact .nils | exact .own _ _ _ _ (by simp) | exact .ptr _ _ _ (by simp)), (by first | exact .any | exact .int _ _ | exact .bool _ | exact .vec _ _ | exact .nils | exact .own _ _ _ _ (by simp) | exact .ptr _ _ _ (by simp)), (by first | exact .any | exact .int _ _ | exact .bool _ | exact .vec _ _ | exact .nils | exact .own _ _ _ _ (by simp) | exact .ptr _ _ _ (by simp)), (by first | exact .any | exact .int _ _ | exact .bool _ | exact .vec _ _ | exact .nils | exact .own _ _ _ _ (by simp) | exact .ptr _ _ _ (by simp)), (by first | exact .any | exact .int _ _ | exact .bool _ | exact .vec _ _ | exact .nils | exact .own _ _ _ _ (by simp) | exact .ptr _ _ _ (by simp)), (by first | exact .any | exact .int _ _ | exact .bool _ | exact .vec _ _ | exact .nils | exact .own _ _ _ _ (by simp) | exact .ptr _ _ _ (by simp)), (by first | exact .any | exact .int _ _ | exact .bool _ | exact .vec _ _ | exact .nils | exact .own _ _ _ _ (by simp) | exact .ptr _ _ _ (by simp)), (by first | exact .any | exact .int _ _ | exact .bool _ | exact .vec _ _ | exact .nils | exact .own _ _ _ _ (by simp) | exact .ptr _ _ _ (by simp)), (by first | exact .any | exact .int _ _ | exact .bool _ | exact .vec _ _ | exact .nils | exact .own _ _ _ _ (by simp) | exact .ptr _ _ _ (by simp)), (by first | exact .any | exact .int _ _ | exact .bool _ | exact .vec _ _ | exact .nils | exact .own _ _ _ _ (by simp) | exact .ptr _ _ _ (by simp)), (by first | exact .any | exact .int _ _ | exact .bool _ | exact .vec _ _ | exact .nils | exact .own _ _ _ _ (by simp) | exact .ptr _ _ _ (by simp)), (by first | exact .any | exact .int _ _ | exact .bool _ | exact .vec _ _ | exact .nils | exact .own _ _ _ _ (by simp) | exact .ptr _ _ _ (by simp)), (by first | exact .any | exact .int _ _ | exact .bool _ | exact .vec _ _ | exact .nils | exact .own _ _ _ _ (by simp) | exact .ptr _ _ _ (by simp)), (by first | exact .any | exact .int _ _ | exact .bool _ | exact .vec _ _ | exact .nils | exact .own _ _ _ _ (by simp) | exact .ptr _ _ _ (by simp)), (by first | exact .any | exact .int _ _ | exact .bool _ | exact .vec _ _ | exact .nils | exact .own _ _ _ _ (by simp) | exact .ptr _ _ _ (by simp)), trivial⟩, (by simp), 0, ⟨rfl, by omega, by omega⟩, rfl⟩ ?_
  rintro m sl h' ⟨i, ⟨hm, hi, h6⟩, hst⟩
  obtain ⟨rfl, rfl⟩ := St.mk.inj hst
  have w0 := @within_lo (l.getD i 0) 3 (by omega); have w1 := @within_hi (l.getD i 0) 3 (by omega)
  refine RunA.seq ?_
  refine RunA.seq ?_
  refine RunA.region good ?_
  refine OpsA.pre 5 (by simp (maxSteps := 2000000) (disch := omega) only [go_sem, Nat.reduceAdd, Nat.reduceSub, Nat.reduceLeDiff, Nat.reduceMul, reduceIte, reduceCtorEq, Int.reduceNeg, Int.reduceToNat, Nat.reduceLT, Int.reduceLE, Int.reduceLT, Int.reduceAdd, Int.reduceSub, Int.reduceMul, wrap64, read1, append_ch, flat1, one_max, if_pos, if_neg]; rfl) ?_
  refine OpsA.split 9 rfl (fun e1 => ?_) (fun e1 => ?_)
  · try simp only [e1]
    have qe1 := e1; try simp only [decide_eq_true_eq, decide_eq_false_iff_not, Bool.not_eq_true', Bool.not_eq_false', Bool.not_eq_eq_eq_not, Bool.not_true, Bool.not_false, Int.not_le, Int.not_lt, beq_iff_eq, bne_iff_ne, ge_iff_le, gt_iff_lt, beq_eq_false_iff_ne, ne_eq, bne_eq_false_iff_eq] at qe1
    refine OpsA.pre 3 (by simp (maxSteps := 2000000) (disch := omega) only [go_sem, Nat.reduceAdd, Nat.reduceSub, Nat.reduceLeDiff, Nat.reduceMul, reduceIte, reduceCtorEq, Int.reduceNeg, Int.reduceToNat, Nat.reduceLT, Int.reduceLE, Int.reduceLT, Int.reduceAdd, Int.reduceSub, Int.reduceMul, wrap64, read1, append_ch, flat1, one_max, if_pos, if_neg]; rfl) ?_
    refine OpsA.nil ?_
    change RunA _ _ _ _ _
    refine RunA.split 12 rfl (fun e2 => ?_) (fun e2 => ?_)
    · try simp only [e2]
      have qe2 := e2; try simp only [decide_eq_true_eq, decide_eq_false_iff_not, Bool.not_eq_true', Bool.not_eq_false', Bool.not_eq_eq_eq_not, Bool.not_true, Bool.not_false, Int.not_le, Int.not_lt, beq_iff_eq, bne_iff_ne, ge_iff_le, gt_iff_lt, beq_eq_false_iff_ne, ne_eq, bne_eq_false_iff_eq] at qe2
      refine RunA.condT rfl ?_
      refine RunA.skip ?_
      change RunA _ _ _ _ _
      refine RunA.seq ?_
      refine RunA.block ?_
      refine RunA.region good ?_
      refine OpsA.pre 5 (by simp (maxSteps := 2000000) (disch := omega) only [go_sem, Nat.reduceAdd, Nat.reduceSub, Nat.reduceLeDiff, Nat.reduceMul, reduceIte, reduceCtorEq, Int.reduceNeg, Int.reduceToNat, Nat.reduceLT, Int.reduceLE, Int.reduceLT, Int.reduceAdd, Int.reduceSub, Int.reduceMul, wrap64, read1, append_ch, flat1, one_max, if_pos, if_neg]; rfl) ?_
      refine OpsA.callQ rfl rfl rfl hb16 (c16 _ _ (by omega) (by omega)) ?_
      refine OpsA.pre 4 (by simp (maxSteps := 2000000) (disch := omega) only [go_sem, Nat.reduceAdd, Nat.reduceSub, Nat.reduceLeDiff, Nat.reduceMul, reduceIte, reduceCtorEq, Int.reduceNeg, Int.reduceToNat, Nat.reduceLT, Int.reduceLE, Int.reduceLT, Int.reduceAdd, Int.reduceSub, Int.reduceMul, wrap64, read1, append_ch, flat1, one_max, if_pos, if_neg]; rfl) ?_
      refine OpsA.nil ?_
      change RunA _ _ _ _ _
      refine RunA.region good ?_
      refine OpsA.pre 3 (by simp (maxSteps := 2000000) (disch := omega) only [go_sem, Nat.reduceAdd, Nat.reduceSub, Nat.reduceLeDiff, Nat.reduceMul, reduceIte, reduceCtorEq, Int.reduceNeg, Int.reduceToNat, Nat.reduceLT, Int.reduceLE, Int.reduceLT, Int.reduceAdd, Int.reduceSub, Int.reduceMul, wrap64, read1, append_ch, flat1, one_max, if_pos, if_neg]; rfl) ?_
      refine OpsA.nil ?_
      exact ⟨60 - (i + 1), by omega, [vecI l, .any, .nils, .own h.length (i + 1) 0 (i + 1), .int .i64 (((i + 1) : Nat) : Int), .any, .any, .any, .any, .any, .any, .any, .any, .any, .any, .any, .any, .any, .any, .any, .any, .any, .any, .any, .any], [outB 3 (i + 1) (chA l (i + 1))], _, (by rw [chA_succ (by omega)]; rfl), Nat.le_refl _, ⟨(.inl (by first | rfl | (congr 1; omega))), (.inr rfl), (.inl (by first | rfl | (congr 1; omega))), (.inl (by first | rfl | (congr 1; omega))), (.inl (by first | rfl | (congr 1; omega))), (.inr rfl), (.inr rfl), (.inr rfl), (.inr rfl), (.inr rfl), (.inr rfl), (.inr rfl), (.inr rfl), (.inr rfl), (.inr rfl), (.inr rfl), (.inr rfl), (.inr rfl), (.inr rfl), (.inr rfl), (.inr rfl), (.inr rfl), (.inr rfl), (.inr rfl), (.inr rfl), trivial⟩, RefsL.get ⟨(by first | exact .any | exact .int _ _ | exact .bool _ | exact .vec _ _ | exact .nils | exact .own _ _ _ _ (by simp) | exact .ptr _ _ _ (by simp)), (by first | exact .any | exact .int _ _ | exact .bool _ | exact .vec _ _ | exact .nils | exact .own _ _ _ _ (by simp) | exact .ptr _ _ _ (by simp)), (by first | exact .any | exact .int _ _ | exact .bool _ | exact .vec _ _ | exact .nils | exact .own _ _ _ _ (by simp) | exact .ptr _ _ _ (by simp)), (by first | exact .any | exact .int _ _ | exact .bool _ | exact .vec _ _ | exact .nils | exact .own _ _ _ _ (by simp) | exact .ptr _ _ _ (by simp)), (by first | exact .any | exact .int _ _ | exact .bool _ | exact .vec _ _ | exact .nils | exact .own _ _ _ _ (by simp) | exact .ptr _ _ _ (by simp)), (by first | exact .any | exact .int _ _ | exact .bool _ | exact .vec _ _ | exact .nils | exact .own _ _ _ _ (by simp) | exact .ptr _ _ _ (by simp)), (by first | exact .any | exact .int _ _ | exact .bool _ | exact .vec _ _ | exact .nils | exact .own _ _ _ _ (by simp) | exact .ptr _ _ _ (by simp)), (by first | exact .any | exact .int _ _ | exact .bool _ | exact .vec _ _ | exact .nils | exact .own _ _ _ _ (by simp) | exact .ptr _ _ _ (by simp)), (by first | exact .any | exact .int _ _ | exact .bool _ | exact .vec _ _ | exact .nils | exact .own _ _ _ _ (by simp) | exact .ptr _ _ _ (by simp)), (by first | exact .any | exact .int _ _ | exact .bool _ | exact .vec _ _ | exact .nils | exact .own _ _ _ _ (by simp) | exact .ptr _ _ _ (by simp)), (by first | exact .any | exact .int _ _ | exact .bool _ | exact .vec _ _ | exact .nils | exact .own _ _ _ _ (by simp) | exact .ptr _ _ _ (by simp)), (by first | exact .any | exact .int _ _ | exact .bool _ | exact .vec _ _ | exact .nils | exact .own _ _ _ _ (by simp) | exact .ptr _ _ _ (by simp)), (by first | exact .any | exact .int _ _ | exact .bool _ | exact .vec _ _ | exact .nils | exact .own _ _ _ _ (by simp) | exact .ptr _ _ _ (by simp)), (by first | exact .any | exact .int _ _ | exact .bool _ | exact .vec _ _ | exact .nils | exact .own _ _ _ _ (by simp) | exact .ptr _ _ _ (by simp)), (by first | exact .any | exact .int _ _ | exact .bool _ | exact .vec _ _ | exact .nils | exact .own _ _ _ _ (by simp) | exact .ptr _ _ _ (by simp)), (by first | exact .any | exact .int _ _ | exact .bool _ | exact .vec _ _ | exact .nils | exact .own _ _ _ _ (by simp) | exact .ptr _ _ _ (by simp)), (by first | exact .any | exact .int _ _ | exact .bool _ | exact .vec _ _ | exact .nils | exact .own _ _ _ _ (by simp) | exact .ptr _ _ _ (by simp)), (by first | exact .any | exact .int _ _ | exact .bool _ | exact .vec _ _ | exact .nils | exact .own _ _ _ _ (by simp) | exact .ptr _ _ _ (by simp)), (by first | exact .any | exact .int _ _ | exact .bool _ | exact .vec _ _ | exact .nils | exact .own _ _ _ _ (by simp) | exact .ptr _ _ _ (by simp)), (by first | exact .any | exact .int _ _ | exact .bool _ | exact .vec _ _ | exact .nils | exact .own _ _ _ _ (by simp) | exact .ptr _ _ _ (by simp)), (by first | exact .any | exact .int _ _ | exact .bool _ | exact .vec _ _ | exact .nils | exact .own _ _ _ _ (by simp) | exact .ptr _ _ _ (by simp)), (by first | exact .any | exact .int _ _ | exact .bool _ | exact .vec _ _ | exact .nils | exact .own _ _ _ _ (by simp) | exact .ptr _ _ _ (by simp)), (by first | exact .any | exact .int _ _ | exact .bool _ | exact .vec _ _ | exact .nils | exact .own _ _ _ _ (by simp) | exact .ptr _ _ _ (by simp)), (by first | exact .any | exact .int _ _ | exact .bool _ | exact .vec _ _ | exact .nils | exact .own _ _ _ _ (by simp) | exact .ptr _ _ _ (by simp)), (by first | exact .any | exact .int _ _ | exact .bool _ | exact .vec _ _ | exact .nils | exact .own _ _ _ _ (by simp) | exact .ptr _ _ _ (by simp)), trivial⟩, chA_refs, (i + 1), ⟨rfl, by omega, by omega⟩, rfl⟩
    · try simp only [e2]
      have qe2 := e2; try simp only [decide_eq_true_eq, decide_eq_false_iff_not, Bool.not_eq_true', Bool.not_eq_false', Bool.not_eq_eq_eq_not, Bool.not_true, Bool.not_false, Int.not_le, Int.not_lt, beq_iff_eq, bne_iff_ne, ge_iff_le, gt_iff_lt, beq_eq_false_iff_ne, ne_eq, bne_eq_false_iff_eq] at qe2
      refine RunA.condF rfl ?_
      refine RunA.exit ?_
      change RunA _ _ _ _ _
      refine RunA.seq ?_
      refine RunA.region good ?_
      refine OpsA.pre 2 (by simp (maxSteps := 2000000) (disch := omega) only [go_sem, Nat.reduceAdd, Nat.reduceSub, Nat.reduceLeDiff, Nat.reduceMul, reduceIte, reduceCtorEq, Int.reduceNeg, Int.reduceToNat, Nat.reduceLT, Int.reduceLE, Int.reduceLT, Int.reduceAdd, Int.reduceSub, Int.reduceMul, wrap64, read1, append_ch, flat1, one_max, if_pos, if_neg]; rfl) ?_
      refine OpsA.nil ?_
      change RunA _ _ _ _ _
      refine RunA.ret ?_
      refine Ends.mk (by simp only [res28, resA, resAs, resA1]; first | rfl | (simp (maxSteps := 2000000) (disch := omega) only [go_sem, Nat.reduceAdd, Nat.reduceSub, Nat.reduceLeDiff, Nat.reduceMul, reduceIte, reduceCtorEq, Int.reduceNeg, Int.reduceToNat, Nat.reduceLT, Int.reduceLE, Int.reduceLT, Int.reduceAdd, Int.reduceSub, Int.reduceMul, wrap64, read1, append_ch, flat1, one_max, if_pos, if_neg]; rfl)) ?_
      exact ⟨_, _, rfl, by first | rfl | exact frz_out (chA_len hi) chA_int, by (exact ch_end (by omega) hi h6)⟩
  · try simp only [e1]
    have qe1 := e1; try simp only [decide_eq_true_eq, decide_eq_false_iff_not, Bool.not_eq_true', Bool.not_eq_false', Bool.not_eq_eq_eq_not, Bool.not_true, Bool.not_false, Int.not_le, Int.not_lt, beq_iff_eq, bne_iff_ne, ge_iff_le, gt_iff_lt, beq_eq_false_iff_ne, ne_eq, bne_eq_false_iff_eq] at qe1
    refine OpsA.pre 3 (by simp (maxSteps := 2000000) (disch := omega) only [go_sem, Nat.reduceAdd, Nat.reduceSub, Nat.reduceLeDiff, Nat.reduceMul, reduceIte, reduceCtorEq, Int.reduceNeg, Int.reduceToNat, Nat.reduceLT, Int.reduceLE, Int.reduceLT, Int.reduceAdd, Int.reduceSub, Int.reduceMul, wrap64, read1, append_ch, flat1, one_max, if_pos, if_neg]; rfl) ?_
    refine OpsA.nil ?_
    change RunA _ _ _ _ _
    refine RunA.condF rfl ?_
    refine RunA.exit ?_
    change RunA _ _ _ _ _
    refine RunA.seq ?_
    refine RunA.region good ?_
    refine OpsA.pre 2 (by simp (maxSteps := 2000000) (disch := omega) only [go_sem, Nat.reduceAdd, Nat.reduceSub, Nat.reduceLeDiff, Nat.reduceMul, reduceIte, reduceCtorEq, Int.reduceNeg, Int.reduceToNat, Nat.reduceLT, Int.reduceLE, Int.reduceLT, Int.reduceAdd, Int.reduceSub, Int.reduceMul, wrap64, read1, append_ch, flat1, one_max, if_pos, if_neg]; rfl) ?_
    refine OpsA.nil ?_
    change RunA _ _ _ _ _
    refine RunA.ret ?_
    refine Ends.mk (by simp only [res28, resA, resAs, resA1]; first | rfl | (simp (maxSteps := 2000000) (disch := omega) only [go_sem, Nat.reduceAdd, Nat.reduceSub, Nat.reduceLeDiff, Nat.reduceMul, reduceIte, reduceCtorEq, Int.reduceNeg, Int.reduceToNat, Nat.reduceLT, Int.reduceLE, Int.reduceLT, Int.reduceAdd, Int.reduceSub, Int.reduceMul, wrap64, read1, append_ch, flat1, one_max, if_pos, if_neg]; rfl)) ?_
    exact ⟨_, _, rfl, by first | rfl | exact frz_out (chA_len hi) chA_int, by (exact ch_end (by omega) hi h6)⟩

end Go.Proofs.Ytlmclkamedhmhaa
