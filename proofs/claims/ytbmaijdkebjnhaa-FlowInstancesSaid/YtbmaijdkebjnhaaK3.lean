/- My own texts, put together by a program of mine. -/
import Derived.Test.YtbmaijdkebjnhaaK2
set_option linter.unusedSimpArgs false
set_option linter.unusedVariables false
set_option maxRecDepth 100000
set_option maxHeartbeats 4000000
section
namespace Go.Proofs.Ytbmaijdkebjnhaa
open Go.Ab Go.Un
structure bM (β : Nat) (L : List Int) (n : Nat) (S : Int → c6) : Prop where
  get : ∀ I, (S I)[β]? = some ⟨0, false, 94, 2, [.vec L.length (l6 L), .int .i64 I], 0⟩
  set : ∀ I k, (S I).set β ⟨0, false, 94, 2, [.vec L.length (l6 L), .int .i64 k], 0⟩ = S k
  len : ∀ I, (S I).length = n
section
variable {β n : Nat} {L : List Int} {S : Int → c6}
theorem bM.lt (F : bM β L n S) : β < n := by
  have h := F.get 0
  have := (List.getElem?_eq_some_iff.1 h).1
  rw [F.len] at this
  exact this
theorem bM.UI (F : bM β L n S) (I : Int) (l : c6) : (S I ++ l)[β]? = some ⟨0, false, 94, 2, [.vec L.length (l6 L), .int .i64 I], 0⟩ := by
  rw [List.getElem?_append_left (by rw [F.len]; exact F.lt)]
  exact F.get I
theorem bM.UJ (F : bM β L n S) (I k : Int) (l : c6) : (S I ++ l).set β ⟨0, false, 94, 2, [.vec L.length (l6 L), .int .i64 k], 0⟩ = S k ++ l := by
  rw [List.set_append_left _ _ (by rw [F.len]; exact F.lt), F.set]
theorem bM.R8 (F : bM β L n S) (I : Int) (l : c6) (k : Nat) : (S I ++ l)[n + k]? = l[k]? := by
  rw [List.getElem?_append_right (by rw [F.len]; omega), F.len, Nat.add_sub_cancel_left]
theorem bM.R9 (F : bM β L n S) (I : Int) (l : c6) : (S I ++ l)[n]? = l[0]? := by
  rw [List.getElem?_append_right (by rw [F.len]; omega), F.len, Nat.sub_self]
theorem bM.cZ (F : bM β L n S) (I : Int) (l : c6) (k : Nat) (b : Blk) : (S I ++ l).set (n + k) b = S I ++ l.set k b := by
  rw [List.set_append_right _ _ (by rw [F.len]; omega), F.len, Nat.add_sub_cancel_left]
theorem bM.put0 (F : bM β L n S) (I : Int) (l : c6) (b : Blk) : (S I ++ l).set n b = S I ++ l.set 0 b := by
  rw [List.set_append_right _ _ (by rw [F.len]; omega), F.len, Nat.sub_self]
theorem bM.app (F : bM β L n S) (l : c6) : bM β L (n + l.length) fun I => S I ++ l :=
  ⟨fun I => F.UI I l, fun I k => F.UJ I k l, fun I => by simp only [List.length_append, F.len]⟩
theorem bM.kJ (F : bM β L n S) (I J : Int) : cI (S I) (S J) := by
  intro γ b hb
  by_cases h : γ = β
  · subst h
    rw [F.get] at hb
    cases hb
    refine .inr fun x hx => ?_
    simp only [List.mem_cons, List.not_mem_nil, or_false] at hx
    rcases hx with rfl | rfl
    · exact .vec _ _
    · exact .int _ _
  · rw [← F.set I J, List.getElem?_set_ne (Ne.symm h)] at hb
    exact .inl hb
end
theorem tX {l : List Int} {i : Nat} (h : i < l.length) : List.take 1 (List.drop i (l6 l)) = [AV.int .i64 (l.getD i 0)] := by
  unfold l6
  rw [← List.map_drop, ← List.map_take, List.drop_eq_getElem_cons h, List.take_succ_cons, List.take_zero]
  simp [List.getD, h]
def aC (l : List BA) : List AV := l.map AV.str
theorem v9 (l : List BA) : (aC l).length = l.length := List.length_map _
theorem pO {l : List BA} {i : Nat} (h : i < l.length) : List.take 1 (List.drop i (aC l)) = [AV.str (l.getD i ByteArray.empty)] := by
  unfold aC
  rw [← List.map_drop, ← List.map_take, List.drop_eq_getElem_cons h, List.take_succ_cons, List.take_zero]
  simp [List.getD, h]
theorem maxLenI : ((maxLen : Nat) : Int) = 9223372036854775807 := rfl
theorem yJ {α : Type} {l : List α} : (List.replicate 1 l).flatten = l := by simp
theorem A9 {α : Type} {l : List α} : (List.replicate 2 l).flatten = l ++ l := by simp [List.replicate_succ]
theorem I7 {α : Type} {l : List α} : (List.replicate 0 l).flatten = [] := rfl
theorem I8 : (0 ≤ maxLen) = True := by simp
theorem wU : (1 ≤ maxLen) = True := by simp; decide
theorem max2 : (2 ≤ maxLen) = True := by simp; decide
attribute [local go_sem] n5 v9 Int.natCast_nonneg Int.natCast_inj List.length_map
theorem qR {h : c6} (x n : Int) (hn : 0 < n) (hm : n ≤ 4611686018427387904) : CallA Try.prog cfg 11 [.int .i64 x, .int .i64 n] h (fun y' h' => y' = .int .i64 (within x n) ∧ h' = h) := by
  refine CallA.body (Q := fun y' => y' = .int .i64 (within x n)) z7 fn11 rfl ?_
  simp only [ntm11, List.length_cons, List.length_nil, Nat.reduceAdd, Nat.reduceSub, List.replicate, List.cons_append, List.nil_append]
  refine c7z ?_
  refine l5.pre 1 t52 ?_
  refine c6z ?_
  refine c7z ?_
  refine l5.pre 8 t52 ?_
  refine c57z ?_
  refine Ends.mk (by simp only [res11, rB, iQ, jM]; first | rfl | (simp +decide (maxSteps := 2000000) (disch := omega) only [go_sem, Nat.reduceBEq, Nat.reduceAdd, Nat.reduceSub, Nat.reduceLeDiff, Nat.reduceMul, reduceIte, reduceCtorEq, Int.reduceNeg, Int.reduceToNat, Nat.reduceLT, Int.reduceLE, Int.reduceLT, Int.reduceAdd, Int.reduceSub, Int.reduceMul, wrap64 (jU hn hm).1 (jU hn hm).2, show n ≠ 0 from by omega, show (n = 0) = False from by simp; omega]; rfl)) ?_
  exact ⟨[], _, (List.append_nil _).symm, by first | rfl | rfl, by rfl⟩
section
attribute [local go_sem] rA dX
theorem c_cut {h : c6} (L : List Int) (n : Nat) (hL : L.length < 9223372036854775807) : CallA Try.prog cfg 40 [.vec L.length (l6 L), .int .i64 (n : Int)] h (fun y' h' => y' = .vec (L.take n).length (l6 (L.take n)) ∧ h' = h) := by
  refine .b fn40 ntm40 ?_
  refine c79z ?_
  refine .spl 8 rfl rfl (fun e1 => ?_) (fun e1 => ?_)
  ·try simp only [e1]
   have qe1 := fact e1
   refine .T ?_
   refine c62z ?_
   exact ⟨[], _, (List.append_nil _).symm, by first | rfl | rfl, by (first | (rw [List.take_of_length_le (by omega)]) | (simp only [l6, List.length_take, List.map_take]; congr 1; omega))⟩
  try simp only [e1]
  have qe1 := fact e1
  refine c4z ?_
  refine c62z ?_
  exact ⟨[], _, (List.append_nil _).symm, by first | rfl | rfl, by (first | (rw [List.take_of_length_le (by omega)]) | (simp only [l6, List.length_take, List.map_take]; congr 1; omega))⟩
end
def I9 : cK := ⟨[[], [0], [0, 1], [0, 1, 2], [], [4], [4, 5], [4, 5, 6], [4, 5, 6, 7], [0, 1, 2, 3, 4, 5, 6, 7, 8]], [false, false, false, false, false, false, false, false, false, false]⟩
theorem Z4 (i : Nat) : I9.isE i = [false, false, false, false, false, false, false, false, false, false].getD i false := rfl
def J0 : cK := ⟨[[], [0], [0, 1], [0, 1, 2], [], [4], [4, 5], [4, 5, 6], [4, 5, 6, 7], [0, 1, 2, 3, 4, 5, 6, 7, 8], [0, 1, 2, 3, 4, 5, 6, 7, 8, 9], [], [0, 1, 2, 3, 4, 5, 6, 7, 8, 9, 10, 11], [0, 1, 2, 3, 4, 5, 6, 7, 8, 9, 10, 11, 12]], [false, false, false, false, false, false, false, false, false, false, false, false, false, false]⟩
theorem yK (i : Nat) : J0.isE i = [false, false, false, false, false, false, false, false, false, false, false, false, false, false].getD i false := rfl
theorem yL {β N : Nat} {L : List Int} {S : Int → c6} (F : bM β L N S) (I n : Int) (hI : OkI L I) (hL : L.length < 4611686018427387904) (hn : 0 < n) (hm : n ≤ 4611686018427387904) : CallA Try.prog cfg 41 [.ptr β 0 0, .int .i64 n] (S I) (fun y' h' => y' = .int .i64 (c5 L I n).1 ∧ h' = S (c5 L I n).2) := by
  refine CallA.W2 z7 fn41 rfl ?_
  simp only [ntm41, List.length_cons, List.length_nil, Nat.reduceAdd, Nat.reduceSub, List.replicate, List.cons_append, List.nil_append]
  have hI0 := hI.1
  have hI1 := hI.2
  refine c7z ?_
  refine l5.pre 1 t36 ?_
  refine c107z ?_
  refine c8.seq ?_
  refine c8.EF z7 I9 (by kernel_rfl) (by kernel_rfl) ?_
  refine bV.pre 10 (by simp (maxSteps := 2000000) (disch := omega) only [go_sem, Nat.reduceBEq, Nat.reduceAdd, Nat.reduceSub, Nat.reduceLeDiff, Nat.reduceMul, reduceIte, reduceCtorEq, Int.reduceNeg, Int.reduceToNat, Nat.reduceLT, Int.reduceLE, Int.reduceLT, Int.reduceAdd, Int.reduceSub, Int.reduceMul, F.get, F.set, F.len, wrap64, tX, Int.add_sub_cancel, if_pos, if_neg, Z4]; rfl) ?_
  show _
  change c8 _ _ _ _ _
  refine c8.split 14 rfl (fun e1 => ?_) (fun e1 => ?_)
  · try simp only [e1]
    have qe1 := e1; try simp only [decide_eq_true_eq, decide_eq_false_iff_not, Bool.not_eq_true', Bool.not_eq_false', Bool.not_eq_eq_eq_not, Bool.not_true, Bool.not_false, Int.not_le, Int.not_lt, beq_iff_eq, bne_iff_ne, ge_iff_le, gt_iff_lt, beq_eq_false_iff_ne, ne_eq, bne_eq_false_iff_eq] at qe1
    refine c8.pV rfl ?_
    refine c7z ?_
    refine l5.pre 1 t36 ?_
    refine c57z ?_
    refine Ends.mk (by simp only [MI, rB, iQ, jM]; first | rfl | (simp (maxSteps := 2000000) (disch := omega) only [go_sem, Nat.reduceBEq, Nat.reduceAdd, Nat.reduceSub, Nat.reduceLeDiff, Nat.reduceMul, reduceIte, reduceCtorEq, Int.reduceNeg, Int.reduceToNat, Nat.reduceLT, Int.reduceLE, Int.reduceLT, Int.reduceAdd, Int.reduceSub, Int.reduceMul, F.get, F.set, F.len, wrap64, tX, Int.add_sub_cancel, if_pos, if_neg]; rfl)) ?_
    exact ⟨_, [], _, (List.append_nil _).symm, by (first | exact Nat.le_refl _ | (simp only [F.len]; first | done | exact Nat.le_refl _)), F.kJ _ _, by first | rfl | skip, by first | (rw [c5, if_pos (by omega)]; exact ⟨rfl, rfl⟩) | (rw [c5, if_neg (by omega)]; exact ⟨rfl, rfl⟩)⟩
  · try simp only [e1]
    have qe1 := e1; try simp only [decide_eq_true_eq, decide_eq_false_iff_not, Bool.not_eq_true', Bool.not_eq_false', Bool.not_eq_eq_eq_not, Bool.not_true, Bool.not_false, Int.not_le, Int.not_lt, beq_iff_eq, bne_iff_ne, ge_iff_le, gt_iff_lt, beq_eq_false_iff_ne, ne_eq, bne_eq_false_iff_eq] at qe1
    refine c154z ?_
    refine l5.pre 8 t36 ?_
    refine c107z ?_
    refine c8.EF z7 J0 (by kernel_rfl) (by kernel_rfl) ?_
    refine bV.pre 12 t56 ?_
    refine bV.call rfl rfl rfl hb11 (qR _ _ (by omega) (by omega)) ?_
    refine bV.pre 1 t56 ?_
    show _
    change c8 _ _ _ _ _
    refine c8.ret ?_
    refine Ends.mk (by simp only [MI, rB, iQ, jM]; first | rfl | (simp (maxSteps := 2000000) (disch := omega) only [go_sem, Nat.reduceBEq, Nat.reduceAdd, Nat.reduceSub, Nat.reduceLeDiff, Nat.reduceMul, reduceIte, reduceCtorEq, Int.reduceNeg, Int.reduceToNat, Nat.reduceLT, Int.reduceLE, Int.reduceLT, Int.reduceAdd, Int.reduceSub, Int.reduceMul, F.get, F.set, F.len, wrap64, tX, Int.add_sub_cancel, if_pos, if_neg, yK]; rfl)) ?_
    exact ⟨_, [], _, (List.append_nil _).symm, by (first | exact Nat.le_refl _ | (simp only [F.len]; first | done | exact Nat.le_refl _)), F.kJ _ _, by first | rfl | skip, by first | (rw [c5, if_pos (by omega)]; exact ⟨rfl, rfl⟩) | (rw [c5, if_neg (by omega)]; exact ⟨rfl, rfl⟩)⟩
theorem lF {β N : Nat} {L : List Int} {S : Int → c6} (F : bM β L N S) (l : c6) (I n : Int) (hI : OkI L I) (hL : L.length < 4611686018427387904) (hn : 0 < n) (hm : n ≤ 4611686018427387904) : CallA Try.prog cfg 41 [.ptr β 0 0, .int .i64 n] (S I ++ l) (fun y' h' => y' = .int .i64 (c5 L I n).1 ∧ h' = S (c5 L I n).2 ++ l) := yL (F.app l) I n hI hL hn hm
theorem Z5 {L : List Int} {I : Int} (h : (c5 L I 8).1 = 1) : I0 L I = c5 L (c5 L I 8).2 4611686018427387904 := if_pos h
theorem Z6 {L : List Int} {I : Int} (h : ¬ (c5 L I 8).1 = 1) : I0 L I = c5 L (c5 L I 8).2 4 := if_neg h
theorem FW {β N : Nat} {L : List Int} {S : Int → c6} (F : bM β L N S) (I : Int) (hI : OkI L I) (hL : L.length < 4611686018427387904) : CallA Try.prog cfg 106 [.ptr β 0 0] (S I) (fun y' h' => y' = .int .i64 (I0 L I).1 ∧ h' = S (I0 L I).2) := by
  refine CallA.W2 z7 fn106 rfl ?_
  simp only [ntm106, List.length_cons, List.length_nil, Nat.reduceAdd, Nat.reduceSub, List.replicate, List.cons_append, List.nil_append]
  have h8 := l8 hI (n := 8) (by omega)
  refine c7z ?_
  refine l5.pre 1 t15 ?_
  refine c107z ?_
  refine c7z ?_
  refine l5.pre 1 t15 ?_
  refine l5.p8 rfl rfl rfl tD (yL F I 8 hI hL (by omega) (by omega)) ?_
  refine l5.pre 1 t15 ?_
  refine c6z ?_
  refine c8.split 5 rfl (fun e1 => ?_) (fun e1 => ?_)
  · try simp only [e1]
    have qe1 := e1; try simp only [decide_eq_true_eq, decide_eq_false_iff_not, Bool.not_eq_true', Bool.not_eq_false', Bool.not_eq_eq_eq_not, Bool.not_true, Bool.not_false, Int.not_le, Int.not_lt, beq_iff_eq, bne_iff_ne, ge_iff_le, gt_iff_lt, beq_eq_false_iff_ne, ne_eq, bne_eq_false_iff_eq] at qe1
    refine c8.pV rfl ?_
    refine c7z ?_
    refine l5.pre 1 t15 ?_
    refine l5.p8 rfl rfl rfl tD (yL F _ _ h8.2.2 hL (by omega) (by omega)) ?_
    refine l5.pre 1 t15 ?_
    refine c57z ?_
    refine Ends.mk t58 ?_
    exact ⟨_, [], _, (List.append_nil _).symm, by (first | exact Nat.le_refl _ | (simp only [F.len]; first | done | exact Nat.le_refl _)), F.kJ _ _, by first | rfl | skip, by first | (rw [Z5 (by omega)]; exact ⟨rfl, rfl⟩) | (rw [Z6 (by omega)]; exact ⟨rfl, rfl⟩)⟩
  · try simp only [e1]
    have qe1 := e1; try simp only [decide_eq_true_eq, decide_eq_false_iff_not, Bool.not_eq_true', Bool.not_eq_false', Bool.not_eq_eq_eq_not, Bool.not_true, Bool.not_false, Int.not_le, Int.not_lt, beq_iff_eq, bne_iff_ne, ge_iff_le, gt_iff_lt, beq_eq_false_iff_ne, ne_eq, bne_eq_false_iff_eq] at qe1
    refine c154z ?_
    refine l5.pre 1 t15 ?_
    refine l5.p8 rfl rfl rfl tD (yL F _ _ h8.2.2 hL (by omega) (by omega)) ?_
    refine l5.pre 1 t15 ?_
    refine c57z ?_
    refine Ends.mk t58 ?_
    exact ⟨_, [], _, (List.append_nil _).symm, by (first | exact Nat.le_refl _ | (simp only [F.len]; first | done | exact Nat.le_refl _)), F.kJ _ _, by first | rfl | skip, by first | (rw [Z5 (by omega)]; exact ⟨rfl, rfl⟩) | (rw [Z6 (by omega)]; exact ⟨rfl, rfl⟩)⟩
theorem nR {β N : Nat} {L : List Int} {S : Int → c6} (F : bM β L N S) (l : c6) (I : Int) (hI : OkI L I) (hL : L.length < 4611686018427387904) : CallA Try.prog cfg 106 [.ptr β 0 0] (S I ++ l) (fun y' h' => y' = .int .i64 (I0 L I).1 ∧ h' = S (I0 L I).2 ++ l) := FW (F.app l) I hI hL
theorem FX {a : Ex} {l : List AV} : List.take 4 (q9 a ++ l) = q9 a := List.take_left' (j8 a)
theorem FY {a : Ex} {l : List AV} : List.drop 8 (q9 a ++ l) = List.drop 4 l := by
  rw [List.drop_append, j8, List.drop_of_length_le (by rw [j8]; omega)]
  rfl
theorem tY {α γ : Type} {f : α → Option γ} {l l2 : List α} {r r2 : List γ} (h : l9 f l = some r) (h2 : l9 f l2 = some r2) : l9 f (l ++ l2) = some (r ++ r2) := by
  induction l generalizing r with
  | nil => cases h; exact h2
  | cons x l ih =>
    simp only [l9, List.cons_append] at h ⊢
    cases hx : f x with
    | none => simp only [hx] at h; cases h
    | some y =>
      simp only [hx] at h
      cases hl : l9 f l with
      | none => simp only [hl] at h; cases h
      | some ys =>
        simp only [hl, Option.some.injEq] at h
        subst h
        simp only [ih hl, List.cons_append]
theorem iY {n d : Nat} {h : c6} (a : Ex) : l9 (gG n h (d + 1)) (q9 a) = some (q9 a) := by
  rw [bR]
  rfl
theorem eX {n d : Nat} {h : c6} (a b : Ex) : l9 (gG n h (d + 1)) (q9 a ++ q9 b) = some (q9 a ++ q9 b) := tY (iY a) (iY b)
theorem bW {a : Ex} : List.take 4 (q9 a) = q9 a := List.take_of_length_le (by rw [j8]; omega)
theorem eY {a b : Ex} : List.take 8 (q9 a ++ q9 b) = q9 a ++ q9 b := List.take_of_length_le (by simp [j8])
theorem iD {a b : Ex} : (q9 a ++ q9 b).length = 8 := by simp [j8]
theorem c_expr0 {β N : Nat} {L : List Int} {S : Int → c6} (F : bM β L N S) (I : Int) (hI : OkI L I) (hL : L.length < 4611686018427387904) (names : List BA) (hN : names.length < 1000) : CallA Try.prog cfg 86 [.ptr β 0 0, .vec names.length (aC names), .int .i64 0] (S I) (fun y' h' => y' = .agg (q9 (u7 L names 0 I).1) ∧ h' = S (u7 L names 0 I).2) := by
  refine CallA.W2 z7 fn86 rfl ?_
  simp only [ntm86, List.length_cons, List.length_nil, Nat.reduceAdd, Nat.reduceSub, List.replicate, List.cons_append, List.nil_append]
  have h10 := l8 hI (n := 10) (by omega)
  have h2 := l8 h10.2.2 (n := 2) (by omega)
  refine c7z ?_
  refine l5.pre 1 t4 ?_
  refine c6z ?_
  refine c7z ?_
  refine l5.pre 1 t4 ?_
  refine l5.p8 rfl rfl rfl tD (lF F _ I 10 hI hL (by omega) (by omega)) ?_
  refine l5.pre 1 t4 ?_
  refine c107z ?_
  refine c8.block ?_
  refine c7z ?_
  refine l5.pre 3 t4 ?_
  refine l5.split 13 rfl (fun e1 => ?_) (fun e1 => ?_)
  · try simp only [e1]
    have qe1 := e1; try simp only [decide_eq_true_eq, decide_eq_false_iff_not, Bool.not_eq_true', Bool.not_eq_false', Bool.not_eq_eq_eq_not, Bool.not_true, Bool.not_false, Int.not_le, Int.not_lt, beq_iff_eq, bne_iff_ne, ge_iff_le, gt_iff_lt, beq_eq_false_iff_ne, ne_eq, bne_eq_false_iff_eq] at qe1
    refine l5.pre 4 t4 ?_
    refine c6z ?_
    refine c8.pV rfl ?_
    refine c8.seq ?_
    refine c7z ?_
    refine l5.pre 4 t4 ?_
    refine l5.split 20 rfl (fun e2 => ?_) (fun e2 => ?_)
    · try simp only [e2]
      have qe2 := e2; try simp only [decide_eq_true_eq, decide_eq_false_iff_not, Bool.not_eq_true', Bool.not_eq_false', Bool.not_eq_eq_eq_not, Bool.not_true, Bool.not_false, Int.not_le, Int.not_lt, beq_iff_eq, bne_iff_ne, ge_iff_le, gt_iff_lt, beq_eq_false_iff_ne, ne_eq, bne_eq_false_iff_eq] at qe2
      refine l5.pre 1 t4 ?_
      refine l5.p8 rfl rfl rfl tD (lF F _ _ 2 h10.2.2 hL (by omega) (by omega)) ?_
      refine l5.pre 2 t4 ?_
      refine c6z ?_
      refine c8.split 24 rfl (fun e3 => ?_) (fun e3 => ?_)
      · try simp only [e3]
        have qe3 := e3; try simp only [decide_eq_true_eq, decide_eq_false_iff_not, Bool.not_eq_true', Bool.not_eq_false', Bool.not_eq_eq_eq_not, Bool.not_true, Bool.not_false, Int.not_le, Int.not_lt, beq_iff_eq, bne_iff_ne, ge_iff_le, gt_iff_lt, beq_eq_false_iff_ne, ne_eq, bne_eq_false_iff_eq] at qe3
        refine c8.pV rfl ?_
        refine c8.seq ?_
        have hn := l8 h2.2.2 (n := (names.length : Int)) (by omega)
        refine c8.region z7 ?_
        refine l5.pre 4 t4 ?_
        refine l5.p8 rfl rfl rfl tD (lF F _ _ _ h2.2.2 hL (by omega) (by omega)) ?_
        refine l5.pre 4 t4 ?_
        refine c57z ?_
        refine Ends.mk t30 ?_
        exact ⟨S _, _, _, rfl, by (first | exact Nat.le_refl _ | (simp only [F.len]; first | done | exact Nat.le_refl _)), F.kJ _ _, by first | rfl | (simp only [aL, aE, s4, w7, aV, w8, aF, aW, aM, v5, w9, aX, v7, aN, aG, aA, r6, l9, F.len, F.R8, F.R9, Nat.lt_irrefl, if_false, reduceIte, List.getElem?_cons_succ, List.getElem?_cons_zero, Nat.not_lt, Nat.le_add_right, Nat.le_refl, and_self, if_true, Bool.false_eq_true, Nat.zero_add, Nat.one_mul, Nat.mul_one, List.drop_zero, j8, iD, bW, eY, iY, eX, Nat.reduceMul]; rfl), by first | (rw [u7]; unfold eO; rw [if_pos (by omega)]; exact ⟨rfl, rfl⟩) | (rw [u7]; unfold eO; rw [if_neg (by omega), if_pos (by omega)]; exact ⟨rfl, rfl⟩) | (rw [u7]; unfold eO; rw [if_neg (by omega), if_neg (by omega)]; exact ⟨rfl, rfl⟩)⟩
      · try simp only [e3]
        have qe3 := e3; try simp only [decide_eq_true_eq, decide_eq_false_iff_not, Bool.not_eq_true', Bool.not_eq_false', Bool.not_eq_eq_eq_not, Bool.not_true, Bool.not_false, Int.not_le, Int.not_lt, beq_iff_eq, bne_iff_ne, ge_iff_le, gt_iff_lt, beq_eq_false_iff_ne, ne_eq, bne_eq_false_iff_eq] at qe3
        refine c154z ?_
        refine l5.pre 1 t4 ?_
        refine l5.p8 rfl rfl rfl FE (nR F _ _ t105 hL) ?_
        refine l5.pre 2 t4 ?_
        refine c57z ?_
        refine Ends.mk t30 ?_
        exact ⟨S _, _, _, rfl, by (first | exact Nat.le_refl _ | (simp only [F.len]; first | done | exact Nat.le_refl _)), F.kJ _ _, by first | rfl | (simp only [aL, aE, s4, w7, aV, w8, aF, aW, aM, v5, w9, aX, v7, aN, aG, aA, r6, l9, F.len, F.R8, F.R9, Nat.lt_irrefl, if_false, reduceIte, List.getElem?_cons_succ, List.getElem?_cons_zero, Nat.not_lt, Nat.le_add_right, Nat.le_refl, and_self, if_true, Bool.false_eq_true, Nat.zero_add, Nat.one_mul, Nat.mul_one, List.drop_zero, j8, iD, bW, eY, iY, eX, Nat.reduceMul]; rfl), by first | (rw [u7]; unfold eO; rw [if_pos (by omega)]; exact ⟨rfl, rfl⟩) | (rw [u7]; unfold eO; rw [if_neg (by omega), if_pos (by omega)]; exact ⟨rfl, rfl⟩) | (rw [u7]; unfold eO; rw [if_neg (by omega), if_neg (by omega)]; exact ⟨rfl, rfl⟩)⟩
    · try simp only [e2]
      have qe2 := e2; try simp only [decide_eq_true_eq, decide_eq_false_iff_not, Bool.not_eq_true', Bool.not_eq_false', Bool.not_eq_eq_eq_not, Bool.not_true, Bool.not_false, Int.not_le, Int.not_lt, beq_iff_eq, bne_iff_ne, ge_iff_le, gt_iff_lt, beq_eq_false_iff_ne, ne_eq, bne_eq_false_iff_eq] at qe2
      refine l5.pre 4 t4 ?_
      refine c6z ?_
      refine c154z ?_
      refine l5.pre 1 t4 ?_
      refine l5.p8 rfl rfl rfl FE (nR F _ _ t105 hL) ?_
      refine l5.pre 2 t4 ?_
      refine c57z ?_
      refine Ends.mk t30 ?_
      exact ⟨S _, _, _, rfl, by (first | exact Nat.le_refl _ | (simp only [F.len]; first | done | exact Nat.le_refl _)), F.kJ _ _, by first | rfl | (simp only [aL, aE, s4, w7, aV, w8, aF, aW, aM, v5, w9, aX, v7, aN, aG, aA, r6, l9, F.len, F.R8, F.R9, Nat.lt_irrefl, if_false, reduceIte, List.getElem?_cons_succ, List.getElem?_cons_zero, Nat.not_lt, Nat.le_add_right, Nat.le_refl, and_self, if_true, Bool.false_eq_true, Nat.zero_add, Nat.one_mul, Nat.mul_one, List.drop_zero, j8, iD, bW, eY, iY, eX, Nat.reduceMul]; rfl), by first | (rw [u7]; unfold eO; rw [if_pos (by omega)]; exact ⟨rfl, rfl⟩) | (rw [u7]; unfold eO; rw [if_neg (by omega), if_pos (by omega)]; exact ⟨rfl, rfl⟩) | (rw [u7]; unfold eO; rw [if_neg (by omega), if_neg (by omega)]; exact ⟨rfl, rfl⟩)⟩
  · exfalso; first | cases e1 | (simp at e1)
theorem c_exprS {β N : Nat} {L : List Int} {S : Int → c6} (F : bM β L N S) (I : Int) (hI : OkI L I) (hL : L.length < 4611686018427387904) (names : List BA) (hN : names.length < 1000) (d : Nat) (hd : d < 1000) (ih : ∀ {N : Nat} {S : Int → c6} (F : bM β L N S) (I : Int), OkI L I → CallA Try.prog cfg 86 [.ptr β 0 0, .vec names.length (aC names), .int .i64 (d : Int)] (S I) (fun y' h' => y' = .agg (q9 (u7 L names d I).1) ∧ h' = S (u7 L names d I).2)) : CallA Try.prog cfg 86 [.ptr β 0 0, .vec names.length (aC names), .int .i64 ((d + 1 : Nat) : Int)] (S I) (fun y' h' => y' = .agg (q9 (u7 L names (d + 1) I).1) ∧ h' = S (u7 L names (d + 1) I).2) := by
  refine CallA.W2 z7 fn86 rfl ?_
  simp only [ntm86, List.length_cons, List.length_nil, Nat.reduceAdd, Nat.reduceSub, List.replicate, List.cons_append, List.nil_append]
  have h10 := l8 hI (n := 10) (by omega)
  have h2 := l8 h10.2.2 (n := 2) (by omega)
  have h13 := l8 h10.2.2 (n := 13) (by omega)
  have ht : 0 ≤ (c5 L I 10).1.tmod 2 ∧ (c5 L I 10).1.tmod 2 < 2 := ⟨Int.tmod_nonneg _ h10.1, Int.tmod_lt_of_pos _ (by omega)⟩
  refine c7z ?_
  refine l5.pre 1 t0 ?_
  refine c6z ?_
  refine c7z ?_
  refine l5.pre 1 t0 ?_
  refine l5.p8 rfl rfl rfl tD (lF F _ I 10 hI hL (by omega) (by omega)) ?_
  refine l5.pre 1 t0 ?_
  refine c107z ?_
  refine c8.block ?_
  refine c7z ?_
  refine l5.pre 3 t0 ?_
  refine l5.split 13 rfl (fun e1 => ?_) (fun e1 => ?_)
  · exfalso; first | (simp only [beq_iff_eq] at e1; omega) | (simp at e1)
  · try simp only [e1]
    have qe1 := e1; try simp only [decide_eq_true_eq, decide_eq_false_iff_not, Bool.not_eq_true', Bool.not_eq_false', Bool.not_eq_eq_eq_not, Bool.not_true, Bool.not_false, Int.not_le, Int.not_lt, beq_iff_eq, bne_iff_ne, ge_iff_le, gt_iff_lt, beq_eq_false_iff_ne, ne_eq, bne_eq_false_iff_eq] at qe1
    refine l5.pre 4 t0 ?_
    refine c6z ?_
    refine c8.split 10 rfl (fun e2 => ?_) (fun e2 => ?_)
    · try simp only [e2]
      have qe2 := e2; try simp only [decide_eq_true_eq, decide_eq_false_iff_not, Bool.not_eq_true', Bool.not_eq_false', Bool.not_eq_eq_eq_not, Bool.not_true, Bool.not_false, Int.not_le, Int.not_lt, beq_iff_eq, bne_iff_ne, ge_iff_le, gt_iff_lt, beq_eq_false_iff_ne, ne_eq, bne_eq_false_iff_eq] at qe2
      refine c8.pV rfl ?_
      refine c8.seq ?_
      refine c7z ?_
      refine l5.pre 4 t0 ?_
      refine l5.split 20 rfl (fun e3 => ?_) (fun e3 => ?_)
      · try simp only [e3]
        have qe3 := e3; try simp only [decide_eq_true_eq, decide_eq_false_iff_not, Bool.not_eq_true', Bool.not_eq_false', Bool.not_eq_eq_eq_not, Bool.not_true, Bool.not_false, Int.not_le, Int.not_lt, beq_iff_eq, bne_iff_ne, ge_iff_le, gt_iff_lt, beq_eq_false_iff_ne, ne_eq, bne_eq_false_iff_eq] at qe3
        refine l5.pre 1 t0 ?_
        refine l5.p8 rfl rfl rfl tD (lF F _ _ 2 h10.2.2 hL (by omega) (by omega)) ?_
        refine l5.pre 2 t0 ?_
        refine c6z ?_
        refine c8.split 24 rfl (fun e4 => ?_) (fun e4 => ?_)
        · try simp only [e4]
          have qe4 := e4; try simp only [decide_eq_true_eq, decide_eq_false_iff_not, Bool.not_eq_true', Bool.not_eq_false', Bool.not_eq_eq_eq_not, Bool.not_true, Bool.not_false, Int.not_le, Int.not_lt, beq_iff_eq, bne_iff_ne, ge_iff_le, gt_iff_lt, beq_eq_false_iff_ne, ne_eq, bne_eq_false_iff_eq] at qe4
          refine c8.pV rfl ?_
          refine c8.seq ?_
          have hn := l8 h2.2.2 (n := (names.length : Int)) (by omega)
          refine c8.region z7 ?_
          refine l5.pre 4 t0 ?_
          refine l5.p8 rfl rfl rfl tD (lF F _ _ _ h2.2.2 hL (by omega) (by omega)) ?_
          refine l5.pre 4 t0 ?_
          refine c57z ?_
          refine Ends.mk t12 ?_
          exact ⟨S _, _, _, rfl, by (first | exact Nat.le_refl _ | (simp only [F.len]; first | done | exact Nat.le_refl _)), F.kJ _ _, by first | rfl | (simp only [aL, aE, s4, w7, aV, w8, aF, aW, aM, v5, w9, aX, v7, aN, aG, aA, r6, l9, F.len, F.R8, F.R9, Nat.lt_irrefl, if_false, reduceIte, List.getElem?_cons_succ, List.getElem?_cons_zero, Nat.not_lt, Nat.le_add_right, Nat.le_refl, and_self, if_true, Bool.false_eq_true, Nat.zero_add, Nat.one_mul, Nat.mul_one, List.drop_zero, j8, iD, bW, eY, iY, eX, Nat.reduceMul]; rfl), by first | (rw [u7, if_pos (by omega)]; unfold eO; rw [if_pos (by omega)]; exact ⟨rfl, rfl⟩) | (rw [u7, if_pos (by omega)]; unfold eO; rw [if_neg (by omega), if_pos (by omega)]; exact ⟨rfl, rfl⟩) | (rw [u7, if_pos (by omega)]; unfold eO; rw [if_neg (by omega), if_neg (by omega)]; exact ⟨rfl, rfl⟩) | (rw [u7, if_neg (by omega), if_pos (by omega)]; exact ⟨rfl, rfl⟩) | (rw [u7, if_neg (by omega), if_neg (by omega)]; exact ⟨rfl, rfl⟩)⟩
        · try simp only [e4]
          have qe4 := e4; try simp only [decide_eq_true_eq, decide_eq_false_iff_not, Bool.not_eq_true', Bool.not_eq_false', Bool.not_eq_eq_eq_not, Bool.not_true, Bool.not_false, Int.not_le, Int.not_lt, beq_iff_eq, bne_iff_ne, ge_iff_le, gt_iff_lt, beq_eq_false_iff_ne, ne_eq, bne_eq_false_iff_eq] at qe4
          refine c154z ?_
          refine l5.pre 1 t0 ?_
          refine l5.p8 rfl rfl rfl FE (nR F _ _ t105 hL) ?_
          refine l5.pre 2 t0 ?_
          refine c57z ?_
          refine Ends.mk t12 ?_
          exact ⟨S _, _, _, rfl, by (first | exact Nat.le_refl _ | (simp only [F.len]; first | done | exact Nat.le_refl _)), F.kJ _ _, by first | rfl | (simp only [aL, aE, s4, w7, aV, w8, aF, aW, aM, v5, w9, aX, v7, aN, aG, aA, r6, l9, F.len, F.R8, F.R9, Nat.lt_irrefl, if_false, reduceIte, List.getElem?_cons_succ, List.getElem?_cons_zero, Nat.not_lt, Nat.le_add_right, Nat.le_refl, and_self, if_true, Bool.false_eq_true, Nat.zero_add, Nat.one_mul, Nat.mul_one, List.drop_zero, j8, iD, bW, eY, iY, eX, Nat.reduceMul]; rfl), by first | (rw [u7, if_pos (by omega)]; unfold eO; rw [if_pos (by omega)]; exact ⟨rfl, rfl⟩) | (rw [u7, if_pos (by omega)]; unfold eO; rw [if_neg (by omega), if_pos (by omega)]; exact ⟨rfl, rfl⟩) | (rw [u7, if_pos (by omega)]; unfold eO; rw [if_neg (by omega), if_neg (by omega)]; exact ⟨rfl, rfl⟩) | (rw [u7, if_neg (by omega), if_pos (by omega)]; exact ⟨rfl, rfl⟩) | (rw [u7, if_neg (by omega), if_neg (by omega)]; exact ⟨rfl, rfl⟩)⟩
      · try simp only [e3]
        have qe3 := e3; try simp only [decide_eq_true_eq, decide_eq_false_iff_not, Bool.not_eq_true', Bool.not_eq_false', Bool.not_eq_eq_eq_not, Bool.not_true, Bool.not_false, Int.not_le, Int.not_lt, beq_iff_eq, bne_iff_ne, ge_iff_le, gt_iff_lt, beq_eq_false_iff_ne, ne_eq, bne_eq_false_iff_eq] at qe3
        refine l5.pre 4 t0 ?_
        refine c6z ?_
        refine c154z ?_
        refine l5.pre 1 t0 ?_
        refine l5.p8 rfl rfl rfl FE (nR F _ _ t105 hL) ?_
        refine l5.pre 2 t0 ?_
        refine c57z ?_
        refine Ends.mk t12 ?_
        exact ⟨S _, _, _, rfl, by (first | exact Nat.le_refl _ | (simp only [F.len]; first | done | exact Nat.le_refl _)), F.kJ _ _, by first | rfl | (simp only [aL, aE, s4, w7, aV, w8, aF, aW, aM, v5, w9, aX, v7, aN, aG, aA, r6, l9, F.len, F.R8, F.R9, Nat.lt_irrefl, if_false, reduceIte, List.getElem?_cons_succ, List.getElem?_cons_zero, Nat.not_lt, Nat.le_add_right, Nat.le_refl, and_self, if_true, Bool.false_eq_true, Nat.zero_add, Nat.one_mul, Nat.mul_one, List.drop_zero, j8, iD, bW, eY, iY, eX, Nat.reduceMul]; rfl), by first | (rw [u7, if_pos (by omega)]; unfold eO; rw [if_pos (by omega)]; exact ⟨rfl, rfl⟩) | (rw [u7, if_pos (by omega)]; unfold eO; rw [if_neg (by omega), if_pos (by omega)]; exact ⟨rfl, rfl⟩) | (rw [u7, if_pos (by omega)]; unfold eO; rw [if_neg (by omega), if_neg (by omega)]; exact ⟨rfl, rfl⟩) | (rw [u7, if_neg (by omega), if_pos (by omega)]; exact ⟨rfl, rfl⟩) | (rw [u7, if_neg (by omega), if_neg (by omega)]; exact ⟨rfl, rfl⟩)⟩
    · try simp only [e2]
      have qe2 := e2; try simp only [decide_eq_true_eq, decide_eq_false_iff_not, Bool.not_eq_true', Bool.not_eq_false', Bool.not_eq_eq_eq_not, Bool.not_true, Bool.not_false, Int.not_le, Int.not_lt, beq_iff_eq, bne_iff_ne, ge_iff_le, gt_iff_lt, beq_eq_false_iff_ne, ne_eq, bne_eq_false_iff_eq] at qe2
      refine c8.N6 rfl ?_
      refine c7z ?_
      refine l5.pre 3 t0 ?_
      refine c6z ?_
      refine c8.split 36 rfl (fun e5 => ?_) (fun e5 => ?_)
      · try simp only [e5]
        have qe5 := e5; try simp only [decide_eq_true_eq, decide_eq_false_iff_not, Bool.not_eq_true', Bool.not_eq_false', Bool.not_eq_eq_eq_not, Bool.not_true, Bool.not_false, Int.not_le, Int.not_lt, beq_iff_eq, bne_iff_ne, ge_iff_le, gt_iff_lt, beq_eq_false_iff_ne, ne_eq, bne_eq_false_iff_eq] at qe5
        refine c8.pV rfl ?_
        refine c7z ?_
        refine l5.pre 7 t0 ?_
        refine l5.p8 rfl rfl rfl hb86 (ih (F.app _) _ h10.2.2) ?_
        refine l5.pre 3 t0 ?_
        refine c57z ?_
        refine Ends.mk t12 ?_
        exact ⟨S _, _, _, rfl, by (first | exact Nat.le_refl _ | (simp only [F.len]; first | done | exact Nat.le_refl _)), F.kJ _ _, by first | rfl | (simp only [aL, aE, s4, w7, aV, w8, aF, aW, aM, v5, w9, aX, v7, aN, aG, aA, r6, l9, F.len, F.R8, F.R9, Nat.lt_irrefl, if_false, reduceIte, List.getElem?_cons_succ, List.getElem?_cons_zero, Nat.not_lt, Nat.le_add_right, Nat.le_refl, and_self, if_true, Bool.false_eq_true, Nat.zero_add, Nat.one_mul, Nat.mul_one, List.drop_zero, j8, iD, bW, eY, iY, eX, Nat.reduceMul]; rfl), by first | (rw [u7, if_pos (by omega)]; unfold eO; rw [if_pos (by omega)]; exact ⟨rfl, rfl⟩) | (rw [u7, if_pos (by omega)]; unfold eO; rw [if_neg (by omega), if_pos (by omega)]; exact ⟨rfl, rfl⟩) | (rw [u7, if_pos (by omega)]; unfold eO; rw [if_neg (by omega), if_neg (by omega)]; exact ⟨rfl, rfl⟩) | (rw [u7, if_neg (by omega), if_pos (by omega)]; exact ⟨rfl, rfl⟩) | (rw [u7, if_neg (by omega), if_neg (by omega)]; exact ⟨rfl, rfl⟩)⟩
      · try simp only [e5]
        have qe5 := e5; try simp only [decide_eq_true_eq, decide_eq_false_iff_not, Bool.not_eq_true', Bool.not_eq_false', Bool.not_eq_eq_eq_not, Bool.not_true, Bool.not_false, Int.not_le, Int.not_lt, beq_iff_eq, bne_iff_ne, ge_iff_le, gt_iff_lt, beq_eq_false_iff_ne, ne_eq, bne_eq_false_iff_eq] at qe5
        refine c154z ?_
        refine l5.pre 1 t0 ?_
        refine l5.p8 rfl rfl rfl tD (lF F _ _ 13 h10.2.2 hL (by omega) (by omega)) ?_
        refine l5.pre 5 t0 ?_
        refine l5.p8 rfl rfl rfl hb86 (ih (F.app _) _ h13.2.2) ?_
        refine l5.pre 4 t0 ?_
        refine l5.p8 rfl rfl rfl hb86 (ih (F.app _) _ (mQ h13.2.2).2) ?_
        refine l5.pre 3 t0 ?_
        refine c57z ?_
        refine Ends.mk t12 ?_
        exact ⟨S _, _, _, rfl, by (first | exact Nat.le_refl _ | (simp only [F.len]; first | done | exact Nat.le_refl _)), F.kJ _ _, by first | rfl | (simp only [aL, aE, s4, w7, aV, w8, aF, aW, aM, v5, w9, aX, v7, aN, aG, aA, r6, l9, F.len, F.R8, F.R9, Nat.lt_irrefl, if_false, reduceIte, List.getElem?_cons_succ, List.getElem?_cons_zero, Nat.not_lt, Nat.le_add_right, Nat.le_refl, and_self, if_true, Bool.false_eq_true, Nat.zero_add, Nat.one_mul, Nat.mul_one, List.drop_zero, j8, iD, bW, eY, iY, eX, Nat.reduceMul]; rfl), by first | (rw [u7, if_pos (by omega)]; unfold eO; rw [if_pos (by omega)]; exact ⟨rfl, rfl⟩) | (rw [u7, if_pos (by omega)]; unfold eO; rw [if_neg (by omega), if_pos (by omega)]; exact ⟨rfl, rfl⟩) | (rw [u7, if_pos (by omega)]; unfold eO; rw [if_neg (by omega), if_neg (by omega)]; exact ⟨rfl, rfl⟩) | (rw [u7, if_neg (by omega), if_pos (by omega)]; exact ⟨rfl, rfl⟩) | (rw [u7, if_neg (by omega), if_neg (by omega)]; exact ⟨rfl, rfl⟩)⟩
theorem KC {β : Nat} {L : List Int} (hL : L.length < 4611686018427387904) (names : List BA) (hN : names.length < 1000) : ∀ (d : Nat), d < 1000 → ∀ {N : Nat} {S : Int → c6} (F : bM β L N S) (I : Int), OkI L I → CallA Try.prog cfg 86 [.ptr β 0 0, .vec names.length (aC names), .int .i64 (d : Int)] (S I) (fun y' h' => y' = .agg (q9 (u7 L names d I).1) ∧ h' = S (u7 L names d I).2)
  | 0, _, _, _, F, I, hI => c_expr0 F I hI hL names hN
  | d + 1, hd, _, _, F, I, hI => c_exprS F I hI hL names hN d (by omega) fun F I hI => KC hL names hN d (by omega) F I hI
end Go.Proofs.Ytbmaijdkebjnhaa
end
section
namespace Go.Un
open Go.Ab
theorem FZ {c : UInt8} (h : isL c = true) : isW c = true := by simp [isW, h]
theorem isW_D {c : UInt8} (h : isD c = true) : isW c = true := by simp [isW, h]
theorem B1 {c : UInt8} (h : tE c = true) : isW c = false := by
 simp only [tE, Bool.or_eq_true, beq_iff_eq] at h
 simp only [isW, isL, isD, Bool.or_eq_false_iff, Bool.and_eq_false_iff, decide_eq_false_iff_not]
 omega
theorem KD {c : UInt8} (h : isL c = true) : isD c = false := by
 simp only [isL, Bool.or_eq_true, Bool.and_eq_true, decide_eq_true_eq] at h
 simp only [isD, Bool.and_eq_false_iff, decide_eq_false_iff_not]
 omega
theorem sD {c : UInt8} (h : c ∈ FH) : tE c = false ∧ isL c = false ∧ isD c = false := by
 simp only [FH, List.mem_cons, List.not_mem_nil, or_false] at h
 rcases h with rfl | rfl | rfl | rfl | rfl | rfl | rfl | rfl | rfl | rfl | rfl | rfl | rfl | rfl | rfl | rfl | rfl <;> decide
theorem sE {c d : UInt8} (h : (c, d) ∈ P0) : tE c = false ∧ isL c = false ∧ isD c = false := by
 simp only [P0, List.mem_cons, List.not_mem_nil, or_false, Prod.mk.injEq] at h
 rcases h with ⟨rfl, _⟩ | ⟨rfl, _⟩ | ⟨rfl, _⟩ | ⟨rfl, _⟩ | ⟨rfl, _⟩ | ⟨rfl, _⟩ <;> decide
theorem LX.sp_inv {c : UInt8} {s : Bs} {n : Nat} (h : LX (c :: s) n) (hc : tE c = true) : LX s n := by
 have hw := B1 hc
 generalize e : c :: s = t at h
 cases h with
 | nil => cases e
 | space _ h => cases e; exact h
 | word hc' _ _ _ _ => cases e; rw [FZ hc'] at hw; cases hw
 | num hc' _ _ _ _ => cases e; rw [isW_D hc'] at hw; cases hw
 | one hc' _ _ => cases e; rw [(sD hc').1] at hc; cases hc
 | two hc' _ => cases e; rw [(sE hc').1] at hc; cases hc
theorem LX.GA {c : UInt8} {s : Bs} {n : Nat} (h : LX (c :: s) n) (hc : isL c = true) : ∃ w r m, s = w ++ r ∧ (∀ d ∈ w, isW d = true) ∧ w.length < 16 ∧ NW r ∧ n = m + 1 ∧ LX r m := by
 generalize e : c :: s = t at h
 cases h with
 | nil => cases e
 | space hc' h => cases e; have := B1 hc'; rw [FZ hc] at this; cases this
 | word hc' h1 h2 h3 h4 => cases e; exact ⟨_, _, _, rfl, h1, h2, h3, rfl, h4⟩
 | num hc' _ _ _ _ => cases e; rw [KD hc] at hc'; cases hc'
 | one hc' _ _ => cases e; rw [(sD hc').2.1] at hc; cases hc
 | two hc' _ => cases e; rw [(sE hc').2.1] at hc; cases hc
theorem LX.num_inv {c : UInt8} {s : Bs} {n : Nat} (h : LX (c :: s) n) (hc : isD c = true) : ∃ w r m, s = w ++ r ∧ (∀ d ∈ w, isD d = true) ∧ tF (c :: w) < 9223372036854775808 ∧ NW r ∧ n = m + 1 ∧ LX r m := by
 generalize e : c :: s = t at h
 cases h with
 | nil => cases e
 | space hc' h => cases e; have := B1 hc'; rw [isW_D hc] at this; cases this
 | word hc' h1 h2 h3 h4 => cases e; rw [KD hc'] at hc; cases hc
 | num hc' h1 h2 h3 h4 => cases e; exact ⟨_, _, _, rfl, h1, h2, h3, rfl, h4⟩
 | one hc' _ _ => cases e; rw [(sD hc').2.2] at hc; cases hc
 | two hc' _ => cases e; rw [(sE hc').2.2] at hc; cases hc
theorem LX.yM {c : UInt8} {s : Bs} {n : Nat} (h : LX (c :: s) n) (h1 : tE c = false) (h2 : isL c = false) (h3 : isD c = false) : (∃ d r m, s = d :: r ∧ (c, d) ∈ P0 ∧ n = m + 1 ∧ LX r m) ∨ (∃ m, c ∈ FH ∧ (∀ d, s.head? = some d → (c, d) ∉ P0 ∧ (c, d) ≠ (47, 47)) ∧ n = m + 1 ∧ LX s m) := by
 generalize e : c :: s = t at h
 cases h with
 | nil => cases e
 | space hc' h => cases e; rw [h1] at hc'; cases hc'
 | word hc' _ _ _ _ => cases e; rw [h2] at hc'; cases hc'
 | num hc' _ _ _ _ => cases e; rw [h3] at hc'; cases hc'
 | one hc' h5 h6 => cases e; exact .inr ⟨_, hc', h5, rfl, h6⟩
 | two hc' h6 => cases e; exact .inl ⟨_, _, _, rfl, hc', rfl, h6⟩
def bat (L : Bs) (i : Nat) : UInt8 := L.getD i 0
theorem cA {L : Bs} {i : Nat} (h : i < L.length) : L.drop i = bat L i :: L.drop (i + 1) := by
 rw [List.drop_eq_getElem_cons h]
 simp [bat, List.getD, h]
theorem GB {L : Bs} {i : Nat} {u v : Bs} (h : L.drop i = u ++ v) {k : Nat} (hk : k < u.length) : bat L (i + k) = u.getD k 0 := by
 have : (L.drop i).getD k 0 = bat L (i + k) := by simp [bat, List.getD]
 rw [← this, h]
 simp [List.getD, List.getElem?_append_left hk]
theorem vU {L : Bs} {i : Nat} {u v : Bs} (h : L.drop i = u ++ v) : L.drop (i + u.length) = v := by
 rw [← List.drop_drop, h, List.drop_left]
theorem LX.P6 {L : Bs} {i n : Nat} (h : LX (L.drop i) n) (hi : i + 1 < L.length) (h1 : (bat L i).toNat = 47) (h2 : (bat L (i + 1)).toNat = 47) : False := by
 have e1 : bat L i = 47 := UInt8.toNat_inj.1 h1
 have e2 : bat L (i + 1) = 47 := UInt8.toNat_inj.1 h2
 rw [cA (by omega), e1] at h
 rcases h.yM (by decide) (by decide) (by decide) with ⟨d, r, m, e, hm, _⟩ | ⟨m, _, h5, _⟩
 ·rw [cA hi, e2] at e
  cases e
  exact absurd hm (by decide)
 ·exact (h5 47 (by rw [cA hi, e2]; rfl)).2 rfl
theorem LX.Z7 {L : Bs} {i n : Nat} (h : LX (L.drop i) n) (hi : i < L.length) (hc : tE (bat L i) = true) : LX (L.drop (i + 1)) n := by
 rw [cA hi] at h
 exact h.sp_inv hc
structure Span (L : Bs) (p : UInt8 → Bool) (i e : Nat) : Prop where
 lt : i < e
 le : e ≤ L.length
 all : ∀ j, i ≤ j → j < e → p (bat L j) = true
 stop : e < L.length → p (bat L e) = false
theorem Span.of {L : Bs} {p : UInt8 → Bool} {i : Nat} {c : UInt8} {w r : Bs} (hd : L.drop i = c :: w ++ r) (hc : p c = true) (hw : ∀ d ∈ w, p d = true) (hr : ∀ d, r.head? = some d → p d = false) : Span L p i (i + (w.length + 1)) := by
 have hl : (L.drop i).length = w.length + 1 + r.length := by rw [hd]; simp; omega
 rw [List.length_drop] at hl
 have hrr : L.drop (i + (w.length + 1)) = r := by
  have := vU (u := c :: w) (v := r) (by rw [hd])
  simpa using this
 refine ⟨by omega, by omega, fun j h1 h2 => ?_, fun h => ?_⟩
 ·obtain ⟨k, rfl⟩ : ∃ k, j = i + k := ⟨j - i, by omega⟩
  rw [GB (u := c :: w) (v := r) hd t59]
  cases k with
  | zero => exact hc
  | succ k =>
   have hk : k < w.length := by omega
   have : (c :: w).getD (k + 1) 0 = w[k] := by simp [List.getD, hk]
   rw [this]
   exact hw _ (List.getElem_mem hk)
 ·refine hr _ ?_
  rw [← hrr, cA h]
  rfl
theorem LX.Z8 {L : Bs} {i n : Nat} (h : LX (L.drop i) n) (hi : i < L.length) (hc : isL (bat L i) = true) : ∃ e m, Span L isW i e ∧ e ≤ i + 16 ∧ n = m + 1 ∧ LX (L.drop e) m := by
 rw [cA hi] at h
 obtain ⟨w, r, m, e, h1, h2, h3, rfl, h4⟩ := h.GA hc
 have hd : L.drop i = bat L i :: w ++ r := by rw [cA hi, e]; rfl
 refine ⟨_, m, Span.of hd (FZ hc) h1 h3, by omega, rfl, ?_⟩
 have := vU (u := bat L i :: w) (v := r) (by rw [hd])
 rw [List.length_cons] at this
 rw [this]
 exact h4
theorem LX.GC {L : Bs} {i n : Nat} (h : LX (L.drop i) n) (hi : i < L.length) (hc : isD (bat L i) = true) : ∃ e m, Span L isD i e ∧ tF ((L.drop i).take (e - i)) < 9223372036854775808 ∧ n = m + 1 ∧ LX (L.drop e) m := by
 rw [cA hi] at h
 obtain ⟨w, r, m, e, h1, h2, h3, rfl, h4⟩ := h.num_inv hc
 have hd : L.drop i = bat L i :: w ++ r := by rw [cA hi, e]; rfl
 refine ⟨_, m, Span.of hd hc h1 fun d hd => ?_, ?_, rfl, ?_⟩
 ·have := h3 d hd
  simp only [isW, Bool.or_eq_false_iff] at this
  exact this.2
 ·rw [show i + (w.length + 1) - i = (bat L i :: w).length from by simp, hd, List.take_left]
  exact h2
 ·have := vU (u := bat L i :: w) (v := r) (by rw [hd])
  rw [List.length_cons] at this
  rw [this]
  exact h4
def sgn (L : Bs) (i : Nat) : Nat := if i + 1 < L.length ∧ (bat L i, bat L (i + 1)) ∈ P0 then 2 else if bat L i ∈ FH then 1 else 0
theorem LX.Z9 {L : Bs} {i n : Nat} (h : LX (L.drop i) n) (hi : i < L.length) (h1 : tE (bat L i) = false) (h2 : isL (bat L i) = false) (h3 : isD (bat L i) = false) : 0 < sgn L i ∧ i + sgn L i ≤ L.length ∧ ∃ m, n = m + 1 ∧ LX (L.drop (i + sgn L i)) m := by
 rw [cA hi] at h
 rcases h.yM h1 h2 h3 with ⟨d, r, m, e, hm, rfl, h4⟩ | ⟨m, hm, h5, rfl, h4⟩
 ·have hl : (L.drop (i + 1)).length = r.length + 1 := by rw [e]; rfl
  rw [List.length_drop] at hl
  have hd : bat L (i + 1) = d := by rw [cA (by omega)] at e; injection e
  have hr : L.drop (i + 2) = r := by rw [cA (by omega)] at e; injection e
  rw [sgn, if_pos ⟨by omega, by rw [hd]; exact hm⟩]
  exact ⟨by omega, by omega, m, rfl, by rw [hr]; exact h4⟩
 ·rw [sgn, if_neg (fun hx => (h5 (bat L (i + 1)) (by rw [cA hx.1]; rfl)).1 hx.2), if_pos hm]
  exact ⟨by omega, by omega, m, rfl, h4⟩
theorem yN {l : Bs} {k : Nat} (h : k < l.length) : tF (l.take (k + 1)) = 10 * tF (l.take k) + ((bat l k).toNat - 48) := by
 rw [List.take_succ_eq_append_getElem h, yE]
 simp [bat, List.getD, h]
theorem AA {l : Bs} : ∀ {k m : Nat}, k ≤ m → tF (l.take k) ≤ tF (l.take m) := by
 intro k m hm
 induction hm with
 | refl => exact Nat.le_refl _
 | @step m _ ih =>
  by_cases h : m < l.length
  ·rw [yN h]; omega
  ·rw [List.take_of_length_le (i := m + 1) (by omega)]
   rw [List.take_of_length_le (i := m) (by omega)] at ih
   exact ih
def qS (l : Bs) : List AV := l.map fun c => .int .u8 (c.toNat : Int)
theorem lS (l : Bs) : (qS l).length = l.length := List.length_map _
theorem read_b {l : Bs} {i : Nat} (h : i < l.length) : List.take 1 (List.drop i (qS l)) = [AV.int .u8 ((bat l i).toNat : Int)] := by
 unfold qS
 rw [← List.map_drop, ← List.map_take, List.drop_eq_getElem_cons h, List.take_succ_cons, List.take_zero]
 simp [bat, List.getD, h]
theorem KE {l : Bs} {i k : Nat} : List.take k (List.drop i (qS l)) = qS ((l.drop i).take k) := by
 unfold qS
 rw [List.map_take, List.map_drop]
theorem B2 : ∀ l : Bs, iF (qS l) = some l
 | [] => rfl
 | c :: l => by
  show (iF (qS l)).map _ = _
  rw [B2 l]
  simp
end Go.Un
end
section
namespace Go.Proofs.Ytbmaijdkebjnhaa
open Go.Ab Go.Un
theorem P7 {n : Int} (h1 : 0 ≤ n) (h2 : n < 256) : IntKind.wrap .u8 n = n := by
  rw [IntKind.wrap_u8]; omega
theorem yO {f : FuncId} {args : List AV} {s : AV} (ha : args.all (z6 0 9) = true) (r : CallA Try.prog cfg f args [] fun y _ => RR y = s) (h : c6) : CallA Try.prog cfg f args h fun y h' => y = s ∧ h' = h := by
  intro B φ w cargs i hs hr
  have hst : ∀ k, k < w.heap.size → M9 [] φ w k := fun k hk => ⟨hk, fun β b hb => by simp at hb⟩
  have i0 : Pic cfg.eD w.heap.size [] φ w := ⟨fun β b hb => by simp at hb, fun β β' b b' hb => by simp at hb, fun β b hb => by simp at hb, fun β b hb => by simp at hb, Nat.le_refl _, fun g => (i.eD g).mono fun k j hk => ⟨rfl, (hst k hk.1).S1 j⟩⟩
  refine (r w.heap.size φ w cargs i0 hs (fun j v x h1 h2 => rel_nil (hr j v x h1 h2) (eE 9 x (List.all_eq_true.1 ha x (List.mem_of_getElem? h2))))).mono fun e w' hp => ?_
  obtain ⟨v, y, h', φ', rfl, h1, h2, h3, hq⟩ := hp
  have hk : ∀ k, k < w.heap.size → w'.heap[k]? = w.heap[k]? := fun k hk => (h2.kJ k (hst k hk)).1
  have ev : Ev h φ w h φ w' := ⟨h2.os, h2.tape, h2.output, h2.size, fun k hs => ⟨hk k hs.1, Nat.lt_of_lt_of_le hs.1 h2.size, hs.2⟩, fun k j hs => ⟨World.cell?_of_block (hk k hs.1), Nat.lt_of_lt_of_le hs.1 h2.size, hs.2⟩, Nat.le_refl _, fun β b b' e1 e2 => by rw [e1] at e2; cases e2; exact ⟨Nat.le_refl _, fun _ => ⟨rfl, rfl, rfl⟩⟩⟩
  refine ⟨v, _, h, φ, rfl, ⟨fun β b hb hv => ?_, i.inj, i.base, i.cJ, Nat.le_trans i.room h2.size, fun g => ev.zL (i.eD g)⟩, ev, F7 h3, hq, rfl⟩
  obtain ⟨cur, q1, q2, q3, q4⟩ := i.blk β b hb hv
  exact ⟨cur, (hk _ (Array.getElem?_eq_some_iff.1 q1).1).trans q1, q2, q3, fun j v x a d => ⟨(q4 j v x a d).1, ev.rel (q4 j v x a d).2⟩⟩
def hasB (l : List BA) (s : BA) : Bool := l.any fun x => x.toList == s.toList
theorem has_t {l : List BA} {s : BA} {i : Nat} (hi : i < l.length) (h : ((l.getD i ByteArray.empty).toList == s.toList) = true) : hasB l s = true := List.any_eq_true.2 ⟨_, l7 hi, h⟩
theorem has_f {l : List BA} {s : BA} {i : Nat} (hi : l.length ≤ i) (h : ∀ d, d < i → ((l.getD d ByteArray.empty).toList == s.toList) = false) : hasB l s = false := by
  refine List.any_eq_false.2 fun x hx => ?_
  obtain ⟨d, h1, rfl⟩ := bZ (d := ByteArray.empty) hx
  rw [h d (by omega)]
  decide
theorem GD {l : List BA} {s : BA} {i : Nat} (h : ∀ d, d < i → ((l.getD d ByteArray.empty).toList == s.toList) = false) (e : ((l.getD i ByteArray.empty).toList == s.toList) = false) : ∀ d, d < i + 1 → ((l.getD d ByteArray.empty).toList == s.toList) = false := fun d hd => by
  by_cases hdi : d = i
  · rw [hdi]; exact e
  · exact h d (by omega)
def KF : List BA := [⟨#[118, 97, 114]⟩, ⟨#[109, 117, 116, 101, 120]⟩, ⟨#[114, 109, 117, 116, 101, 120]⟩, ⟨#[102, 117, 110, 99]⟩, ⟨#[108, 111, 99, 107]⟩, ⟨#[117, 110, 108, 111, 99, 107]⟩, ⟨#[103, 111]⟩, ⟨#[105, 102]⟩, ⟨#[101, 108, 115, 101]⟩, ⟨#[119, 104, 105, 108, 101]⟩, ⟨#[114, 101, 116, 117, 114, 110]⟩]
def twoN : List BA := [⟨#[60, 61]⟩, ⟨#[62, 61]⟩, ⟨#[61, 61]⟩, ⟨#[33, 61]⟩, ⟨#[38, 38]⟩, ⟨#[124, 124]⟩]
def UP : List BA := [⟨#[40]⟩, ⟨#[41]⟩, ⟨#[123]⟩, ⟨#[125]⟩, ⟨#[91]⟩, ⟨#[93]⟩, ⟨#[44]⟩, ⟨#[59]⟩, ⟨#[61]⟩, ⟨#[43]⟩, ⟨#[45]⟩, ⟨#[42]⟩, ⟨#[47]⟩, ⟨#[37]⟩, ⟨#[60]⟩, ⟨#[62]⟩, ⟨#[33]⟩]
def qT (s : BA) : Bool := hasB KF s
theorem eq2 {x y a b : UInt8} : ((⟨#[x, y]⟩ : BA).toList == (⟨[a, b].toArray⟩ : BA).toList) = (decide (a = x) && decide (b = y)) := by
  rw [ByteArray.toList_eq, ByteArray.toList_eq]
  show ([x, y] == [a, b]) = _
  rw [Bool.eq_iff_iff]
  simp only [beq_iff_eq, List.cons.injEq, and_true, Bool.and_eq_true, decide_eq_true_eq]
  exact and_congr eq_comm eq_comm
theorem eq1 {x a : UInt8} : ((⟨#[x]⟩ : BA).toList == (⟨[a].toArray⟩ : BA).toList) = decide (a = x) := by
  rw [ByteArray.toList_eq, ByteArray.toList_eq]
  show ([x] == [a]) = _
  rw [Bool.eq_iff_iff]
  simp only [beq_iff_eq, List.cons.injEq, and_true, decide_eq_true_eq]
  exact eq_comm
theorem jV {a b : UInt8} : hasB twoN ⟨[a, b].toArray⟩ = decide ((a, b) ∈ P0) := by
  simp only [hasB, twoN, P0, List.any_cons, List.any_nil, eq2, Bool.or_false, List.mem_cons, List.not_mem_nil, or_false, Prod.mk.injEq, Bool.decide_or, Bool.decide_and]
theorem jW {a : UInt8} : hasB UP ⟨[a].toArray⟩ = decide (a ∈ FH) := by
  simp only [hasB, UP, FH, List.any_cons, List.any_nil, eq1, Bool.or_false, List.mem_cons, List.not_mem_nil, or_false, Bool.decide_or]
theorem E6 {L : Bs} {i : Nat} (h : i + 1 < L.length) : (L.drop i).take 2 = [bat L i, bat L (i + 1)] := by
  rw [cA (by omega), cA h]
  rfl
theorem take_one {L : Bs} {i : Nat} (h : i < L.length) : (L.drop i).take 1 = [bat L i] := by
  rw [cA h]
  rfl
theorem str_at {s : BA} {i : Nat} (h : i < s.size) : s[i]? = some (bat (L8 s) i) := by
  rw [jR] at h
  have : s[i]? = s.data.toList[i]? := by
    rw [Array.getElem?_toList]
    rfl
  rw [this]
  have h2 : i < s.data.toList.length := h
  rw [List.getElem?_eq_getElem h2]
  simp only [bat, L8, List.getD, List.getElem?_eq_getElem h2, Option.getD_some]
theorem name_at {s : BA} (h : isName (L8 s)) {i : Nat} (hi : i < s.size) : isW (bat (L8 s) i) = true ∧ (i = 0 → isL (bat (L8 s) i) = true) := by
  obtain ⟨c, w, e, h1, h2, h3⟩ := h
  rw [jR, e] at hi
  rw [e]
  cases i with
  | zero => exact ⟨FZ h1, fun _ => h1⟩
  | succ i =>
    have hi' : i < w.length := by simpa using hi
    refine ⟨?_, fun h => by omega⟩
    have : bat (c :: w) (i + 1) = w[i] := by simp [bat, List.getD, hi']
    rw [this]
    exact h2 _ (List.getElem_mem hi')
theorem eI {s : BA} (h : isName (L8 s)) : 1 ≤ s.size ∧ s.size ≤ 16 := by
  refine ⟨?_, z1 h⟩
  obtain ⟨c, w, e, _⟩ := h
  rw [jR, e]
  simp
def skF (L : Bs) : Nat → Nat → Nat
  | 0, i => i
  | f + 1, i => if i < L.length ∧ tE (bat L i) = true then skF L f (i + 1) else i
def sk (L : Bs) (i : Nat) : Nat := skF L (L.length - i) i
theorem sF {L : Bs} {i : Nat} (h : i < L.length) (hs : tE (bat L i) = true) : sk L i = sk L (i + 1) := by
  unfold sk
  obtain ⟨f, hf⟩ : ∃ f, L.length - i = f + 1 := ⟨L.length - i - 1, by omega⟩
  rw [hf, skF, if_pos ⟨h, hs⟩, show L.length - (i + 1) = f from by omega]
theorem AB {L : Bs} {i : Nat} (h : ¬ (i < L.length ∧ tE (bat L i) = true)) : sk L i = i := by
  unfold sk
  cases hf : L.length - i with
  | zero => rfl
  | succ f => rw [skF, if_neg h]
theorem yP {L : Bs} {i : Nat} (h : L.length ≤ i) : sk L i = i := AB fun h' => by omega
theorem sG {L : Bs} {i : Nat} (h : tE (bat L i) = false) : sk L i = i := AB fun h' => by rw [h] at h'; cases h'.2
theorem vV {L : Bs} : ∀ {f i n : Nat}, L.length - i = f → LX (L.drop i) n → i ≤ L.length → i ≤ sk L i ∧ sk L i ≤ L.length ∧ LX (L.drop (sk L i)) n ∧ (sk L i < L.length → tE (bat L (sk L i)) = false)
  | 0, i, n, hf, h, hi => by
    rw [yP (by omega)]
    exact ⟨Nat.le_refl _, hi, h, fun h => by omega⟩
  | f + 1, i, n, hf, h, hi => by
    by_cases hs : tE (bat L i) = true
    · rw [sF (by omega) hs]
      obtain ⟨a, b, c, d⟩ := vV (f := f) (i := i + 1) (by omega) (h.Z7 (by omega) hs) (by omega)
      exact ⟨by omega, b, c, d⟩
    · rw [sG (by simpa using hs)]
      exact ⟨Nat.le_refl _, hi, h, fun _ => by simpa using hs⟩
theorem yQ {c : UInt8} (h : (c.toNat : Int) = 32 ∨ (c.toNat : Int) = 9 ∨ (c.toNat : Int) = 10 ∨ (c.toNat : Int) = 13) : tE c = true := by
  simp only [tE, Bool.or_eq_true, beq_iff_eq]; omega
theorem vW {c : UInt8} (h1 : ¬ (c.toNat : Int) = 32) (h2 : ¬ (c.toNat : Int) = 9) (h3 : ¬ (c.toNat : Int) = 10) (h4 : ¬ (c.toNat : Int) = 13) : tE c = false := by
  simp only [tE, Bool.or_eq_false_iff, beq_eq_false_iff_ne, ne_eq]; omega
theorem B3 {L : Bs} {p : UInt8 → Bool} {i e j : Nat} (h : Span L p i e) (h2 : j ≤ e) (hj : j < L.length) (hp : p (bat L j) = true) : j < e := by
  by_cases he : j = e
  · subst he
    rw [h.stop hj] at hp
    cases hp
  · omega
theorem qU {L : Bs} {p : UInt8 → Bool} {i e j : Nat} (h : Span L p i e) (h1 : i ≤ j) (h2 : j ≤ e) (hp : j < L.length → p (bat L j) = false) : j = e := by
  by_cases he : j < e
  · have := h.le
    rw [h.all j h1 he] at hp
    cases hp (by omega)
  · omega
theorem valD_nn {l : Bs} {i : Nat} (h : i < l.length) (hd : ∀ d ∈ l, isD d = true) : 48 ≤ (bat l i).toNat ∧ (bat l i).toNat ≤ 57 := by
  have := hd (bat l i) (l7 h)
  simpa only [isD, Bool.and_eq_true, decide_eq_true_eq] using this
theorem tn2 {i : Nat} : ((i : Int) + 2).toNat = i + 2 := by omega
theorem tn1 {i : Nat} : ((i : Int) + 1).toNat = i + 1 := by omega
theorem KG {c : UInt8} : qS [c] = [.int .u8 ((c.toNat : Nat) : Int)] := rfl
theorem takeL {L : Bs} {i k : Nat} (h : i + k ≤ L.length) : (List.take k (List.drop i L)).length = k := by
  rw [List.length_take, List.length_drop]; omega
theorem KH {H : c6} {k n : Nat} {cs : List AV} : rd H k (.vec n cs) = some cs := rfl
theorem spanD {L : Bs} {i e : Nat} (h : Span L isD i e) : ∀ d ∈ (L.drop i).take (e - i), isD d = true := by
  intro d hd
  obtain ⟨j, hj, rfl⟩ := List.mem_iff_getElem.1 hd
  have hj2 : j < e - i := by rw [List.length_take] at hj; omega
  have hle := h.le
  have := h.all (i + j) (by omega) (by omega)
  have e2 : ((L.drop i).take (e - i))[j] = bat L (i + j) := by
    rw [List.getElem_take, List.getElem_drop]
    simp [bat, List.getD, show i + j < L.length by omega]
  rw [e2]
  exact this
attribute [local go_sem] lS v9 Int.natCast_nonneg Int.natCast_inj List.length_map wrap64 P7 read_b pO tn1 tn2 str_at
theorem vX {h : c6} (c : UInt8) : CallA Try.prog cfg 73 [.int .u8 ((c.toNat : Nat) : Int)] h (fun y' h' => y' = .bool (isL c) ∧ h' = h) := by
  refine .b fn73 ntm73 ?_
  refine c138z ?_
  refine .spl 5 rfl rfl (fun e1 => ?_) (fun e1 => ?_)
  ·try simp only [e1]
   have qe1 := fact e1
   refine .k 4 [(2, 5)] ?_
   refine .spl 9 rfl rfl (fun e2 => ?_) (fun e2 => ?_)
   ·try simp only [e2]
    have qe2 := fact e2
    refine .k 8 [(6, 9), (9, 12)] ?_
    refine c168z ?_
    exact ⟨[], _, (List.append_nil _).symm, by first | rfl | rfl, by (first | (refine congrArg AV.bool ?_; rw [Bool.eq_iff_iff]; simp [isL, isD]; omega) | (refine congrArg AV.bool ?_; rw [Bool.eq_iff_iff]; simp [isL]))⟩
   try simp only [e2]
   have qe2 := fact e2
   refine .k 3 [(6, 9)] ?_
   refine .spl 12 rfl rfl (fun e3 => ?_) (fun e3 => ?_)
   ·try simp only [e3]
    have qe3 := fact e3
    refine .k 5 [(6, 9), (9, 12)] ?_
    refine .spl 17 rfl rfl (fun e4 => ?_) (fun e4 => ?_)
    ·try simp only [e4]
     have qe4 := fact e4
     refine c168z ?_
     exact ⟨[], _, (List.append_nil _).symm, by first | rfl | rfl, by (first | (refine congrArg AV.bool ?_; rw [Bool.eq_iff_iff]; simp [isL, isD]; omega) | (refine congrArg AV.bool ?_; rw [Bool.eq_iff_iff]; simp [isL]))⟩
    try simp only [e4]
    have qe4 := fact e4
    refine c168z ?_
    exact ⟨[], _, (List.append_nil _).symm, by first | rfl | rfl, by (first | (refine congrArg AV.bool ?_; rw [Bool.eq_iff_iff]; simp [isL, isD]; omega) | (refine congrArg AV.bool ?_; rw [Bool.eq_iff_iff]; simp [isL]))⟩
   try simp only [e3]
   have qe3 := fact e3
   refine .k 8 [(6, 9), (9, 12), (14, 17)] ?_
   refine c139z ?_
   exact ⟨[], _, (List.append_nil _).symm, by first | rfl | rfl, by (first | (refine congrArg AV.bool ?_; rw [Bool.eq_iff_iff]; simp [isL, isD]; omega) | (refine congrArg AV.bool ?_; rw [Bool.eq_iff_iff]; simp [isL]))⟩
  try simp only [e1]
  have qe1 := fact e1
  refine .k 7 [(2, 5), (6, 9)] ?_
  refine .spl 12 rfl rfl (fun e5 => ?_) (fun e5 => ?_)
  ·try simp only [e5]
   have qe5 := fact e5
   refine .k 5 [(6, 9), (9, 12)] ?_
   refine .spl 17 rfl rfl (fun e6 => ?_) (fun e6 => ?_)
   ·try simp only [e6]
    have qe6 := fact e6
    refine c168z ?_
    exact ⟨[], _, (List.append_nil _).symm, by first | rfl | rfl, by (first | (refine congrArg AV.bool ?_; rw [Bool.eq_iff_iff]; simp [isL, isD]; omega) | (refine congrArg AV.bool ?_; rw [Bool.eq_iff_iff]; simp [isL]))⟩
   try simp only [e6]
   have qe6 := fact e6
   refine c168z ?_
   exact ⟨[], _, (List.append_nil _).symm, by first | rfl | rfl, by (first | (refine congrArg AV.bool ?_; rw [Bool.eq_iff_iff]; simp [isL, isD]; omega) | (refine congrArg AV.bool ?_; rw [Bool.eq_iff_iff]; simp [isL]))⟩
  try simp only [e5]
  have qe5 := fact e5
  refine .k 8 [(6, 9), (9, 12), (14, 17)] ?_
  refine c139z ?_
  exact ⟨[], _, (List.append_nil _).symm, by first | rfl | rfl, by (first | (refine congrArg AV.bool ?_; rw [Bool.eq_iff_iff]; simp [isL, isD]; omega) | (refine congrArg AV.bool ?_; rw [Bool.eq_iff_iff]; simp [isL]))⟩
theorem vY {h : c6} (c : UInt8) : CallA Try.prog cfg 74 [.int .u8 ((c.toNat : Nat) : Int)] h (fun y' h' => y' = .bool (isD c) ∧ h' = h) := by
  refine .b fn74 ntm74 ?_
  refine c138z ?_
  refine .spl 5 rfl rfl (fun e1 => ?_) (fun e1 => ?_)
  ·try simp only [e1]
   have qe1 := fact e1
   refine .m [(2, 5)] ?_
   refine c16z ?_
   exact ⟨[], _, (List.append_nil _).symm, by first | rfl | rfl, by (first | (refine congrArg AV.bool ?_; rw [Bool.eq_iff_iff]; simp [isL, isD]; omega) | (refine congrArg AV.bool ?_; rw [Bool.eq_iff_iff]; simp [isD]))⟩
  try simp only [e1]
  have qe1 := fact e1
  refine .m [(2, 5)] ?_
  refine c16z ?_
  exact ⟨[], _, (List.append_nil _).symm, by first | rfl | rfl, by (first | (refine congrArg AV.bool ?_; rw [Bool.eq_iff_iff]; simp [isL, isD]; omega) | (refine congrArg AV.bool ?_; rw [Bool.eq_iff_iff]; simp [isD]))⟩
section
attribute [local go_sem] kP
theorem c_has {h : c6} (l : List BA) (s : BA) (hl : l.length < 1000) : CallA Try.prog cfg 98 [.vec l.length (aC l), .str s] h (fun y' h' => y' = .bool (hasB l s) ∧ h' = h) := by
  refine .b fn98 ntm98 ?_
  refine c22z ?_
  refine .iB (fun m st => ∃ (i : Nat), (m = l.length - i ∧ (∀ d, d < i → ((l.getD d ByteArray.empty).toList == s.toList) = false) ∧ i ≤ l.length) ∧ st = ⟨mkS 18 [(0, AV.vec l.length (aC l)), (1, AV.str s), (5, AV.int .i64 ((i : Nat) : Int))], h⟩) _ (.v ⟨0, ⟨rfl, by intro d hd; omega, by omega⟩, rfl⟩) ?_
  rintro m sl h' ⟨i, ⟨hm, hI, hi⟩, hst⟩
  obtain ⟨rfl, rfl⟩ := St.mk.inj hst
  refine c0z ?_
  refine .spl 9 rfl rfl (fun e1 => ?_) (fun e1 => ?_)
  ·try simp only [e1]
   have qe1 := fact e1
   refine c11z ?_
   refine .z ?_
   refine .spl 17 rfl rfl (fun e2 => ?_) (fun e2 => ?_)
   ·try simp only [e2]
    have qe2 := fact e2
    refine c67z ?_
    refine c16z ?_
    exact ⟨[], _, (List.append_nil _).symm, by first | rfl | rfl, by (first | exact congrArg AV.bool (has_t (i := i) (by omega) (by assumption)).symm | exact congrArg AV.bool (has_f (by omega) hI).symm)⟩
   try simp only [e2]
   have qe2 := fact e2
   refine c13z ?_
   refine .c7 [0, 1, 5] ?_
   refine .rz ?_
   exact ⟨_, by omega, .v ⟨(i + 1), ⟨rfl, GD hI (by assumption), by omega⟩, rfl⟩⟩
  try simp only [e1]
  have qe1 := fact e1
  refine c18z ?_
  refine c62z ?_
  exact ⟨[], _, (List.append_nil _).symm, by first | rfl | rfl, by (first | exact congrArg AV.bool (has_t (i := i) (by omega) (by assumption)).symm | exact congrArg AV.bool (has_f (by omega) hI).symm)⟩
end
theorem frz_n {n d : Nat} {H : c6} {l : List BA} : l9 (gG n H (d + 1)) (aC l) = some (aC l) := (bE.map (fun _ => .str) : bE (aC l)).frz _ _ _
theorem J1 {H : c6} {β g : Nat} (l : List BA) (s : BA) (hb : H[β]? = some ⟨g, false, 9, 1, aC l, 0⟩) (hl : l.length < 1000) : CallA Try.prog cfg 98 [.own β g 0 l.length, .str s] H (fun y h' => y = .bool (hasB l s) ∧ h' = H) := by
  have e : DL 0 H (.own β g 0 l.length) = some (.vec l.length (aC l)) := by
    show gG 0 H 6 (.own β g 0 l.length) = _
    rw [v5, hb]
    simp only [Nat.zero_le, and_self, if_true, Bool.false_eq_true, if_false, Nat.zero_add, Nat.mul_one, v9, Nat.le_refl, List.drop_zero]
    rw [List.take_of_length_le (by rw [v9]; exact Nat.le_refl _), frz_n]
  have ha : EW 0 H [.vec l.length (aC l), .str s] [.own β g 0 l.length, .str s] := And.intro (.inr e) (And.intro (.inr rfl) trivial)
  exact CallA.borrow ha ((c_has l s hl).mono fun _ _ h => h.1)
theorem c_res0 (s : BA) : CallA Try.prog cfg 75 [.str s] [] (fun y' h' => y' = .bool (qT s) ∧ h' = []) := by
  refine .b fn75 ntm75 ?_
  refine .z ?_
  refine c25z ?_
  refine .ca rfl rfl (J1 KF s rfl (by decide)) ?_
  refine .n ?_
  exact .ret (.ex (hq := by rfl))
theorem NJ {h : c6} (s : BA) : CallA Try.prog cfg 75 [.str s] h (fun y h' => y = .bool (qT s) ∧ h' = h) := yO rfl ((c_res0 s).mono fun _ _ h => by rw [h.1]; rfl) h
theorem c_resF {h : c6} {s : BA} (hr : qT s = false) : CallA Try.prog cfg 75 [.str s] h (fun y h' => y = .bool false ∧ h' = h) := by
  rw [← hr]
  exact NJ s
theorem lG {h : c6} (s : BA) (hs : isName (L8 s)) (hr : qT s = false) : CallA Try.prog cfg 67 [.str s] h (fun y' h' => y' = .bool true ∧ h' = h) := by
  refine .b fn67 ntm67 ?_
  have hsz := eI hs
  refine c22z ?_
  refine .iB (fun m st => ∃ (i : Nat), (m = s.size - i ∧ i ≤ s.size) ∧ st = ⟨mkS 39 [(0, AV.str s), (3, AV.int .i64 ((i : Nat) : Int))], h⟩) _ (.v ⟨0, ⟨rfl, by omega⟩, rfl⟩) ?_
  rintro m sl h' ⟨i, ⟨hm, hi⟩, hst⟩
  obtain ⟨rfl, rfl⟩ := St.mk.inj hst
  refine c0z ?_
  refine .spl 7 rfl rfl (fun e1 => ?_) (fun e1 => ?_)
  ·try simp only [e1]
   have qe1 := fact e1
   refine c11z ?_
   have hna := name_at hs (i := i) (by omega)
   refine c20z ?_
   refine .ca rfl rfl (vX _) ?_
   refine .e 2 ?_
   refine .spl 15 rfl rfl (fun e2 => ?_) (fun e2 => ?_)
   ·try simp only [e2]
    have qe2 := fact e2
    refine .k 3 [(5, 15)] ?_
    refine .spl 18 rfl rfl (fun e3 => ?_) (fun e3 => ?_)
    ·try simp only [e3]
     have qe3 := fact e3
     refine .m [(5, 15), (8, 18)] ?_
     refine c67z ?_
     refine c16z ?_
     exact ⟨[], _, (List.append_nil _).symm, by first | rfl | rfl, by (first | rfl | (exfalso; have h0 := hna.2 (by omega); simp_all) | (exfalso; have h0 := hna.1; simp only [isW] at h0; simp_all))⟩
    try simp only [e3]
    have qe3 := fact e3
    refine .k 3 [(8, 18)] ?_
    refine .ca rfl rfl (vY _) ?_
    refine .m [(5, 15), (8, 18)] ?_
    refine .spl 25 rfl rfl (fun e4 => ?_) (fun e4 => ?_)
    ·try simp only [e4]
     have qe4 := fact e4
     refine c67z ?_
     refine c16z ?_
     exact ⟨[], _, (List.append_nil _).symm, by first | rfl | rfl, by (first | rfl | (exfalso; have h0 := hna.2 (by omega); simp_all) | (exfalso; have h0 := hna.1; simp only [isW] at h0; simp_all))⟩
    try simp only [e4]
    have qe4 := fact e4
    refine c13z ?_
    refine .c7 [0, 3] ?_
    refine .rz ?_
    exact ⟨_, by omega, .v ⟨(i + 1), ⟨rfl, by omega⟩, rfl⟩⟩
   try simp only [e2]
   have qe2 := fact e2
   refine .k 8 [(5, 15), (8, 18)] ?_
   refine .m [(5, 15)] ?_
   refine c13z ?_
   refine .c7 [0, 3] ?_
   refine .rz ?_
   exact ⟨_, by omega, .v ⟨(i + 1), ⟨rfl, by omega⟩, rfl⟩⟩
  try simp only [e1]
  have qe1 := fact e1
  refine c18z ?_
  refine c24z ?_
  refine .spl 29 rfl rfl (fun e5 => ?_) (fun e5 => by exfalso; simp only [decide_eq_false_iff_not] at e5; omega)
  try simp only [e5]
  have qe5 := fact e5
  refine .k 5 [(3, 29)] ?_
  refine .spl 34 rfl rfl (fun e6 => ?_) (fun e6 => by exfalso; simp only [decide_eq_false_iff_not] at e6; omega)
  try simp only [e6]
  have qe6 := fact e6
  refine .k 1 [(8, 34)] ?_
  refine .ca rfl rfl (c_resF hr) ?_
  refine .m [(8, 34)] ?_
  refine c16z ?_
  exact ⟨[], _, (List.append_nil _).symm, by first | rfl | rfl, by (first | rfl | (exfalso; have h0 := hna.2 (by omega); simp_all) | (exfalso; have h0 := hna.1; simp only [isW] at h0; simp_all))⟩
theorem pP {h : c6} (L : Bs) (i n : Nat) (hx : LX (L.drop i) n) (hi : i ≤ L.length) (hl : L.length < 1000000) : CallA Try.prog cfg 72 [.vec L.length (qS L), .int .i64 (i : Int)] h (fun y' h' => y' = .int .i64 ((sk L i : Nat) : Int) ∧ h' = h) := by
  refine .b fn72 ntm72 ?_
  refine .z ?_
  refine .sb ?_
  refine .iB (fun m st => ∃ (j : Nat), (m = L.length - j ∧ (LX (L.drop j) n ∧ j ≤ L.length ∧ sk L j = sk L i)) ∧ st = ⟨mkS 74 [(0, AV.vec L.length (qS L)), (1, AV.int .i64 ((j : Nat) : Int))], h⟩) _ (.v ⟨i, ⟨rfl, ⟨hx, hi, rfl⟩⟩, rfl⟩) ?_
  rintro m sl h' ⟨j, ⟨hm, ⟨hX, hj, hk⟩⟩, hst⟩
  obtain ⟨rfl, rfl⟩ := St.mk.inj hst
  refine c0z ?_
  refine .spl 8 rfl rfl (fun e1 => ?_) (fun e1 => ?_)
  ·try simp only [e1]
   have qe1 := fact e1
   refine c10z ?_
   refine .block ?_
   refine .block ?_
   refine c103z ?_
   refine .spl 16 rfl rfl (fun e2 => ?_) (fun e2 => ?_)
   ·try simp only [e2]
    have qe2 := fact e2
    refine .k 8 [(5, 16), (12, 23)] ?_
    refine .k 8 [(12, 23), (19, 30)] ?_
    refine .m [(19, 30)] ?_
    refine .T ?_
    refine .c7 [0, 1] ?_
    refine .rz ?_
    exact ⟨_, by omega, .v ⟨(j + 1), ⟨rfl, ⟨hX.Z7 (by omega) (yQ (by omega)), by omega, (sF (by omega) (yQ (by omega))).symm.trans hk⟩⟩, rfl⟩⟩
   try simp only [e2]
   have qe2 := fact e2
   refine .k 7 [(5, 16)] ?_
   refine .spl 23 rfl rfl (fun e3 => ?_) (fun e3 => ?_)
   ·try simp only [e3]
    have qe3 := fact e3
    refine .k 8 [(12, 23), (19, 30)] ?_
    refine .m [(19, 30)] ?_
    refine .T ?_
    refine .c7 [0, 1] ?_
    refine .rz ?_
    exact ⟨_, by omega, .v ⟨(j + 1), ⟨rfl, ⟨hX.Z7 (by omega) (yQ (by omega)), by omega, (sF (by omega) (yQ (by omega))).symm.trans hk⟩⟩, rfl⟩⟩
   try simp only [e3]
   have qe3 := fact e3
   refine .k 7 [(12, 23)] ?_
   refine .spl 30 rfl rfl (fun e4 => ?_) (fun e4 => ?_)
   ·try simp only [e4]
    have qe4 := fact e4
    refine .m [(19, 30)] ?_
    refine .T ?_
    refine .c7 [0, 1] ?_
    refine .rz ?_
    exact ⟨_, by omega, .v ⟨(j + 1), ⟨rfl, ⟨hX.Z7 (by omega) (yQ (by omega)), by omega, (sF (by omega) (yQ (by omega))).symm.trans hk⟩⟩, rfl⟩⟩
   try simp only [e4]
   have qe4 := fact e4
   refine .m [(19, 30)] ?_
   refine .spl 10 rfl rfl (fun e5 => ?_) (fun e5 => ?_)
   ·try simp only [e5]
    have qe5 := fact e5
    refine .T ?_
    refine .c7 [0, 1] ?_
    refine .rz ?_
    exact ⟨_, by omega, .v ⟨(j + 1), ⟨rfl, ⟨hX.Z7 (by omega) (yQ (by omega)), by omega, (sF (by omega) (yQ (by omega))).symm.trans hk⟩⟩, rfl⟩⟩
   try simp only [e5]
   have qe5 := fact e5
   refine .F ?_
   refine .c7 [0, 1] ?_
   refine c103z ?_
   refine .spl 45 rfl rfl (fun e6 => ?_) (fun e6 => ?_)
   ·try simp only [e6]
    have qe6 := fact e6
    refine .k 7 [(5, 45)] ?_
    refine .spl 52 rfl rfl (fun e7 => ?_) (fun e7 => ?_)
    ·try simp only [e7]
     have qe7 := fact e7
     refine .m [(12, 52)] ?_
     refine .spl 39 rfl rfl (fun e8 => by exfalso; simp only [beq_iff_eq] at *; exact hX.P6 (by omega) (by omega) (by omega)) (fun e8 => ?_)
     try simp only [e8]
     have qe8 := fact e8
     refine .F ?_
     refine .c7 [1] ?_
     refine c62z ?_
     exact ⟨[], _, (List.append_nil _).symm, by first | rfl | rfl, by (first | (rw [← hk, yP (by omega)]) | (rw [← hk, sG (vW (by omega) (by omega) (by omega) (by omega))]))⟩
    try simp only [e7]
    have qe7 := fact e7
    refine .m [(12, 52)] ?_
    refine .F ?_
    refine .c7 [1] ?_
    refine c62z ?_
    exact ⟨[], _, (List.append_nil _).symm, by first | rfl | rfl, by (first | (rw [← hk, yP (by omega)]) | (rw [← hk, sG (vW (by omega) (by omega) (by omega) (by omega))]))⟩
   try simp only [e6]
   have qe6 := fact e6
   refine .k 8 [(5, 45), (12, 52)] ?_
   refine .m [(12, 52)] ?_
   refine .F ?_
   refine .c7 [1] ?_
   refine c62z ?_
   exact ⟨[], _, (List.append_nil _).symm, by first | rfl | rfl, by (first | (rw [← hk, yP (by omega)]) | (rw [← hk, sG (vW (by omega) (by omega) (by omega) (by omega))]))⟩
  try simp only [e1]
  have qe1 := fact e1
  refine c3z ?_
  have hje : j = L.length := by omega
  change c8 ..
  refine c62z ?_
  exact ⟨[], _, (List.append_nil _).symm, by first | rfl | rfl, by (first | (rw [← hk, yP (by omega)]) | (rw [← hk, sG (vW (by omega) (by omega) (by omega) (by omega))]))⟩
theorem fill6L : (twoN).length = 6 := rfl
theorem fill6M : (6 ≤ maxLen) = True := by simp; decide
theorem fill17L : (UP).length = 17 := rfl
theorem fill17M : (17 ≤ maxLen) = True := by simp; decide
section
attribute [local go_sem] rA dX Option.bind_eq_bind KE KG KH takeL B2 Nat.add_sub_cancel_left E6 take_one jV jW fill6L fill6M fill17L fill17M
theorem c_sign0 (L : Bs) (i : Nat) (hi : i < L.length) (hl : L.length < 1000000) : CallA Try.prog cfg 77 [.vec L.length (qS L), .int .i64 (i : Int)] [] (fun y' h' => y' = .int .i64 ((sgn L i : Nat) : Int) ∧ h' = []) := by
  refine .b fn77 ntm77 ?_
  refine c33z ?_
  refine c103z ?_
  refine .spl 10 rfl rfl (fun e1 => ?_) (fun e1 => ?_)
  ·try simp only [e1]
   have qe1 := fact e1
   try simp only [jW, jV, decide_eq_true_eq, decide_eq_false_iff_not] at qe1
   refine .k 7 [(5, 10)] ?_
   refine .ca rfl rfl (J1 twoN _ rfl (by decide)) ?_
   refine .n ?_
   refine .spl 19 rfl rfl (fun e2 => ?_) (fun e2 => ?_)
   ·try simp only [e2]
    have qe2 := fact e2
    try simp only [jW, jV, decide_eq_true_eq, decide_eq_false_iff_not] at qe2
    refine c67z ?_
    exact .ret (.ex (hq := t20))
   try simp only [e2]
   have qe2 := fact e2
   try simp only [jW, jV, decide_eq_true_eq, decide_eq_false_iff_not] at qe2
   refine c55z ?_
   refine .c7 [0, 1] ?_
   refine .s ?_
   refine .e 7 ?_
   refine .ca rfl rfl (J1 UP _ (by first | rfl | simp) (by decide)) ?_
   refine .nil ?_
   refine .spl 27 rfl rfl (fun e3 => ?_) (fun e3 => ?_)
   ·try simp only [e3]
    have qe3 := fact e3
    try simp only [jW, jV, decide_eq_true_eq, decide_eq_false_iff_not] at qe3
    refine c67z ?_
    exact .ret (.ex (hq := t20))
   try simp only [e3]
   have qe3 := fact e3
   try simp only [jW, jV, decide_eq_true_eq, decide_eq_false_iff_not] at qe3
   refine c4z ?_
   refine c23z ?_
   exact .ret (.ex (hq := t20))
  try simp only [e1]
  have qe1 := fact e1
  try simp only [jW, jV, decide_eq_true_eq, decide_eq_false_iff_not] at qe1
  refine .k 8 [(5, 10)] ?_
  refine .n ?_
  refine c55z ?_
  refine .c7 [0, 1] ?_
  refine .s ?_
  refine .e 7 ?_
  refine .ca rfl rfl (J1 UP _ (by first | rfl | simp) (by decide)) ?_
  refine .nil ?_
  refine .spl 27 rfl rfl (fun e4 => ?_) (fun e4 => ?_)
  ·try simp only [e4]
   have qe4 := fact e4
   try simp only [jW, jV, decide_eq_true_eq, decide_eq_false_iff_not] at qe4
   refine c67z ?_
   exact .ret (.ex (hq := t20))
  try simp only [e4]
  have qe4 := fact e4
  try simp only [jW, jV, decide_eq_true_eq, decide_eq_false_iff_not] at qe4
  refine c4z ?_
  refine c23z ?_
  exact .ret (.ex (hq := t20))
end
theorem c_sign {h : c6} (L : Bs) (i : Nat) (hi : i < L.length) (hl : L.length < 1000000) : CallA Try.prog cfg 77 [.vec L.length (qS L), .int .i64 (i : Int)] h (fun y h' => y = .int .i64 ((sgn L i : Nat) : Int) ∧ h' = h) := yO rfl ((c_sign0 L i hi hl).mono fun _ _ h => by rw [h.1]; rfl) h
theorem c_numv {h : c6} (l : Bs) (hd : ∀ d ∈ l, isD d = true) (hv : tF l < 9223372036854775808) (hl : l.length < 1000000) : CallA Try.prog cfg 76 [.vec l.length (qS l)] h (fun y' h' => y' = .int .i64 ((tF l : Nat) : Int) ∧ h' = h) := by
  refine CallA.body (Q := fun y' => y' = .int .i64 ((tF l : Nat) : Int)) z7 fn76 rfl ?_
  simp only [ntm76, List.length_cons, List.length_nil, Nat.reduceAdd, Nat.reduceSub, List.replicate, List.cons_append, List.nil_append]
  refine c7z ?_
  refine l5.pre 1 t9 ?_
  refine c6z ?_
  refine c7z ?_
  refine l5.pre 1 t9 ?_
  refine c107z ?_
  refine c7z ?_
  refine l5.pre 1 t9 ?_
  refine c6z ?_
  refine c8.block ?_
  refine c8.iB (fun m st => ∃ (i : Nat), (m = l.length - i ∧ i ≤ l.length) ∧ st = ⟨[.vec l.length (qS l), .any, .any, .int .i64 ((tF (l.take i) : Nat) : Int), .int .i64 ((i : Nat) : Int), .any, .any, .any, .any, .any, .any, .any, .any, .any, .any, .any, .any, .any, .any, .any, .any, .any, .any, .any, .any, .any, .any, .any], h⟩) _ ⟨[.vec l.length (qS l), .any, .any, .int .i64 ((tF (l.take 0) : Nat) : Int), .int .i64 ((0 : Nat) : Int), .any, .any, .any, .any, .any, .any, .any, .any, .any, .any, .any, .any, .any, .any, .any, .any, .any, .any, .any, .any, .any, .any, .any], ⟨(.inl t60), (.inr rfl), (.inr rfl), (.inl t60), (.inl t60), (.inr rfl), (.inr rfl), (.inr rfl), (.inr rfl), (.inr rfl), (.inr rfl), (.inr rfl), (.inr rfl), (.inr rfl), (.inr rfl), (.inr rfl), (.inr rfl), (.inr rfl), (.inr rfl), (.inr rfl), (.inr rfl), (.inr rfl), (.inr rfl), (.inr rfl), (.inr rfl), (.inr rfl), (.inr rfl), (.inr rfl), trivial⟩, 0, ⟨rfl, by omega⟩, rfl⟩ ?_
  rintro m sl h' ⟨i, ⟨hm, hi⟩, hst⟩
  obtain ⟨rfl, rfl⟩ := St.mk.inj hst
  refine c8.seq ?_
  refine c7z ?_
  refine l5.pre 4 t9 ?_
  refine c6z ?_
  refine c8.split 9 rfl (fun e1 => ?_) (fun e1 => ?_)
  · try simp only [e1]
    have qe1 := e1; try simp only [decide_eq_true_eq, decide_eq_false_iff_not, Bool.not_eq_true', Bool.not_eq_false', Bool.not_eq_eq_eq_not, Bool.not_true, Bool.not_false, Int.not_le, Int.not_lt, beq_iff_eq, bne_iff_ne, ge_iff_le, gt_iff_lt, beq_eq_false_iff_ne, ne_eq, bne_eq_false_iff_eq] at qe1
    refine c8.pV rfl ?_
    refine c63z ?_
    refine c8.seq ?_
    refine c8.block ?_
    refine c8.seq ?_
    have hdd := valD_nn (i := i) (by omega) hd
    have hvt := yN (l := l) (k := i) (by omega)
    have hvm := AA (l := l) (k := i + 1) (m := l.length) (by omega)
    rw [List.take_length] at hvm
    have htd : (9223372036854775807 - (((bat l i).toNat : Int) - 48)).tdiv 10 = (9223372036854775807 - (((bat l i).toNat : Int) - 48)) / 10 := Int.tdiv_eq_ediv_of_nonneg (by omega)
    have htd2 : ((9223372036854775807 - (((bat l i).toNat : Int) - 48)).tdiv 10 : Int) < 9223372036854775808 ∧ 0 ≤ (9223372036854775807 - (((bat l i).toNat : Int) - 48)).tdiv 10 := by rw [htd]; omega
    refine c8.region z7 ?_
    refine l5.pre 7 t9 ?_
    refine c107z ?_
    refine c7z ?_
    refine l5.pre 5 t9 ?_
    refine c6z ?_
    refine c8.split 22 rfl (fun e2 => ?_) (fun e2 => ?_)
    · exfalso; rw [htd] at e2; simp only [decide_eq_true_eq, gt_iff_lt] at e2; omega
    · try simp only [e2]
      have qe2 := e2; try simp only [decide_eq_true_eq, decide_eq_false_iff_not, Bool.not_eq_true', Bool.not_eq_false', Bool.not_eq_eq_eq_not, Bool.not_true, Bool.not_false, Int.not_le, Int.not_lt, beq_iff_eq, bne_iff_ne, ge_iff_le, gt_iff_lt, beq_eq_false_iff_ne, ne_eq, bne_eq_false_iff_eq] at qe2
      refine c91z ?_
      refine c8.region z7 ?_
      refine l5.pre 5 t9 ?_
      refine c6z ?_
      refine c8.region z7 ?_
      refine l5.pre 3 t9 ?_
      refine l5.nil ?_
      exact ⟨l.length - (i + 1), by omega, [.vec l.length (qS l), .any, .any, .int .i64 ((tF (l.take (i + 1)) : Nat) : Int), .int .i64 (((i + 1) : Nat) : Int), .any, .any, .any, .any, .any, .any, .any, .any, .any, .any, .any, .any, .any, .any, .any, .any, .any, .any, .any, .any, .any, .any, .any], ⟨(.inl t60), (.inr rfl), (.inr rfl), (.inl t60), (.inl t60), (.inr rfl), (.inr rfl), (.inr rfl), (.inr rfl), (.inr rfl), (.inr rfl), (.inr rfl), (.inr rfl), (.inr rfl), (.inr rfl), (.inr rfl), (.inr rfl), (.inr rfl), (.inr rfl), (.inr rfl), (.inr rfl), (.inr rfl), (.inr rfl), (.inr rfl), (.inr rfl), (.inr rfl), (.inr rfl), (.inr rfl), trivial⟩, (i + 1), ⟨rfl, by omega⟩, rfl⟩
  · try simp only [e1]
    have qe1 := e1; try simp only [decide_eq_true_eq, decide_eq_false_iff_not, Bool.not_eq_true', Bool.not_eq_false', Bool.not_eq_eq_eq_not, Bool.not_true, Bool.not_false, Int.not_le, Int.not_lt, beq_iff_eq, bne_iff_ne, ge_iff_le, gt_iff_lt, beq_eq_false_iff_ne, ne_eq, bne_eq_false_iff_eq] at qe1
    refine c8.N6 rfl ?_
    refine c8.exit ?_
    obtain rfl : i = l.length := by omega
    rw [List.take_length] at *
    change c8 _ _ _ _ _
    refine c7z ?_
    refine l5.pre 2 t9 ?_
    refine c57z ?_
    refine Ends.mk (by simp only [res76, rB, iQ, jM]; first | rfl | (simp (maxSteps := 2000000) (disch := omega) only [go_sem, Nat.reduceBEq, Nat.reduceAdd, Nat.reduceSub, Nat.reduceLeDiff, Nat.reduceMul, reduceIte, reduceCtorEq, Int.reduceNeg, Int.reduceToNat, Nat.reduceLT, Int.reduceLE, Int.reduceLT, Int.reduceAdd, Int.reduceSub, Int.reduceMul, pG, if_false, show ((10 : Int) = 0) = False from by simp, if_pos, if_neg]; rfl)) ?_
    exact ⟨[], _, (List.append_nil _).symm, by first | rfl | rfl, by rfl⟩
theorem app_tok {a : Blk} {l : c6} {g n : Nat} {zs : List AV} {x y z u : AV} (hz : zs.length = n * 4) (hn : n < 10000) : j7 cfg 136 (p9 136 4 g zs :: a :: ⟨0, false, 136, 4, [x, y, z, u], 0⟩ :: l) (.own 0 g 0 n) (.own 2 0 0 1) = some (.own 0 (g + 1) 0 (n + 1), p9 136 4 (g + 1) (zs ++ [x, y, z, u]) :: a :: ⟨0, false, 136, 4, [x, y, z, u], 0⟩ :: l) := by
  rw [aR (C := cfg) (K := 4) (m := 1) (new := [x, y, z, u]) (zs := zs) rfl rfl (by omega) hz rfl (by omega) t72 rfl (by decide) (by omega)]
  rfl
theorem GF {l : c6} {g n : Nat} {zs : List AV} {x y z u : AV} (hz : zs.length = n * 4) (hn : n < 10000) : j7 cfg 136 (p9 136 4 g zs :: ⟨0, false, 136, 4, [x, y, z, u], 0⟩ :: l) (.own 0 g 0 n) (.own 1 0 0 1) = some (.own 0 (g + 1) 0 (n + 1), p9 136 4 (g + 1) (zs ++ [x, y, z, u]) :: ⟨0, false, 136, 4, [x, y, z, u], 0⟩ :: l) := by
  rw [aR (C := cfg) (K := 4) (m := 1) (new := [x, y, z, u]) (zs := zs) rfl rfl (by omega) hz rfl (by omega) t72 rfl (by decide) (by omega)]
  rfl
theorem nS {k n p : Int} {s : BA} : bE [.int .i64 k, .str s, .int .i64 n, .int .i64 p] := bE.cons .int (bE.cons .str (bE.cons .int (bE.cons .int .nil)))
theorem jX {a b : List AV} (h : bE a) (h' : bE b) : bE (a ++ b) := fun x hx => (List.mem_append.1 hx).elim (h x) (h' x)
theorem KI {h : c6} {L : Bs} {i e : Nat} (hs : Span L isD i e) (hv : tF ((L.drop i).take (e - i)) < 9223372036854775808) (hl : L.length < 1000000) : CallA Try.prog cfg 76 [.vec (e - i) (qS ((L.drop i).take (e - i)))] h (fun y h' => y = .int .i64 ((tF ((L.drop i).take (e - i)) : Nat) : Int) ∧ h' = h) := by
  have hle := hs.le
  have e1 : e - i = ((L.drop i).take (e - i)).length := by rw [List.length_take, List.length_drop]; omega
  have := c_numv (h := h) _ (spanD hs) hv (by omega)
  rwa [← e1] at this
section
attribute [local go_sem] rA dX Option.bind_eq_bind KE KG KH takeL B2 Nat.add_sub_cancel_left app_tok GF take_one yJ wU wrap64 tG
theorem c_lex0 (L : Bs) (N : Nat) (hx : LX (L.drop 0) N) (hN : N ≤ 4000) (hl : L.length ≤ 262144) : CallA Try.prog cfg 50 [.vec L.length (qS L)] [] (fun y' h' => RR y' = .tup [.any, .int .i64 L.length, .int .i64 0] ∧ h' = []) := by
  refine .b fn50 ntm50 ?_
  have hs0 := vV rfl hx (by omega)
  refine c79z ?_
  refine .spl 11 rfl rfl (fun e1 => by exfalso; simp only [decide_eq_true_eq, gt_iff_lt] at e1; omega) (fun e1 => ?_)
  try simp only [e1]
  have qe1 := fact e1
  refine c4z ?_
  refine c96z ?_
  refine .ca rfl rfl (pP L 0 N hx (by omega) (by omega)) ?_
  refine .n ?_
  refine .block ?_
  refine c8.O4 5 rfl ?_
  refine .dU (fun m st => ∃ (q : Nat) (k : Nat) (n : Nat) (zs : List AV), (m = L.length - q ∧ (k + n ≤ 4000 ∧ LX (L.drop q) n ∧ q ≤ L.length ∧ (q < L.length → tE (bat L q) = false) ∧ zs.length = k * 4 ∧ bE zs)) ∧ st = ⟨mkS 124 [(0, AV.vec L.length (qS L)), (5, AV.own 0 k 0 k), (6, AV.int .i64 ((q : Nat) : Int))], [p9 136 4 k zs]⟩) (.v ⟨(sk L 0), 0, N, [], ⟨rfl, ⟨by omega, hs0.2.2.1, hs0.2.1, hs0.2.2.2, rfl, bE.nil⟩⟩, rfl⟩) ?_
  rintro m sl h' ⟨q, k, n, zs, ⟨hm, ⟨hkn, hX, hq, hsp, hz, hpl⟩⟩, hst⟩
  obtain ⟨rfl, rfl⟩ := St.mk.inj hst; clear hst
  refine .sb ?_
  refine c0z ?_
  refine .spl 20 rfl rfl (fun e2 => ?_) (fun e2 => ?_)
  ·try simp only [e2]
   have qe2 := fact e2
   refine .T ?_
   refine .s ?_
   refine c77z ?_
   refine c16z ?_
   exact ⟨_, _, rfl, by (show fO 0 _ 6 (.tup [.own 0 (k + 1) 0 (k + 1), .int .i64 ((q : Nat) : Int), .int .i64 0]) = _; simp only [aE, s4, aF, l9, Nat.not_lt_zero, if_false]; rw [gV (e := 136) (K := 4) (g := k + 1) (zs := zs ++ _) rfl (by decide) (by simp only [List.length_append, hz]; simp; omega) (by omega) (bE.frz (jX hpl nS) _ _ _)]; rfl), by rw [show q = L.length from by omega]; rfl⟩
  try simp only [e2]
  have qe2 := fact e2
  refine c83z ?_
  refine .z ?_
  refine .sb ?_
  have hsp' := hsp (by omega)
  refine c24z ?_
  refine .ca rfl rfl (vX _) ?_
  refine .n ?_
  refine .spl 40 rfl rfl (fun e3 => ?_) (fun e3 => ?_)
  ·try simp only [e3]
   have qe3 := fact e3
   refine .T ?_
   refine .sb ?_
   obtain ⟨ee, mm, hspn, hle16, hnm, hX2⟩ := hX.Z8 (by omega) (by assumption)
   have hlt := hspn.lt
   refine .dU (fun m st => ∃ (j : Nat), (m = ee - j ∧ (q ≤ j ∧ j ≤ ee)) ∧ st = ⟨mkS 124 [(0, AV.vec L.length (qS L)), (5, AV.own 0 k 0 k), (6, AV.int .i64 ((q : Nat) : Int)), (7, AV.ptr 1 0 0), (8, AV.int .i64 ((j : Nat) : Int))], [p9 136 4 k zs, ⟨0, false, 136, 4, [.int .i64 0, .str ByteArray.empty, .int .i64 0, .int .i64 ((q : Nat) : Int)], 0⟩]⟩) (.v ⟨q, ⟨rfl, ⟨Nat.le_refl _, Nat.le_of_lt hspn.lt⟩⟩, rfl⟩) ?_
   rintro m sl h' ⟨j, ⟨hm, ⟨hj1, hj2⟩⟩, hst⟩
   obtain ⟨rfl, rfl⟩ := St.mk.inj hst; clear hst
   have hle := hspn.le
   refine .seq ?_
   refine c31z ?_
   refine .spl 50 rfl rfl (fun e4 => ?_) (fun e4 => ?_)
   ·try simp only [e4]
    have qe4 := fact e4
    refine .k 4 [(4, 50)] ?_
    refine .ca rfl rfl (vX _) ?_
    refine .k 1 [(4, 50)] ?_
    refine .spl 56 rfl rfl (fun e5 => ?_) (fun e5 => ?_)
    ·try simp only [e5]
     have qe5 := fact e5
     refine .m [(4, 50), (10, 56)] ?_
     refine c10z ?_
     refine .block ?_
     refine .c7 [0, 5, 6, 7, 8] ?_
     refine .rz ?_
     have hje := B3 hspn hj2 (by omega) (by first | assumption | simp_all [isW])
     exact ⟨_, by omega, .v ⟨(j + 1), ⟨rfl, ⟨by omega, by omega⟩⟩, rfl⟩ (he := by first | rfl | exact (List.append_nil _).symm)⟩
    try simp only [e5]
    have qe5 := fact e5
    refine .k 4 [(10, 56)] ?_
    refine .ca rfl rfl (vY _) ?_
    refine .m [(4, 50)] ?_
    refine .spl 63 rfl rfl (fun e6 => ?_) (fun e6 => ?_)
    ·try simp only [e6]
     have qe6 := fact e6
     refine c10z ?_
     refine .block ?_
     refine .c7 [0, 5, 6, 7, 8] ?_
     refine .rz ?_
     have hje := B3 hspn hj2 (by omega) (by first | assumption | simp_all [isW])
     exact ⟨_, by omega, .v ⟨(j + 1), ⟨rfl, ⟨by omega, by omega⟩⟩, rfl⟩ (he := by first | rfl | exact (List.append_nil _).symm)⟩
    try simp only [e6]
    have qe6 := fact e6
    refine c3z ?_
    have hje : ee = j := (qU hspn hj1 hj2 (fun hlt => by first | omega | assumption | simp_all [isW])).symm
    subst hje
    change c8 ..
    refine c74z ?_
    refine c31z ?_
    refine .ca rfl rfl (NJ _) ?_
    refine .nil ?_
    refine .spl 72 rfl rfl (fun e7 => ?_) (fun e7 => ?_)
    ·try simp only [e7]
     have qe7 := fact e7
     refine c64z ?_
     refine .seq ?_
     refine c74z ?_
     refine .spl 111 rfl rfl (fun e8 => by exfalso; simp only [beq_iff_eq] at e8; omega) (fun e8 => ?_)
     try simp only [e8]
     have qe8 := fact e8
     refine c97z ?_
     refine c1z ?_
     refine .r ?_
     refine .e 2 ?_
     refine .ca rfl rfl (pP L _ _ hX2 (by omega) (by omega)) ?_
     refine .n ?_
     have hs1 := vV rfl hX2 (by omega)
     exact ⟨_, by omega, .v ⟨(sk L ee), (k + 1), mm, (zs ++ [.int .i64 _, .str _, .int .i64 _, .int .i64 ((q : Nat) : Int)]), ⟨rfl, ⟨by omega, hs1.2.2.1, hs1.2.1, hs1.2.2.2, by simp only [List.length_append, hz]; simp; omega, jX hpl nS⟩⟩, rfl⟩ (he := by rfl) (hk := t41)⟩
    try simp only [e7]
    have qe7 := fact e7
    refine c14z ?_
    refine .spl 77 rfl rfl (fun e9 => by exfalso; simp only [decide_eq_true_eq, gt_iff_lt] at e9; omega) (fun e9 => ?_)
    try simp only [e9]
    have qe9 := fact e9
    refine c169z ?_
    refine c74z ?_
    refine .spl 111 rfl rfl (fun e10 => by exfalso; simp only [beq_iff_eq] at e10; omega) (fun e10 => ?_)
    try simp only [e10]
    have qe10 := fact e10
    refine c97z ?_
    refine c1z ?_
    refine .r ?_
    refine .e 2 ?_
    refine .ca rfl rfl (pP L _ _ hX2 (by omega) (by omega)) ?_
    refine .n ?_
    have hs1 := vV rfl hX2 (by omega)
    exact ⟨_, by omega, .v ⟨(sk L ee), (k + 1), mm, (zs ++ [.int .i64 _, .str _, .int .i64 _, .int .i64 ((q : Nat) : Int)]), ⟨rfl, ⟨by omega, hs1.2.2.1, hs1.2.1, hs1.2.2.2, by simp only [List.length_append, hz]; simp; omega, jX hpl nS⟩⟩, rfl⟩ (he := by rfl) (hk := t41)⟩
   try simp only [e4]
   have qe4 := fact e4
   refine .k 8 [(4, 50), (10, 56)] ?_
   refine .m [(4, 50), (10, 56)] ?_
   refine c3z ?_
   have hje : ee = j := (qU hspn hj1 hj2 (fun hlt => by first | omega | assumption | simp_all [isW])).symm
   subst hje
   change c8 ..
   refine c74z ?_
   refine c31z ?_
   refine .ca rfl rfl (NJ _) ?_
   refine .nil ?_
   refine .spl 72 rfl rfl (fun e11 => ?_) (fun e11 => ?_)
   ·try simp only [e11]
    have qe11 := fact e11
    refine c64z ?_
    refine .seq ?_
    refine c74z ?_
    refine .spl 111 rfl rfl (fun e12 => by exfalso; simp only [beq_iff_eq] at e12; omega) (fun e12 => ?_)
    try simp only [e12]
    have qe12 := fact e12
    refine c97z ?_
    refine c1z ?_
    refine .r ?_
    refine .e 2 ?_
    refine .ca rfl rfl (pP L _ _ hX2 (by omega) (by omega)) ?_
    refine .n ?_
    have hs1 := vV rfl hX2 (by omega)
    exact ⟨_, by omega, .v ⟨(sk L ee), (k + 1), mm, (zs ++ [.int .i64 _, .str _, .int .i64 _, .int .i64 ((q : Nat) : Int)]), ⟨rfl, ⟨by omega, hs1.2.2.1, hs1.2.1, hs1.2.2.2, by simp only [List.length_append, hz]; simp; omega, jX hpl nS⟩⟩, rfl⟩ (he := by rfl) (hk := t41)⟩
   try simp only [e11]
   have qe11 := fact e11
   refine c14z ?_
   refine .spl 77 rfl rfl (fun e13 => by exfalso; simp only [decide_eq_true_eq, gt_iff_lt] at e13; omega) (fun e13 => ?_)
   try simp only [e13]
   have qe13 := fact e13
   refine c169z ?_
   refine c74z ?_
   refine .spl 111 rfl rfl (fun e14 => by exfalso; simp only [beq_iff_eq] at e14; omega) (fun e14 => ?_)
   try simp only [e14]
   have qe14 := fact e14
   refine c97z ?_
   refine c1z ?_
   refine .r ?_
   refine .e 2 ?_
   refine .ca rfl rfl (pP L _ _ hX2 (by omega) (by omega)) ?_
   refine .n ?_
   have hs1 := vV rfl hX2 (by omega)
   exact ⟨_, by omega, .v ⟨(sk L ee), (k + 1), mm, (zs ++ [.int .i64 _, .str _, .int .i64 _, .int .i64 ((q : Nat) : Int)]), ⟨rfl, ⟨by omega, hs1.2.2.1, hs1.2.1, hs1.2.2.2, by simp only [List.length_append, hz]; simp; omega, jX hpl nS⟩⟩, rfl⟩ (he := by rfl) (hk := t41)⟩
  try simp only [e3]
  have qe3 := fact e3
  refine .F ?_
  refine .c7 [0, 5, 6, 7, 8] ?_
  refine c24z ?_
  refine .ca rfl rfl (vY _) ?_
  refine .n ?_
  refine .spl 79 rfl rfl (fun e15 => ?_) (fun e15 => ?_)
  ·try simp only [e15]
   have qe15 := fact e15
   refine .T ?_
   refine .sb ?_
   obtain ⟨ee, mm, hspn, hvv, hnm, hX2⟩ := hX.GC (by omega) (by assumption)
   have hlt := hspn.lt
   refine .dU (fun m st => ∃ (j : Nat), (m = ee - j ∧ (q ≤ j ∧ j ≤ ee)) ∧ st = ⟨mkS 124 [(0, AV.vec L.length (qS L)), (5, AV.own 0 k 0 k), (6, AV.int .i64 ((q : Nat) : Int)), (7, AV.ptr 1 0 0), (8, AV.int .i64 ((j : Nat) : Int))], [p9 136 4 k zs, ⟨0, false, 136, 4, [.int .i64 0, .str ByteArray.empty, .int .i64 0, .int .i64 ((q : Nat) : Int)], 0⟩]⟩) (.v ⟨q, ⟨rfl, ⟨Nat.le_refl _, Nat.le_of_lt hspn.lt⟩⟩, rfl⟩) ?_
   rintro m sl h' ⟨j, ⟨hm, ⟨hj1, hj2⟩⟩, hst⟩
   obtain ⟨rfl, rfl⟩ := St.mk.inj hst; clear hst
   have hle := hspn.le
   refine .seq ?_
   refine c31z ?_
   refine .spl 89 rfl rfl (fun e16 => ?_) (fun e16 => ?_)
   ·try simp only [e16]
    have qe16 := fact e16
    refine .k 4 [(4, 89)] ?_
    refine .ca rfl rfl (vY _) ?_
    refine .n ?_
    refine .spl 95 rfl rfl (fun e17 => ?_) (fun e17 => ?_)
    ·try simp only [e17]
     have qe17 := fact e17
     refine c10z ?_
     refine .block ?_
     refine .c7 [0, 5, 6, 7, 8] ?_
     refine .rz ?_
     have hje := B3 hspn hj2 (by omega) (by first | assumption | simp_all [isW])
     exact ⟨_, by omega, .v ⟨(j + 1), ⟨rfl, ⟨by omega, by omega⟩⟩, rfl⟩ (he := by first | rfl | exact (List.append_nil _).symm)⟩
    try simp only [e17]
    have qe17 := fact e17
    refine c3z ?_
    have hje : ee = j := (qU hspn hj1 hj2 (fun hlt => by first | omega | assumption | simp_all [isW])).symm
    subst hje
    change c8 ..
    refine .c7 [0, 5, 6, 7, 8] ?_
    refine c24z ?_
    refine .ca rfl rfl (KI hspn hvv (by omega)) ?_
    refine .n ?_
    refine .z ?_
    refine .spl 107 rfl rfl (fun e18 => by exfalso; simp only [decide_eq_true_eq] at e18; omega) (fun e18 => ?_)
    try simp only [e18]
    have qe18 := fact e18
    refine c169z ?_
    refine c74z ?_
    refine .spl 111 rfl rfl (fun e19 => by exfalso; simp only [beq_iff_eq] at e19; omega) (fun e19 => ?_)
    try simp only [e19]
    have qe19 := fact e19
    refine c97z ?_
    refine c1z ?_
    refine .r ?_
    refine .e 2 ?_
    refine .ca rfl rfl (pP L _ _ hX2 (by omega) (by omega)) ?_
    refine .n ?_
    have hs1 := vV rfl hX2 (by omega)
    exact ⟨_, by omega, .v ⟨(sk L ee), (k + 1), mm, (zs ++ [.int .i64 _, .str _, .int .i64 _, .int .i64 ((q : Nat) : Int)]), ⟨rfl, ⟨by omega, hs1.2.2.1, hs1.2.1, hs1.2.2.2, by simp only [List.length_append, hz]; simp; omega, jX hpl nS⟩⟩, rfl⟩ (he := by rfl) (hk := t41)⟩
   try simp only [e16]
   have qe16 := fact e16
   refine .m [(4, 89)] ?_
   refine c3z ?_
   have hje : ee = j := (qU hspn hj1 hj2 (fun hlt => by first | omega | assumption | simp_all [isW])).symm
   subst hje
   change c8 ..
   refine .c7 [0, 5, 6, 7, 8] ?_
   refine c24z ?_
   refine .ca rfl rfl (KI hspn hvv (by omega)) ?_
   refine .n ?_
   refine .z ?_
   refine .spl 107 rfl rfl (fun e20 => by exfalso; simp only [decide_eq_true_eq] at e20; omega) (fun e20 => ?_)
   try simp only [e20]
   have qe20 := fact e20
   refine c169z ?_
   refine c74z ?_
   refine .spl 111 rfl rfl (fun e21 => by exfalso; simp only [beq_iff_eq] at e21; omega) (fun e21 => ?_)
   try simp only [e21]
   have qe21 := fact e21
   refine c97z ?_
   refine c1z ?_
   refine .r ?_
   refine .e 2 ?_
   refine .ca rfl rfl (pP L _ _ hX2 (by omega) (by omega)) ?_
   refine .n ?_
   have hs1 := vV rfl hX2 (by omega)
   exact ⟨_, by omega, .v ⟨(sk L ee), (k + 1), mm, (zs ++ [.int .i64 _, .str _, .int .i64 _, .int .i64 ((q : Nat) : Int)]), ⟨rfl, ⟨by omega, hs1.2.2.1, hs1.2.1, hs1.2.2.2, by simp only [List.length_append, hz]; simp; omega, jX hpl nS⟩⟩, rfl⟩ (he := by rfl) (hk := t41)⟩
  try simp only [e15]
  have qe15 := fact e15
  refine .F ?_
  obtain ⟨hsg1, hsg2, mm, hnm, hX2⟩ := hX.Z9 (by omega) hsp' t89 t89
  refine c20z ?_
  refine .ca rfl rfl (c_sign L q (by omega) (by omega)) ?_
  refine .n ?_
  refine c74z ?_
  refine .z ?_
  refine .spl 38 rfl rfl (fun e22 => by exfalso; simp only [beq_iff_eq] at e22; omega) (fun e22 => ?_)
  try simp only [e22]
  have qe22 := fact e22
  refine c13z ?_
  refine c0z ?_
  refine .spl 111 rfl rfl (fun e23 => by exfalso; simp only [beq_iff_eq] at e23; omega) (fun e23 => ?_)
  try simp only [e23]
  have qe23 := fact e23
  refine c97z ?_
  refine c1z ?_
  refine .r ?_
  refine .e 2 ?_
  refine .ca rfl rfl (pP L _ _ hX2 (by omega) (by omega)) ?_
  refine .n ?_
  have hs1 := vV rfl hX2 (by omega)
  exact ⟨_, by omega, .v ⟨(sk L (q + sgn L q)), (k + 1), mm, (zs ++ [.int .i64 _, .str _, .int .i64 _, .int .i64 ((q : Nat) : Int)]), ⟨rfl, ⟨by omega, hs1.2.2.1, hs1.2.1, hs1.2.2.2, by simp only [List.length_append, hz]; simp; omega, jX hpl nS⟩⟩, rfl⟩ (he := by rfl) (hk := t41)⟩
end
end Go.Proofs.Ytbmaijdkebjnhaa
end
section
namespace Go.Proofs.Ytbmaijdkebjnhaa
open Go.Ab Go.Un
theorem wrapU {n : Int} (h1 : 0 ≤ n) (h2 : n < 18446744073709551616) : IntKind.wrap .u64 n = n := by
  rw [IntKind.wrap_u64]; omega
theorem yR : ∀ (f n : Nat), n < 10 ^ f → 0 < f → tK (f + 1) n = tK f n
  | 0, n, h, hf => by omega
  | f + 1, n, h, _ => by
    have e : tK (f + 1 + 1) n = if n < 10 then [dig n] else tK (f + 1) (n / 10) ++ [dig n] := rfl
    have e2 : tK (f + 1) n = if n < 10 then [dig n] else tK f (n / 10) ++ [dig n] := rfl
    rw [e, e2]
    split
    · rfl
    · rename_i hn
      have h1 : n / 10 < 10 ^ f := by rw [Nat.pow_succ] at h; omega
      cases f with
      | zero => simp at h1; omega
      | succ f => rw [yR (f + 1) (n / 10) h1 (by omega)]
theorem yS {n : Nat} (h : n < 10000000000000000000) (h0 : 0 < n / 10) : tU n = tU (n / 10) ++ [dig n] := by
  have e2 : tU n = if n < 10 then [dig n] else tK 19 (n / 10) ++ [dig n] := rfl
  rw [e2, if_neg (by omega)]
  unfold tU
  rw [yR 19 (n / 10) (by omega) (by omega)]
theorem tZ {n : Nat} (h : n < 10) : tU n = [dig n] := by
  have e2 : tU n = if n < 10 then [dig n] else tK 19 (n / 10) ++ [dig n] := rfl
  rw [e2, if_pos h]
def QV (n : Nat) (s : Bs) : Bs := if n = 0 then s else tU n ++ s
theorem P8 {n : Nat} (h : n < 10000000000000000000) : QV (n / 10) [dig n] = tU n := by
  unfold QV
  split
  · rw [tZ (by omega)]
  · rw [yS h (by omega)]
theorem AD {n : Nat} {s : Bs} (h : n < 10000000000000000000) (h0 : 0 < n) : QV (n / 10) (dig n :: s) = QV n s := by
  unfold QV
  rw [if_neg (by omega : ¬ n = 0)]
  split
  · rw [tZ (by omega)]; rfl
  · rw [yS h (by omega)]; simp
theorem AE {n : Nat} : UInt8.ofNat (((48 : Int) + (((n % 10 : Nat)) : Int)).toNat) = dig n := by
  unfold dig
  congr 1
theorem KJ {n : Nat} : ((n : Int)).tmod 10 = ((n % 10 : Nat) : Int) := rfl
theorem KK {n : Nat} : ((n : Int)).tdiv 10 = ((n / 10 : Nat) : Int) := rfl
theorem KL {a : UInt8} {s : Bs} : (⟨#[a]⟩ : BA) ++ (⟨s.toArray⟩ : BA) = ⟨(a :: s).toArray⟩ := by
  apply ByteArray.ext
  simp [ByteArray.data_append]
theorem AF {s : Bs} : (⟨s.toArray⟩ : BA).size = s.length := by rw [jR]; rfl
attribute [local go_sem] lS v9 j8 bI n5 Int.natCast_nonneg Int.natCast_inj List.length_map wrap64 P7 wrapU bW I7 yJ A9 I8 wU max2 kP
theorem GG {n m : Nat} {s : Bs} (h : n * 10 ^ s.length ≤ m) : n / 10 * 10 ^ (dig n :: s).length ≤ m := by
  rw [List.length_cons, Nat.pow_succ, Nat.mul_comm (10 ^ s.length), ← Nat.mul_assoc]
  exact Nat.le_trans (Nat.mul_le_mul_right _ (Nat.div_mul_le_self n 10)) h
theorem GI {n m : Nat} {s : Bs} (h0 : 0 < n) (h : n * 10 ^ s.length ≤ m) (hm : m < 10000000000000000000) : (dig n :: s).length ≤ 20 := by
  rw [List.length_cons]
  by_cases hs : s.length + 1 ≤ 20
  · exact hs
  · have h1 : 10 ^ 20 ≤ 10 ^ s.length := Nat.pow_le_pow_right (by omega) (by omega)
    have h2 : 1 * 10 ^ s.length ≤ n * 10 ^ s.length := Nat.mul_le_mul_right _ h0
    omega
theorem c_dig0 (m0 : Nat) (hm0 : m0 < 10000000000000000000) : CallA Try.prog cfg 109 [.int .u64 (m0 : Int)] [] (fun y' h' => y' = .str ⟨(tU m0).toArray⟩ ∧ h' = []) := by
  refine CallA.body (Q := fun y' => y' = .str ⟨(tU m0).toArray⟩) z7 fn109 rfl ?_
  simp only [ntm109, List.length_cons, List.length_nil, Nat.reduceAdd, Nat.reduceSub, List.replicate, List.cons_append, List.nil_append]
  refine c7z ?_
  refine l5.pre 1 t10 ?_
  refine c6z ?_
  refine c7z ?_
  refine l5.pre 7 t10 ?_
  refine c107z ?_
  refine c7z ?_
  refine l5.pre 3 t10 ?_
  refine c6z ?_
  refine c8.block ?_
  refine c8.aD ([⟨0, false, 5, 1, [.int .u8 (48 + ((m0 % 10 : Nat) : Int))], 0⟩]) (by first | rfl | (simp only [List.append_assoc, List.cons_append, List.nil_append]; rfl)) ?_
  refine c8.loopW (fun m st => ∃ (n : Nat) (s : Bs), (m = n ∧ (n < 10000000000000000000 ∧ QV n s = tU m0 ∧ s.length ≤ 20 ∧ n * 10 ^ s.length ≤ m0)) ∧ st = ⟨[.int .u64 ((n : Nat) : Int), .any, .any, .str ⟨s.toArray⟩, .any, .any, .any, .any, .any, .any, .any, .any, .any, .any, .any, .any, .any, .any, .any, .any, .any, .any, .any, .any, .any], [⟨0, false, 5, 1, [.int .u8 (48 + ((m0 % 10 : Nat) : Int))], 0⟩]⟩) ((m0 / 10)) ⟨[.int .u64 (((m0 / 10) : Nat) : Int), .any, .any, .str ⟨[dig m0].toArray⟩, .any, .any, .any, .any, .any, .any, .any, .any, .any, .any, .any, .any, .any, .any, .any, .any, .any, .any, .any, .any, .any], [⟨0, false, 5, 1, [.int .u8 (48 + ((m0 % 10 : Nat) : Int))], 0⟩], [], (List.append_nil _).symm, Nat.le_refl _, cI.refl _, ⟨(.inl (by first | rfl | (congr 1; omega))), (.inr rfl), (.inr rfl), (.inl (by first | rfl | (congr 1; omega))), (.inr rfl), (.inr rfl), (.inr rfl), (.inr rfl), (.inr rfl), (.inr rfl), (.inr rfl), (.inr rfl), (.inr rfl), (.inr rfl), (.inr rfl), (.inr rfl), (.inr rfl), (.inr rfl), (.inr rfl), (.inr rfl), (.inr rfl), (.inr rfl), (.inr rfl), (.inr rfl), (.inr rfl), trivial⟩, fR.get ⟨t2, t2, t2, t2, t2, t2, t2, t2, t2, t2, t2, t2, t2, t2, t2, t2, t2, t2, t2, t2, t2, t2, t2, t2, t2, trivial⟩, (m0 / 10), [dig m0], ⟨rfl, ⟨by omega, P8 hm0, by simp, by simp; omega⟩⟩, rfl⟩ ?_
  rintro m sl h' ⟨n, s, ⟨hm, ⟨hn, hP, hs, hM⟩⟩, hst⟩
  obtain ⟨rfl, rfl⟩ := St.mk.inj hst; clear hst
  refine c8.seq ?_
  refine c7z ?_
  refine l5.pre 2 t10 ?_
  refine c6z ?_
  refine c8.split 13 rfl (fun e1 => ?_) (fun e1 => ?_)
  · try simp only [e1]
    have qe1 := e1; try simp only [decide_eq_true_eq, decide_eq_false_iff_not, Bool.not_eq_true', Bool.not_eq_false', Bool.not_eq_eq_eq_not, Bool.not_true, Bool.not_false, Int.not_le, Int.not_lt, beq_iff_eq, bne_iff_ne, ge_iff_le, gt_iff_lt, beq_eq_false_iff_ne, ne_eq, bne_eq_false_iff_eq] at qe1
    refine c8.pV rfl ?_
    refine c63z ?_
    refine c8.seq ?_
    refine c8.block ?_
    refine c8.region z7 ?_
    refine l5.pre 9 t10 ?_
    refine c6z ?_
    refine c8.region z7 ?_
    refine l5.pre 3 t10 ?_
    refine l5.nil ?_
    have hP2 := (AD (s := s) hn (by omega)).trans hP
    exact ⟨(n / 10), by omega, [.int .u64 (((n / 10) : Nat) : Int), .any, .any, .str ⟨(dig n :: s).toArray⟩, .any, .any, .any, .any, .any, .any, .any, .any, .any, .any, .any, .any, .any, .any, .any, .any, .any, .any, .any, .any, .any], [⟨0, false, 5, 1, [.int .u8 (48 + ((m0 % 10 : Nat) : Int))], 0⟩], _, by rfl, by simp, by exact cI.refl _, ⟨(.inl (by first | rfl | (congr 1; omega))), (.inr rfl), (.inr rfl), (.inl (by first | rfl | (congr 1; omega))), (.inr rfl), (.inr rfl), (.inr rfl), (.inr rfl), (.inr rfl), (.inr rfl), (.inr rfl), (.inr rfl), (.inr rfl), (.inr rfl), (.inr rfl), (.inr rfl), (.inr rfl), (.inr rfl), (.inr rfl), (.inr rfl), (.inr rfl), (.inr rfl), (.inr rfl), (.inr rfl), (.inr rfl), trivial⟩, fR.get ⟨t2, t2, t2, t2, t2, t2, t2, t2, t2, t2, t2, t2, t2, t2, t2, t2, t2, t2, t2, t2, t2, t2, t2, t2, t2, trivial⟩, (n / 10), (dig n :: s), ⟨rfl, ⟨by omega, hP2, GI (by omega) hM hm0, GG hM⟩⟩, rfl⟩
  · try simp only [e1]
    have qe1 := e1; try simp only [decide_eq_true_eq, decide_eq_false_iff_not, Bool.not_eq_true', Bool.not_eq_false', Bool.not_eq_eq_eq_not, Bool.not_true, Bool.not_false, Int.not_le, Int.not_lt, beq_iff_eq, bne_iff_ne, ge_iff_le, gt_iff_lt, beq_eq_false_iff_ne, ne_eq, bne_eq_false_iff_eq] at qe1
    refine c8.N6 rfl ?_
    refine c8.exit ?_
    change c8 _ _ _ _ _
    refine c7z ?_
    refine l5.pre 2 t10 ?_
    refine c57z ?_
    refine Ends.mk (by simp only [JT, rB, iQ, jM]; first | rfl | (simp (maxSteps := 2000000) (disch := omega) only [go_sem, Nat.reduceBEq, Nat.reduceAdd, Nat.reduceSub, Nat.reduceLeDiff, Nat.reduceMul, reduceIte, reduceCtorEq, Int.reduceNeg, Int.reduceToNat, Nat.reduceLT, Int.reduceLE, Int.reduceLT, Int.reduceAdd, Int.reduceSub, Int.reduceMul, KJ, KK, AE, iF, rd, KL, AF, show ((10 : Int) = 0) = False from by simp, show (⟨#[dig m0]⟩ : BA) = ⟨[dig m0].toArray⟩ from rfl, pG, if_pos, if_neg]; rfl)) ?_
    exact ⟨_, _, (by first | rfl | exact (List.append_nil _).symm | (simp only [List.append_assoc, List.cons_append, List.nil_append]; rfl)), by first | rfl | (simp only [fO, gG, l9, o5, dK]; rfl), by (rw [← hP, show n = 0 from by omega]; rfl)⟩
theorem GJ {h : c6} (n : Nat) (hn : n < 10000000000000000000) : CallA Try.prog cfg 109 [.int .u64 (n : Int)] h (fun y h' => y = .str ⟨(tU n).toArray⟩ ∧ h' = h) := yO rfl ((c_dig0 n hn).mono fun _ _ h => by rw [h.1]; rfl) h
theorem yT {h : c6} (n : Int) (h0 : 0 ≤ n) (hn : n < 10000000000000000000) : CallA Try.prog cfg 109 [.int .u64 n] h (fun y h' => y = .str ⟨(tU n.toNat).toArray⟩ ∧ h' = h) := by
  have := GJ (h := h) n.toNat (by omega)
  rwa [Int.toNat_of_nonneg h0] at this
theorem GK {h : c6} (n : Int) (h1 : -9000000000000000000 ≤ n) (h2 : n < 9000000000000000000) : CallA Try.prog cfg 91 [.int .i64 n] h (fun y' h' => y' = .str (A5 n) ∧ h' = h) := by
  refine CallA.body (Q := fun y' => y' = .str (A5 n)) z7 fn91 rfl ?_
  simp only [ntm91, List.length_cons, List.length_nil, Nat.reduceAdd, Nat.reduceSub, List.replicate, List.cons_append, List.nil_append]
  have hs1 : (tU (-(n + 1) + 1).toNat).length ≤ 20 := qJ 20 _
  refine c7z ?_
  refine l5.pre 1 t13 ?_
  refine c107z ?_
  refine c7z ?_
  refine l5.pre 2 t13 ?_
  refine c6z ?_
  refine c8.split 4 rfl (fun e1 => ?_) (fun e1 => ?_)
  · try simp only [e1]
    have qe1 := e1; try simp only [decide_eq_true_eq, decide_eq_false_iff_not, Bool.not_eq_true', Bool.not_eq_false', Bool.not_eq_eq_eq_not, Bool.not_true, Bool.not_false, Int.not_le, Int.not_lt, beq_iff_eq, bne_iff_ne, ge_iff_le, gt_iff_lt, beq_eq_false_iff_ne, ne_eq, bne_eq_false_iff_eq] at qe1
    refine c8.pV rfl ?_
    refine c7z ?_
    refine l5.pre 5 t13 ?_
    refine l5.LQ rfl rfl rfl hb109 (yT _ (by omega) (by omega)) ?_
    refine l5.pre 2 t13 ?_
    refine c57z ?_
    refine Ends.mk t50 ?_
    exact ⟨[], _, (List.append_nil _).symm, by first | rfl | rfl, by (first | (rw [A5, if_pos (by omega), show (-(n + 1)).toNat + 1 = (-(n + 1) + 1).toNat from by omega]) | (rw [A5, if_neg (by omega)]))⟩
  · try simp only [e1]
    have qe1 := e1; try simp only [decide_eq_true_eq, decide_eq_false_iff_not, Bool.not_eq_true', Bool.not_eq_false', Bool.not_eq_eq_eq_not, Bool.not_true, Bool.not_false, Int.not_le, Int.not_lt, beq_iff_eq, bne_iff_ne, ge_iff_le, gt_iff_lt, beq_eq_false_iff_ne, ne_eq, bne_eq_false_iff_eq] at qe1
    refine c154z ?_
    refine l5.pre 2 t13 ?_
    refine l5.LQ rfl rfl rfl hb109 (yT _ (by omega) (by omega)) ?_
    refine l5.pre 1 t13 ?_
    refine c57z ?_
    refine Ends.mk t50 ?_
    exact ⟨[], _, (List.append_nil _).symm, by first | rfl | rfl, by (first | (rw [A5, if_pos (by omega), show (-(n + 1)).toNat + 1 = (-(n + 1) + 1).toNat from by omega]) | (rw [A5, if_neg (by omega)]))⟩
theorem strE1 : p8 cfg fV 20 116 [.int .i64 1] [] = some (.int .i64 6, []) := by kernel_rfl
theorem strE2 : p8 cfg fV 20 116 [.int .i64 2] [] = some (.int .i64 6, []) := by kernel_rfl
theorem strE3 : p8 cfg fV 20 116 [.int .i64 3] [] = some (.int .i64 5, []) := by kernel_rfl
theorem strE4 : p8 cfg fV 20 116 [.int .i64 4] [] = some (.int .i64 5, []) := by kernel_rfl
theorem strE5 : p8 cfg fV 20 116 [.int .i64 5] [] = some (.int .i64 4, []) := by kernel_rfl
theorem strE6 : p8 cfg fV 20 116 [.int .i64 6] [] = some (.int .i64 4, []) := by kernel_rfl
theorem strE7 : p8 cfg fV 20 116 [.int .i64 7] [] = some (.int .i64 4, []) := by kernel_rfl
theorem strE8 : p8 cfg fV 20 116 [.int .i64 8] [] = some (.int .i64 3, []) := by kernel_rfl
theorem strE9 : p8 cfg fV 20 116 [.int .i64 9] [] = some (.int .i64 3, []) := by kernel_rfl
theorem strE10 : p8 cfg fV 20 116 [.int .i64 10] [] = some (.int .i64 2, []) := by kernel_rfl
theorem strE11 : p8 cfg fV 20 116 [.int .i64 11] [] = some (.int .i64 2, []) := by kernel_rfl
theorem strE12 : p8 cfg fV 20 116 [.int .i64 12] [] = some (.int .i64 2, []) := by kernel_rfl
theorem strE13 : p8 cfg fV 20 116 [.int .i64 13] [] = some (.int .i64 2, []) := by kernel_rfl
theorem strE14 : p8 cfg fV 20 116 [.int .i64 14] [] = some (.int .i64 2, []) := by kernel_rfl
theorem strE15 : p8 cfg fV 20 116 [.int .i64 15] [] = some (.int .i64 2, []) := by kernel_rfl
theorem strE16 : p8 cfg fV 20 116 [.int .i64 16] [] = some (.int .i64 1, []) := by kernel_rfl
theorem strE17 : p8 cfg fV 20 116 [.int .i64 17] [] = some (.int .i64 0, []) := by kernel_rfl
theorem u0 {h : c6} (o : Int) (h1 : 1 ≤ o) (h2 : o ≤ 17) : CallA Try.prog cfg 116 [.int .i64 o] h (fun y h' => y = .int .i64 (fZ o) ∧ h' = h) := by
  have key : ∀ (k v : Int), p8 cfg fV 20 116 [.int .i64 k] [] = some (.int .i64 v, []) → fZ k = v → CallA Try.prog cfg 116 [.int .i64 k] h (fun y h' => y = .int .i64 (fZ k) ∧ h' = h) := fun k v he hv => by
    rw [hv]
    exact yO rfl ((vF z7 eH 20 _ _ _ _ _ he).mono fun _ _ h => by rw [h.1]; rfl) h
  have hcases : o = 1 ∨ o = 2 ∨ o = 3 ∨ o = 4 ∨ o = 5 ∨ o = 6 ∨ o = 7 ∨ o = 8 ∨ o = 9 ∨ o = 10 ∨ o = 11 ∨ o = 12 ∨ o = 13 ∨ o = 14 ∨ o = 15 ∨ o = 16 ∨ o = 17 := by omega
  rcases hcases with rfl | rfl | rfl | rfl | rfl | rfl | rfl | rfl | rfl | rfl | rfl | rfl | rfl | rfl | rfl | rfl | rfl
  · exact key _ _ strE1 rfl
  · exact key _ _ strE2 rfl
  · exact key _ _ strE3 rfl
  · exact key _ _ strE4 rfl
  · exact key _ _ strE5 rfl
  · exact key _ _ strE6 rfl
  · exact key _ _ strE7 rfl
  · exact key _ _ strE8 rfl
  · exact key _ _ strE9 rfl
  · exact key _ _ strE10 rfl
  · exact key _ _ strE11 rfl
  · exact key _ _ strE12 rfl
  · exact key _ _ strE13 rfl
  · exact key _ _ strE14 rfl
  · exact key _ _ strE15 rfl
  · exact key _ _ strE16 rfl
  · exact key _ _ strE17 rfl
theorem GL {l : List Ex} {i : Nat} (h : i < l.length) : List.take 1 (List.drop (i * 4) (m7 l)) = [AV.int .i64 (l.getD i l3).op] := by
  have := congrArg (fun x => x.take 1) (read_es h)
  simp only [List.take_take, bR] at this
  simpa using this
theorem nT {o : Int} (h1 : 1 ≤ o) (h2 : o ≤ 17) : 0 ≤ fZ o ∧ fZ o ≤ 6 ∧ (fZ o = 6 ↔ o = 1 ∨ o = 2) ∧ (fZ o = 5 ↔ o = 3 ∨ o = 4) := by
  have hcases : o = 1 ∨ o = 2 ∨ o = 3 ∨ o = 4 ∨ o = 5 ∨ o = 6 ∨ o = 7 ∨ o = 8 ∨ o = 9 ∨ o = 10 ∨ o = 11 ∨ o = 12 ∨ o = 13 ∨ o = 14 ∨ o = 15 ∨ o = 16 ∨ o = 17 := by omega
  rcases hcases with rfl | rfl | rfl | rfl | rfl | rfl | rfl | rfl | rfl | rfl | rfl | rfl | rfl | rfl | rfl | rfl | rfl <;> decide
theorem GE.op {vars : List BA} : ∀ {d : Nat} {e : Ex}, GE vars d e → 1 ≤ e.op ∧ e.op ≤ 17
  | d, .leaf o n s, h => by
    have h' := iX.1 h
    simp only [Ex.op]
    omega
  | 0, .un o a, h => h.elim
  | 0, .bin o a b, h => h.elim
  | d + 1, .un o a, h => by have := h.1; simp only [Ex.op]; omega
  | d + 1, .bin o a b, h => by have := h.1; simp only [Ex.op]; omega
section
attribute [local go_sem] GL
theorem B4 {h : c6} (e : Ex) (k : Nat) (hk : k < e.args.length) (h1 : 1 ≤ e.op ∧ e.op ≤ 17) (h2 : 1 ≤ (e.args.getD k l3).op ∧ (e.args.getD k l3).op ≤ 17) (hl : e.args.length ≤ 2) : CallA Try.prog cfg 117 [.agg [.int .i64 e.op, .int .i64 e.num, .str e.name, .vec e.args.length (m7 e.args)], .int .i64 (k : Int)] h (fun y' h' => y' = .bool (kM e k) ∧ h' = h) := by
  refine .b fn117 ntm117 ?_
  refine .z ?_
  refine .ss z7 (mkP 12 [0, 1, 0, 7, 15, 31, 63, 0, 128, 511, 1023, 2047] []) ?_
  refine .k 6 [] ?_
  refine .ca rfl rfl (u0 _ h2.1 h2.2) ?_
  refine .k 2 [] ?_
  refine .ca rfl rfl (u0 _ h1.1 h1.2) ?_
  refine .n [] ?_
  refine .c7 [1, 5, 6] ?_
  refine c24z ?_
  refine .spl 20 rfl rfl (fun e1 => ?_) (fun e1 => ?_)
  ·try simp only [e1]
   have qe1 := fact e1
   refine .k 8 [(3, 20), (7, 24)] ?_
   refine .n ?_
   exact .ret (.ex (hq := t55))
  try simp only [e1]
  have qe1 := fact e1
  refine .k 4 [(3, 20)] ?_
  refine .spl 24 rfl rfl (fun e2 => ?_) (fun e2 => ?_)
  ·try simp only [e2]
   have qe2 := fact e2
   refine .m [(3, 20), (7, 24)] ?_
   exact .ret (.ex (hq := t55))
  try simp only [e2]
  have qe2 := fact e2
  refine .m [(3, 20), (7, 24)] ?_
  exact .ret (.ex (hq := t55))
end
theorem J2 {h : c6} {o : Int} {a : Ex} (h1 : 1 ≤ o ∧ o ≤ 17) (h2 : 1 ≤ a.op ∧ a.op ≤ 17) : CallA Try.prog cfg 117 [.agg [.int .i64 o, .int .i64 0, .str ByteArray.empty, .vec 1 (q9 a)], .int .i64 0] h (fun y' h' => y' = .bool (kM (.un o a) 0) ∧ h' = h) := by
  have := B4 (h := h) (.un o a) 0 (by simp [Ex.args]) h1 h2 (by simp [Ex.args])
  simpa only [Ex.op, Ex.num, Ex.name, Ex.args, m7, List.flatMap_cons, List.flatMap_nil, List.append_nil, List.length_cons, List.length_nil, Nat.zero_add, Int.natCast_zero, Int.cast_ofNat_Int] using this
theorem yU {h : c6} {o : Int} {a b : Ex} (h1 : 1 ≤ o ∧ o ≤ 17) (h2 : 1 ≤ a.op ∧ a.op ≤ 17) : CallA Try.prog cfg 117 [.agg [.int .i64 o, .int .i64 0, .str ByteArray.empty, .vec 2 (q9 a ++ q9 b)], .int .i64 0] h (fun y' h' => y' = .bool (kM (.bin o a b) 0) ∧ h' = h) := by
  have := B4 (h := h) (.bin o a b) 0 (by simp [Ex.args]) h1 h2 (by simp [Ex.args])
  simpa only [Ex.op, Ex.num, Ex.name, Ex.args, m7, List.flatMap_cons, List.flatMap_nil, List.append_nil, List.length_cons, List.length_nil, Nat.zero_add, Nat.reduceAdd, Int.natCast_zero, Int.cast_ofNat_Int] using this
theorem sH {h : c6} {o : Int} {a b : Ex} (h1 : 1 ≤ o ∧ o ≤ 17) (h2 : 1 ≤ b.op ∧ b.op ≤ 17) : CallA Try.prog cfg 117 [.agg [.int .i64 o, .int .i64 0, .str ByteArray.empty, .vec 2 (q9 a ++ q9 b)], .int .i64 1] h (fun y' h' => y' = .bool (kM (.bin o a b) 1) ∧ h' = h) := by
  have := B4 (h := h) (.bin o a b) 1 (by simp [Ex.args]) h1 h2 (by simp [Ex.args])
  simpa only [Ex.op, Ex.num, Ex.name, Ex.args, m7, List.flatMap_cons, List.flatMap_nil, List.append_nil, List.length_cons, List.length_nil, Nat.zero_add, Nat.reduceAdd, Int.natCast_one, Int.cast_ofNat_Int] using this
theorem eP {o : Int} {a : Ex} : q9 (.un o a) = [.int .i64 o, .int .i64 0, .str ByteArray.empty, .vec 1 (q9 a)] := rfl
theorem cV {o : Int} {a b : Ex} : q9 (.bin o a b) = [.int .i64 o, .int .i64 0, .str ByteArray.empty, .vec 2 (q9 a ++ q9 b)] := rfl
theorem bN {o n : Int} {s : BA} : q9 (.leaf o n s) = [.int .i64 o, .int .i64 n, .str s, .vec 0 []] := rfl
theorem iM {a : Ex} {l : List AV} : List.take 4 (q9 a ++ l) = q9 a := by rw [← j8 a, List.take_left]
theorem iN {a : Ex} {l : List AV} : List.drop 4 (q9 a ++ l) = l := by rw [← j8 a, List.drop_left]
theorem lH {s : BA} : (s.toList == ByteArray.empty.toList) = decide (s.size = 0) := by
  rw [ByteArray.toList_eq, ByteArray.toList_eq, Bool.eq_iff_iff]
  simp only [beq_iff_eq, decide_eq_true_eq]
  constructor
  · intro h
    have := congrArg List.length h
    simpa using this
  · intro h
    exact List.length_eq_zero_iff.1 (by simpa using h)
theorem eq_mk {s : BA} : (⟨#[]⟩ : BA) = ByteArray.empty := rfl
theorem lI : ByteArray.empty.size = 0 := rfl
section
attribute [local go_sem] eP cV bN iM iN bW lH eq_mk lI
theorem GM {h : c6} {vars : List BA} (n : Int) (hn : 0 ≤ n) : CallA Try.prog cfg 107 [.agg (q9 (.leaf 1 n ByteArray.empty))] h (fun y' h' => y' = .bool true ∧ h' = h) := by
  refine .b FF G9 ?_
  have hst : fZ 1 = 6 := rfl
  refine c165z ?_
  refine c25z ?_
  refine .ca rfl rfl (u0 _ (by omega) (by omega)) ?_
  refine .nil ?_
  refine c80z ?_
  refine .spl 10 rfl rfl (fun e1 => ?_) (fun e1 => by exfalso; first | omega | (simp only [beq_iff_eq, bne_iff_ne, decide_eq_true_eq, decide_eq_false_iff_not, beq_eq_false_iff_ne, ne_eq, bne_eq_false_iff_eq] at e1; omega) | (simp at e1; omega) | (simp at e1; done))
  try simp only [e1]
  have qe1 := fact e1
  refine .T ?_
  refine .c7 [1] ?_
  refine .z ?_
  refine .ss z7 (mkP 28 [0, 1, 3, 7, 15, 31, 63, 127, 255, 511, 1023, 2047, 4095, 0, 8192, 24576, 57855, 123391, 254463, 516607, 1040895, 2089471, 4186623, 8380927, 16769535, 33546751, 33554431, 134217727] []) ?_
  refine .k 4 [] ?_
  refine .spl 15 rfl rfl (fun e2 => ?_) (fun e2 => by exfalso; first | omega | (simp only [beq_iff_eq, bne_iff_ne, decide_eq_true_eq, decide_eq_false_iff_not, beq_eq_false_iff_ne, ne_eq, bne_eq_false_iff_eq] at e2; omega) | (simp at e2; omega) | (simp at e2; done))
  try simp only [e2]
  have qe2 := fact e2
  refine .k 5 [(3, 15)] ?_
  refine .spl 20 rfl rfl (fun e3 => ?_) (fun e3 => by exfalso; first | omega | (simp only [beq_iff_eq, bne_iff_ne, decide_eq_true_eq, decide_eq_false_iff_not, beq_eq_false_iff_ne, ne_eq, bne_eq_false_iff_eq] at e3; omega) | (simp at e3; omega) | (simp at e3; done))
  try simp only [e3]
  have qe3 := fact e3
  refine .k 8 [(8, 20)] ?_
  refine .spl 28 rfl rfl (fun e4 => by exfalso; first | omega | (simp only [beq_iff_eq, bne_iff_ne, decide_eq_true_eq, decide_eq_false_iff_not, beq_eq_false_iff_ne, ne_eq, bne_eq_false_iff_eq] at e4; omega) | (simp at e4; omega) | (simp at e4; done)) (fun e4 => ?_)
  try simp only [e4]
  have qe4 := fact e4
  refine .k 8 [(16, 28), (21, 33)] ?_
  refine .n [] ?_
  refine .c7 [1, 3, 4, 5] ?_
  refine c20z ?_
  refine .spl 40 rfl rfl (fun e5 => by exfalso; first | omega | (simp only [beq_iff_eq, bne_iff_ne, decide_eq_true_eq, decide_eq_false_iff_not, beq_eq_false_iff_ne, ne_eq, bne_eq_false_iff_eq] at e5; omega) | (simp at e5; omega) | (simp at e5; done)) (fun e5 => ?_)
  try simp only [e5]
  have qe5 := fact e5
  refine .m [(2, 40)] ?_
  refine c169z ?_
  refine .c7 [1, 3] ?_
  refine c103z ?_
  refine .spl 51 rfl rfl (fun e6 => by exfalso; first | omega | (simp only [beq_iff_eq, bne_iff_ne, decide_eq_true_eq, decide_eq_false_iff_not, beq_eq_false_iff_ne, ne_eq, bne_eq_false_iff_eq] at e6; omega) | (simp at e6; omega) | (simp at e6; done)) (fun e6 => ?_)
  try simp only [e6]
  have qe6 := fact e6
  refine .k 3 [(5, 51)] ?_
  refine .spl 54 rfl rfl (fun e7 => by exfalso; first | omega | (simp only [beq_iff_eq, bne_iff_ne, decide_eq_true_eq, decide_eq_false_iff_not, beq_eq_false_iff_ne, ne_eq, bne_eq_false_iff_eq] at e7; omega) | (simp at e7; omega) | (simp at e7; done)) (fun e7 => ?_)
  try simp only [e7]
  have qe7 := fact e7
  refine .k 8 [(8, 54), (12, 58)] ?_
  refine .m [(5, 51)] ?_
  refine c55z ?_
  refine .c7 [1, 3] ?_
  refine c110z ?_
  refine .z ?_
  exact .ret (.ex (hq := by rfl))
end
section
attribute [local go_sem] eP cV bN iM iN bW lH eq_mk lI
theorem GN {h : c6} {vars : List BA} (s : BA) (hn : isName (L8 s)) (hr : qT s = false) : CallA Try.prog cfg 107 [.agg (q9 (.leaf 2 0 s))] h (fun y' h' => y' = .bool true ∧ h' = h) := by
  refine .b FF G9 ?_
  have hst : fZ 2 = 6 := rfl
  have hsz := (eI hn).1
  refine c165z ?_
  refine c25z ?_
  refine .ca rfl rfl (u0 _ (by omega) (by omega)) ?_
  refine .nil ?_
  refine c80z ?_
  refine .spl 10 rfl rfl (fun e1 => ?_) (fun e1 => by exfalso; first | omega | (simp only [beq_iff_eq, bne_iff_ne, decide_eq_true_eq, decide_eq_false_iff_not, beq_eq_false_iff_ne, ne_eq, bne_eq_false_iff_eq] at e1; omega) | (simp at e1; omega) | (simp at e1; done))
  try simp only [e1]
  have qe1 := fact e1
  refine .T ?_
  refine .c7 [1] ?_
  refine .z ?_
  refine .ss z7 (mkP 28 [0, 1, 3, 7, 15, 31, 63, 127, 255, 511, 1023, 2047, 4095, 0, 8192, 24576, 57855, 123391, 254463, 516607, 1040895, 2089471, 4186623, 8380927, 16769535, 33546751, 33554431, 134217727] []) ?_
  refine .k 4 [] ?_
  refine .spl 15 rfl rfl (fun e2 => by exfalso; first | omega | (simp only [beq_iff_eq, bne_iff_ne, decide_eq_true_eq, decide_eq_false_iff_not, beq_eq_false_iff_ne, ne_eq, bne_eq_false_iff_eq] at e2; omega) | (simp at e2; omega) | (simp at e2; done)) (fun e2 => ?_)
  try simp only [e2]
  have qe2 := fact e2
  refine .k 8 [(3, 15), (8, 20)] ?_
  refine .k 5 [] ?_
  refine .spl 28 rfl rfl (fun e3 => ?_) (fun e3 => by exfalso; first | omega | (simp only [beq_iff_eq, bne_iff_ne, decide_eq_true_eq, decide_eq_false_iff_not, beq_eq_false_iff_ne, ne_eq, bne_eq_false_iff_eq] at e3; omega) | (simp at e3; omega) | (simp at e3; done))
  try simp only [e3]
  have qe3 := fact e3
  refine .k 5 [(16, 28)] ?_
  refine .spl 33 rfl rfl (fun e4 => ?_) (fun e4 => by exfalso; first | omega | (simp only [beq_iff_eq, bne_iff_ne, decide_eq_true_eq, decide_eq_false_iff_not, beq_eq_false_iff_ne, ne_eq, bne_eq_false_iff_eq] at e4; omega) | (simp at e4; omega) | (simp at e4; done))
  try simp only [e4]
  have qe4 := fact e4
  refine .k 2 [(21, 33)] ?_
  refine .ca rfl rfl (lG _ hn hr) ?_
  refine .n [] ?_
  refine .c7 [1, 3, 4, 5] ?_
  refine .zm [(2, 40)] ?_
  refine .spl 43 rfl rfl (fun e5 => by exfalso; first | omega | (simp only [beq_iff_eq, bne_iff_ne, decide_eq_true_eq, decide_eq_false_iff_not, beq_eq_false_iff_ne, ne_eq, bne_eq_false_iff_eq] at e5; omega) | (simp at e5; omega) | (simp at e5; done)) (fun e5 => ?_)
  try simp only [e5]
  have qe5 := fact e5
  refine c169z ?_
  refine .c7 [1, 3] ?_
  refine c103z ?_
  refine .spl 51 rfl rfl (fun e6 => by exfalso; first | omega | (simp only [beq_iff_eq, bne_iff_ne, decide_eq_true_eq, decide_eq_false_iff_not, beq_eq_false_iff_ne, ne_eq, bne_eq_false_iff_eq] at e6; omega) | (simp at e6; omega) | (simp at e6; done)) (fun e6 => ?_)
  try simp only [e6]
  have qe6 := fact e6
  refine .k 3 [(5, 51)] ?_
  refine .spl 54 rfl rfl (fun e7 => by exfalso; first | omega | (simp only [beq_iff_eq, bne_iff_ne, decide_eq_true_eq, decide_eq_false_iff_not, beq_eq_false_iff_ne, ne_eq, bne_eq_false_iff_eq] at e7; omega) | (simp at e7; omega) | (simp at e7; done)) (fun e7 => ?_)
  try simp only [e7]
  have qe7 := fact e7
  refine .k 8 [(8, 54), (12, 58)] ?_
  refine .m [(5, 51)] ?_
  refine c55z ?_
  refine .c7 [1, 3] ?_
  refine c110z ?_
  refine .z ?_
  exact .ret (.ex (hq := by rfl))
end
section
attribute [local go_sem] eP cV bN iM iN bW lH eq_mk lI
theorem GO {h : c6} {vars : List BA} (o : Int) (a : Ex) (ho : o = 3 ∨ o = 4) (iha : ∀ (h : c6), CallA Try.prog cfg 107 [.agg (q9 a)] h (fun y' h' => y' = .bool true ∧ h' = h)) : CallA Try.prog cfg 107 [.agg (q9 (.un o a))] h (fun y' h' => y' = .bool true ∧ h' = h) := by
  refine .b FF G9 ?_
  have hst := (nT (o := o) (by omega) (by omega)).2.2.2.2 ho
  refine c165z ?_
  refine c25z ?_
  refine .ca rfl rfl (u0 _ (by omega) (by omega)) ?_
  refine .nil ?_
  refine c80z ?_
  refine .spl 10 rfl rfl (fun e1 => by exfalso; first | omega | (simp only [beq_iff_eq, bne_iff_ne, decide_eq_true_eq, decide_eq_false_iff_not, beq_eq_false_iff_ne, ne_eq, bne_eq_false_iff_eq] at e1; omega) | (simp at e1; omega) | (simp at e1; done)) (fun e1 => ?_)
  try simp only [e1]
  have qe1 := fact e1
  refine c14z ?_
  refine .spl 44 rfl rfl (fun e2 => ?_) (fun e2 => by exfalso; first | omega | (simp only [beq_iff_eq, bne_iff_ne, decide_eq_true_eq, decide_eq_false_iff_not, beq_eq_false_iff_ne, ne_eq, bne_eq_false_iff_eq] at e2; omega) | (simp at e2; omega) | (simp at e2; done))
  try simp only [e2]
  have qe2 := fact e2
  refine .T ?_
  refine .c7 [1] ?_
  refine c1z ?_
  refine .seq ?_
  refine c103z ?_
  refine .spl 51 rfl rfl (fun e3 => by exfalso; first | omega | (simp only [beq_iff_eq, bne_iff_ne, decide_eq_true_eq, decide_eq_false_iff_not, beq_eq_false_iff_ne, ne_eq, bne_eq_false_iff_eq] at e3; omega) | (simp at e3; omega) | (simp at e3; done)) (fun e3 => ?_)
  try simp only [e3]
  have qe3 := fact e3
  refine .k 3 [(5, 51)] ?_
  refine .spl 54 rfl rfl (fun e4 => ?_) (fun e4 => by exfalso; first | omega | (simp only [beq_iff_eq, bne_iff_ne, decide_eq_true_eq, decide_eq_false_iff_not, beq_eq_false_iff_ne, ne_eq, bne_eq_false_iff_eq] at e4; omega) | (simp at e4; omega) | (simp at e4; done))
  try simp only [e4]
  have qe4 := fact e4
  refine .k 4 [(8, 54)] ?_
  refine .spl 58 rfl rfl (fun e5 => by exfalso; first | omega | (simp only [beq_iff_eq, bne_iff_ne, decide_eq_true_eq, decide_eq_false_iff_not, beq_eq_false_iff_ne, ne_eq, bne_eq_false_iff_eq] at e5; omega) | (simp at e5; omega) | (simp at e5; done)) (fun e5 => ?_)
  try simp only [e5]
  have qe5 := fact e5
  refine .m [(5, 51), (8, 54), (12, 58)] ?_
  refine .spl 64 rfl rfl (fun e6 => by exfalso; first | omega | (simp only [beq_iff_eq, bne_iff_ne, decide_eq_true_eq, decide_eq_false_iff_not, beq_eq_false_iff_ne, ne_eq, bne_eq_false_iff_eq] at e6; omega) | (simp at e6; omega) | (simp at e6; done)) (fun e6 => ?_)
  try simp only [e6]
  have qe6 := fact e6
  refine c55z ?_
  refine .c7 [1, 3] ?_
  refine c28z ?_
  refine c8.rounds 2 ?_
  refine c81z ?_
  refine .ca rfl rfl (iha _) ?_
  refine .n ?_
  refine .spl 76 rfl rfl (fun e7 => by exfalso; first | omega | (simp only [beq_iff_eq, bne_iff_ne, decide_eq_true_eq, decide_eq_false_iff_not, beq_eq_false_iff_ne, ne_eq, bne_eq_false_iff_eq] at e7; omega) | (simp at e7; omega) | (simp at e7; done)) (fun e7 => ?_)
  try simp only [e7]
  have qe7 := fact e7
  refine c13z ?_
  refine .c7 [1, 3, 6] ?_
  refine .rz ?_
  refine c37z ?_
  refine c23z ?_
  exact .ret (.ex (hq := by rfl))
end
section
attribute [local go_sem] eP cV bN iM iN bW lH eq_mk lI
theorem GQ {h : c6} {vars : List BA} (o : Int) (a b : Ex) (ho : 5 ≤ o ∧ o ≤ 17) (iha : ∀ (h : c6), CallA Try.prog cfg 107 [.agg (q9 a)] h (fun y' h' => y' = .bool true ∧ h' = h)) (ihb : ∀ (h : c6), CallA Try.prog cfg 107 [.agg (q9 b)] h (fun y' h' => y' = .bool true ∧ h' = h)) : CallA Try.prog cfg 107 [.agg (q9 (.bin o a b))] h (fun y' h' => y' = .bool true ∧ h' = h) := by
  refine .b FF G9 ?_
  have hst := nT (o := o) (by omega) (by omega)
  refine c165z ?_
  refine c25z ?_
  refine .ca rfl rfl (u0 _ (by omega) (by omega)) ?_
  refine .nil ?_
  refine c80z ?_
  refine .spl 10 rfl rfl (fun e1 => by exfalso; first | omega | (simp only [beq_iff_eq, bne_iff_ne, decide_eq_true_eq, decide_eq_false_iff_not, beq_eq_false_iff_ne, ne_eq, bne_eq_false_iff_eq] at e1; omega) | (simp at e1; omega) | (simp at e1; done)) (fun e1 => ?_)
  try simp only [e1]
  have qe1 := fact e1
  refine c14z ?_
  refine .spl 44 rfl rfl (fun e2 => by exfalso; first | omega | (simp only [beq_iff_eq, bne_iff_ne, decide_eq_true_eq, decide_eq_false_iff_not, beq_eq_false_iff_ne, ne_eq, bne_eq_false_iff_eq] at e2; omega) | (simp at e2; omega) | (simp at e2; done)) (fun e2 => ?_)
  try simp only [e2]
  have qe2 := fact e2
  refine c169z ?_
  refine .c7 [1, 3] ?_
  refine c103z ?_
  refine .spl 51 rfl rfl (fun e3 => by exfalso; first | omega | (simp only [beq_iff_eq, bne_iff_ne, decide_eq_true_eq, decide_eq_false_iff_not, beq_eq_false_iff_ne, ne_eq, bne_eq_false_iff_eq] at e3; omega) | (simp at e3; omega) | (simp at e3; done)) (fun e3 => ?_)
  try simp only [e3]
  have qe3 := fact e3
  refine .k 3 [(5, 51)] ?_
  refine .spl 54 rfl rfl (fun e4 => ?_) (fun e4 => by exfalso; first | omega | (simp only [beq_iff_eq, bne_iff_ne, decide_eq_true_eq, decide_eq_false_iff_not, beq_eq_false_iff_ne, ne_eq, bne_eq_false_iff_eq] at e4; omega) | (simp at e4; omega) | (simp at e4; done))
  try simp only [e4]
  have qe4 := fact e4
  refine .k 4 [(8, 54)] ?_
  refine .spl 58 rfl rfl (fun e5 => by exfalso; first | omega | (simp only [beq_iff_eq, bne_iff_ne, decide_eq_true_eq, decide_eq_false_iff_not, beq_eq_false_iff_ne, ne_eq, bne_eq_false_iff_eq] at e5; omega) | (simp at e5; omega) | (simp at e5; done)) (fun e5 => ?_)
  try simp only [e5]
  have qe5 := fact e5
  refine .m [(5, 51), (8, 54), (12, 58)] ?_
  refine .spl 64 rfl rfl (fun e6 => by exfalso; first | omega | (simp only [beq_iff_eq, bne_iff_ne, decide_eq_true_eq, decide_eq_false_iff_not, beq_eq_false_iff_ne, ne_eq, bne_eq_false_iff_eq] at e6; omega) | (simp at e6; omega) | (simp at e6; done)) (fun e6 => ?_)
  try simp only [e6]
  have qe6 := fact e6
  refine c55z ?_
  refine .c7 [1, 3] ?_
  refine c28z ?_
  refine c130z ?_
  refine .ca rfl rfl (iha _) ?_
  refine .n ?_
  refine .spl 76 rfl rfl (fun e7 => by exfalso; first | omega | (simp only [beq_iff_eq, bne_iff_ne, decide_eq_true_eq, decide_eq_false_iff_not, beq_eq_false_iff_ne, ne_eq, bne_eq_false_iff_eq] at e7; omega) | (simp at e7; omega) | (simp at e7; done)) (fun e7 => ?_)
  try simp only [e7]
  have qe7 := fact e7
  refine c13z ?_
  refine .c7 [1, 3, 6] ?_
  refine .rz ?_
  refine c81z ?_
  refine .ca rfl rfl (ihb _) ?_
  refine .n ?_
  refine .spl 76 rfl rfl (fun e8 => by exfalso; first | omega | (simp only [beq_iff_eq, bne_iff_ne, decide_eq_true_eq, decide_eq_false_iff_not, beq_eq_false_iff_ne, ne_eq, bne_eq_false_iff_eq] at e8; omega) | (simp at e8; omega) | (simp at e8; done)) (fun e8 => ?_)
  try simp only [e8]
  have qe8 := fact e8
  refine c13z ?_
  refine .c7 [1, 3, 6] ?_
  refine .rz ?_
  refine c37z ?_
  refine c23z ?_
  exact .ret (.ex (hq := by rfl))
end
def z9 (vars : List BA) : Prop := ∀ x ∈ vars, isName (L8 x) ∧ qT x = false
theorem z9.n {vars : List BA} (h : z9 vars) : Names vars := fun x hx => (h x hx).1
theorem vZ {vars : List BA} (hv : z9 vars) : ∀ {d : Nat} {e : Ex}, GE vars d e → ∀ (h : c6), CallA Try.prog cfg 107 [.agg (q9 e)] h (fun y' h' => y' = .bool true ∧ h' = h)
  | d, .leaf o n s, hg, h => by
    rcases iX.1 hg with ⟨rfl, h1, _, rfl⟩ | ⟨rfl, rfl, h1⟩
    · exact GM (vars := vars) n h1
    · exact GN (vars := vars) s (hv s h1).1 (hv s h1).2
  | 0, .un o a, hg, h => hg.elim
  | 0, .bin o a b, hg, h => hg.elim
  | d + 1, .un o a, hg, h => GO (vars := vars) o a hg.1 (vZ hv hg.2)
  | d + 1, .bin o a b, hg, h => GQ (vars := vars) o a b hg.1 (vZ hv hg.2.1) (vZ hv hg.2.2)
def mx (a b : Int) : Int := if b > a then b else a
def hgt : Ex → Int
  | .leaf .. => 0
  | .un o a => mx 0 (if kM (.un o a) 0 then hgt a + 1 else hgt a) + 1
  | .bin o a b => mx (mx 0 (if kM (.bin o a b) 0 then hgt a + 1 else hgt a)) (if kM (.bin o a b) 1 then hgt b + 1 else hgt b)
theorem sI : ∀ e : Ex, 0 ≤ hgt e ∧ hgt e ≤ 2 * (e.dep : Int)
  | .leaf .. => ⟨Int.le_refl _, by simp [hgt, Ex.dep]⟩
  | .un o a => by
    have := sI a
    simp only [hgt, mx, Ex.dep]
    constructor <;> (repeat' split) <;> omega
  | .bin o a b => by
    have := sI a
    have := sI b
    simp only [hgt, mx, Ex.dep]
    constructor <;> (repeat' split) <;> omega
section
attribute [local go_sem] eP cV bN iM iN bW lH eq_mk lI
theorem AG {h : c6} (o n : Int) (s : BA) (ho : o = 1 ∨ o = 2) : CallA Try.prog cfg 108 [.agg (q9 (.leaf o n s))] h (fun y' h' => y' = .int .i64 (hgt (.leaf o n s)) ∧ h' = h) := by
  refine .b ML X3 ?_
  have hst := (nT (o := o) (by omega) (by omega)).2.2.1.2 ho
  refine c78z ?_
  refine c49z ?_
  refine .seq ?_
  refine c101z ?_
  refine .ca rfl rfl (u0 _ (by omega) (by omega)) ?_
  refine .n ?_
  refine .spl 30 rfl rfl (fun e1 => by exfalso; first | omega | (simp only [beq_iff_eq, bne_iff_ne, decide_eq_true_eq, decide_eq_false_iff_not, beq_eq_false_iff_ne, ne_eq, bne_eq_false_iff_eq] at e1; omega) | (simp at e1; omega) | (simp at e1; done)) (fun e1 => ?_)
  try simp only [e1]
  have qe1 := fact e1
  refine c83z ?_
  exact .ret (.ex (hq := by rfl))
end
section
attribute [local go_sem] eP cV bN iM iN bW lH eq_mk lI
theorem AH {h : c6} (o : Int) (a : Ex) (ho : o = 3 ∨ o = 4) (hd : a.dep ≤ 1000) (hga : 1 ≤ a.op ∧ a.op ≤ 17) (iha : ∀ (h : c6), CallA Try.prog cfg 108 [.agg (q9 a)] h (fun y' h' => y' = .int .i64 (hgt a) ∧ h' = h)) : CallA Try.prog cfg 108 [.agg (q9 (.un o a))] h (fun y' h' => y' = .int .i64 (hgt (.un o a)) ∧ h' = h) := by
  refine .b ML X3 ?_
  have hst := (nT (o := o) (by omega) (by omega)).2.2.2.2 ho
  have hha := sI a
  refine c78z ?_
  refine c8.rounds 2 ?_
  refine c81z ?_
  refine .ca rfl rfl (iha _) ?_
  refine c99z ?_
  refine .ca rfl rfl (J2 (by omega) hga) ?_
  refine .nil ?_
  refine .spl 21 rfl rfl (fun e1 => ?_) (fun e1 => ?_)
  ·try simp only [e1]
   have qe1 := fact e1
   refine c116z ?_
   refine c37z ?_
   refine .seq ?_
   refine c101z ?_
   refine .ca rfl rfl (u0 _ (by omega) (by omega)) ?_
   refine .n ?_
   refine .spl 30 rfl rfl (fun e2 => ?_) (fun e2 => by exfalso; first | omega | (simp only [beq_iff_eq, bne_iff_ne, decide_eq_true_eq, decide_eq_false_iff_not, beq_eq_false_iff_ne, ne_eq, bne_eq_false_iff_eq] at e2; omega) | (simp at e2; omega) | (simp at e2; done))
   try simp only [e2]
   have qe2 := fact e2
   refine c64z ?_
   refine .z ?_
   exact .ret (.ex (hq := t45))
  try simp only [e1]
  have qe1 := fact e1
  refine c4z ?_
  refine c32z ?_
  change c8 _ _ _ _ _
  refine c149z ?_
  refine .z ?_
  refine c18z ?_
  refine .seq ?_
  refine c25z ?_
  refine .ca rfl rfl (u0 _ (by omega) (by omega)) ?_
  refine .n ?_
  refine .spl 30 rfl rfl (fun e3 => ?_) (fun e3 => by exfalso; first | omega | (simp only [beq_iff_eq, bne_iff_ne, decide_eq_true_eq, decide_eq_false_iff_not, beq_eq_false_iff_ne, ne_eq, bne_eq_false_iff_eq] at e3; omega) | (simp at e3; omega) | (simp at e3; done))
  try simp only [e3]
  have qe3 := fact e3
  refine .T ?_
  refine .c7 [3] ?_
  refine c1z ?_
  refine .z ?_
  exact .ret (.ex (hq := t45))
end
section
attribute [local go_sem] eP cV bN iM iN bW lH eq_mk lI
theorem AI {h : c6} (o : Int) (a b : Ex) (ho : 5 ≤ o ∧ o ≤ 17) (hd : a.dep ≤ 1000) (hd2 : b.dep ≤ 1000) (hga : 1 ≤ a.op ∧ a.op ≤ 17) (hgb : 1 ≤ b.op ∧ b.op ≤ 17) (iha : ∀ (h : c6), CallA Try.prog cfg 108 [.agg (q9 a)] h (fun y' h' => y' = .int .i64 (hgt a) ∧ h' = h)) (ihb : ∀ (h : c6), CallA Try.prog cfg 108 [.agg (q9 b)] h (fun y' h' => y' = .int .i64 (hgt b) ∧ h' = h)) : CallA Try.prog cfg 108 [.agg (q9 (.bin o a b))] h (fun y' h' => y' = .int .i64 (hgt (.bin o a b)) ∧ h' = h) := by
  refine .b ML X3 ?_
  have hst := nT (o := o) (by omega) (by omega)
  have hha := sI a
  have hhb := sI b
  refine c78z ?_
  refine c130z ?_
  refine .ca rfl rfl (iha _) ?_
  refine c99z ?_
  refine .ca rfl rfl (yU (by omega) hga) ?_
  refine .nil ?_
  refine .spl 21 rfl rfl (fun e1 => ?_) (fun e1 => ?_)
  ·try simp only [e1]
   have qe1 := fact e1
   refine c116z ?_
   refine c81z ?_
   refine .ca rfl rfl (ihb _) ?_
   refine c99z ?_
   refine .ca rfl rfl (sH (by omega) hgb) ?_
   refine .nil ?_
   refine .spl 21 rfl rfl (fun e2 => ?_) (fun e2 => ?_)
   ·try simp only [e2]
    have qe2 := fact e2
    refine c116z ?_
    refine c37z ?_
    refine .seq ?_
    refine c101z ?_
    refine .ca rfl rfl (u0 _ (by omega) (by omega)) ?_
    refine .n ?_
    refine .spl 30 rfl rfl (fun e3 => by exfalso; first | omega | (simp only [beq_iff_eq, bne_iff_ne, decide_eq_true_eq, decide_eq_false_iff_not, beq_eq_false_iff_ne, ne_eq, bne_eq_false_iff_eq] at e3; omega) | (simp at e3; omega) | (simp at e3; done)) (fun e3 => ?_)
    try simp only [e3]
    have qe3 := fact e3
    refine c83z ?_
    exact .ret (.ex (hq := t45))
   try simp only [e2]
   have qe2 := fact e2
   refine c4z ?_
   refine c32z ?_
   change c8 _ _ _ _ _
   refine c149z ?_
   refine .z ?_
   refine c18z ?_
   refine .seq ?_
   refine c25z ?_
   refine .ca rfl rfl (u0 _ (by omega) (by omega)) ?_
   refine .n ?_
   refine .spl 30 rfl rfl (fun e4 => by exfalso; first | omega | (simp only [beq_iff_eq, bne_iff_ne, decide_eq_true_eq, decide_eq_false_iff_not, beq_eq_false_iff_ne, ne_eq, bne_eq_false_iff_eq] at e4; omega) | (simp at e4; omega) | (simp at e4; done)) (fun e4 => ?_)
   try simp only [e4]
   have qe4 := fact e4
   refine c4z ?_
   refine c135z ?_
   exact .ret (.ex (hq := t45))
  try simp only [e1]
  have qe1 := fact e1
  refine c4z ?_
  refine c32z ?_
  change c8 _ _ _ _ _
  refine c149z ?_
  refine .z ?_
  refine c11z ?_
  refine c31z ?_
  refine .ca rfl rfl (ihb _) ?_
  refine c99z ?_
  refine .ca rfl rfl (sH (by omega) hgb) ?_
  refine .nil ?_
  refine .spl 21 rfl rfl (fun e5 => ?_) (fun e5 => ?_)
  ·try simp only [e5]
   have qe5 := fact e5
   refine c116z ?_
   refine c37z ?_
   refine .seq ?_
   refine c101z ?_
   refine .ca rfl rfl (u0 _ (by omega) (by omega)) ?_
   refine .n ?_
   refine .spl 30 rfl rfl (fun e6 => by exfalso; first | omega | (simp only [beq_iff_eq, bne_iff_ne, decide_eq_true_eq, decide_eq_false_iff_not, beq_eq_false_iff_ne, ne_eq, bne_eq_false_iff_eq] at e6; omega) | (simp at e6; omega) | (simp at e6; done)) (fun e6 => ?_)
   try simp only [e6]
   have qe6 := fact e6
   refine c83z ?_
   exact .ret (.ex (hq := t45))
  try simp only [e5]
  have qe5 := fact e5
  refine c4z ?_
  refine c32z ?_
  change c8 _ _ _ _ _
  refine c149z ?_
  refine .z ?_
  refine c18z ?_
  refine .seq ?_
  refine c25z ?_
  refine .ca rfl rfl (u0 _ (by omega) (by omega)) ?_
  refine .n ?_
  refine .spl 30 rfl rfl (fun e7 => by exfalso; first | omega | (simp only [beq_iff_eq, bne_iff_ne, decide_eq_true_eq, decide_eq_false_iff_not, beq_eq_false_iff_ne, ne_eq, bne_eq_false_iff_eq] at e7; omega) | (simp at e7; omega) | (simp at e7; done)) (fun e7 => ?_)
  try simp only [e7]
  have qe7 := fact e7
  refine c4z ?_
  refine c135z ?_
  exact .ret (.ex (hq := t45))
end
theorem qV {vars : List BA} : ∀ {d : Nat} {e : Ex}, d ≤ 100 → GE vars d e → ∀ (h : c6), CallA Try.prog cfg 108 [.agg (q9 e)] h (fun y' h' => y' = .int .i64 (hgt e) ∧ h' = h)
  | d, .leaf o n s, hd, hg, h => by
    have h' := iX.1 hg
    exact AG o n s (by omega)
  | 0, .un o a, hd, hg, h => hg.elim
  | 0, .bin o a b, hd, hg, h => hg.elim
  | d + 1, .un o a, hd, hg, h => AH o a hg.1 (by have := hg.2.dep; omega) (GE.op hg.2) (qV (by omega) hg.2)
  | d + 1, .bin o a b, hd, hg, h => AI o a b hg.1 (by have := hg.2.1.dep; omega) (by have := hg.2.2.dep; omega) (GE.op hg.2.1) (GE.op hg.2.2) (qV (by omega) hg.2.1) (qV (by omega) hg.2.2)
theorem J3 {h : c6} {vars : List BA} (hv : z9 vars) {d : Nat} (hd : d ≤ 12) (e : Ex) (hg : GE vars d e) : CallA Try.prog cfg 87 [.agg (q9 e)] h (fun y' h' => y' = .bool true ∧ h' = h) := by
  refine .b fn87 ntm87 ?_
  have hh := sI e
  have hdp := hg.dep
  refine c96z ?_
  refine .ca rfl rfl (vZ hv hg _) ?_
  refine .k 2 [(2, 5)] ?_
  refine .ca rfl rfl (qV (by omega) hg _) ?_
  refine .m [(2, 5)] ?_
  exact .ret (.ex (hq := by (exact congrArg AV.bool (decide_eq_true (by omega)))))
end Go.Proofs.Ytbmaijdkebjnhaa
end
section
namespace Go.Proofs.Ytbmaijdkebjnhaa
open Go.Ab Go.Un
theorem mx6 : (6 ≤ maxLen) = True := by simp; decide
theorem mx3 : (3 ≤ maxLen) = True := by simp; decide
def sgS (k : Int) : List BA := if k = 0 then [(⟨#[124, 124]⟩ : BA)] else if k = 1 then [(⟨#[38, 38]⟩ : BA)] else if k = 2 then [(⟨#[61, 61]⟩ : BA), (⟨#[33, 61]⟩ : BA), (⟨#[60]⟩ : BA), (⟨#[60, 61]⟩ : BA), (⟨#[62]⟩ : BA), (⟨#[62, 61]⟩ : BA)] else if k = 3 then [(⟨#[43]⟩ : BA), (⟨#[45]⟩ : BA)] else [(⟨#[42]⟩ : BA), (⟨#[47]⟩ : BA), (⟨#[37]⟩ : BA)]
def sgO (k : Int) : List Int := if k = 0 then [17] else if k = 1 then [16] else if k = 2 then [14, 15, 10, 11, 12, 13] else if k = 3 then [8, 9] else [5, 6, 7]
theorem GU {k : Int} (h0 : 0 ≤ k) (h4 : k ≤ 4) : (sgS k).length = (sgO k).length ∧ (sgO k).length ≤ 6 := by
  have hc : k = 0 ∨ k = 1 ∨ k = 2 ∨ k = 3 ∨ k = 4 := by omega
  rcases hc with rfl | rfl | rfl | rfl | rfl <;> decide
theorem GV {o : Int} (h : 5 ≤ o ∧ o ≤ 17) : ∀ i, i < (sgO (fZ o)).length → (sgO (fZ o)).getD i 0 = o → (sgS (fZ o)).getD i ByteArray.empty = A4 o := by
  have hcases : o = 5 ∨ o = 6 ∨ o = 7 ∨ o = 8 ∨ o = 9 ∨ o = 10 ∨ o = 11 ∨ o = 12 ∨ o = 13 ∨ o = 14 ∨ o = 15 ∨ o = 16 ∨ o = 17 := by omega
  rcases hcases with rfl | rfl | rfl | rfl | rfl | rfl | rfl | rfl | rfl | rfl | rfl | rfl | rfl <;> decide
theorem GW {o : Int} (h : 5 ≤ o ∧ o ≤ 17) : ¬ ∀ i, i < (sgO (fZ o)).length → (sgO (fZ o)).getD i 0 ≠ o := by
  have hcases : o = 5 ∨ o = 6 ∨ o = 7 ∨ o = 8 ∨ o = 9 ∨ o = 10 ∨ o = 11 ∨ o = 12 ∨ o = 13 ∨ o = 14 ∨ o = 15 ∨ o = 16 ∨ o = 17 := by omega
  rcases hcases with rfl | rfl | rfl | rfl | rfl | rfl | rfl | rfl | rfl | rfl | rfl | rfl | rfl <;> decide
theorem qW {o : Int} (h : 5 ≤ o ∧ o ≤ 17) : 0 ≤ fZ o ∧ fZ o ≤ 4 := by
  have hcases : o = 5 ∨ o = 6 ∨ o = 7 ∨ o = 8 ∨ o = 9 ∨ o = 10 ∨ o = 11 ∨ o = 12 ∨ o = 13 ∨ o = 14 ∨ o = 15 ∨ o = 16 ∨ o = 17 := by omega
  rcases hcases with rfl | rfl | rfl | rfl | rfl | rfl | rfl | rfl | rfl | rfl | rfl | rfl | rfl <;> decide
theorem J4 {l : List Int} {o : Int} {i : Nat} (h : ∀ d, d < i → l.getD d 0 ≠ o) (e : l.getD i 0 ≠ o) : ∀ d, d < i + 1 → l.getD d 0 ≠ o := fun d hd => by
  by_cases hdi : d = i
  · rw [hdi]; exact e
  · exact h d (by omega)
theorem wB {a : Array UInt8} : (⟨a⟩ : BA).size = a.size := rfl
theorem c_innU {h : c6} {o : Int} {a : Ex} {p : Bool} (hp : kM (.un o a) 0 = p) (h1 : 1 ≤ o ∧ o ≤ 17) (h2 : 1 ≤ a.op ∧ a.op ≤ 17) : CallA Try.prog cfg 117 [.agg [.int .i64 o, .int .i64 0, .str ByteArray.empty, .vec 1 (q9 a)], .int .i64 0] h (fun y' h' => y' = .bool p ∧ h' = h) := by
  subst hp; exact J2 h1 h2
theorem J5 {h : c6} {o : Int} {a b : Ex} {p : Bool} (hp : kM (.bin o a b) 0 = p) (h1 : 1 ≤ o ∧ o ≤ 17) (h2 : 1 ≤ a.op ∧ a.op ≤ 17) : CallA Try.prog cfg 117 [.agg [.int .i64 o, .int .i64 0, .str ByteArray.empty, .vec 2 (q9 a ++ q9 b)], .int .i64 0] h (fun y' h' => y' = .bool p ∧ h' = h) := by
  subst hp; exact yU h1 h2
theorem J6 {h : c6} {o : Int} {a b : Ex} {p : Bool} (hp : kM (.bin o a b) 1 = p) (h1 : 1 ≤ o ∧ o ≤ 17) (h2 : 1 ≤ b.op ∧ b.op ≤ 17) : CallA Try.prog cfg 117 [.agg [.int .i64 o, .int .i64 0, .str ByteArray.empty, .vec 2 (q9 a ++ q9 b)], .int .i64 1] h (fun y' h' => y' = .bool p ∧ h' = h) := by
  subst hp; exact sH h1 h2
attribute [local go_sem] j7 rd lS v9 j8 bI cQ n5 Int.natCast_nonneg Int.natCast_inj List.length_map wrap64 P7 wrapU bW I7 yJ A9 I8 wU max2 kP mx6 mx3 wB aH eP cV bN iM iN lH eq_mk lI pO tX Nat.reduceMul
theorem wC {h : c6} (k : Int) : CallA Try.prog cfg 114 [.int .i64 k] h (fun y' h' => y' = .tup [.vec (sgS k).length (aC (sgS k)), .vec (sgO k).length (l6 (sgO k))] ∧ h' = h) := by
  refine .b fn114 ntm114 ?_
  refine c22z ?_
  refine .z ?_
  refine .spl 5 rfl rfl (fun e1 => ?_) (fun e1 => ?_)
  ·try simp only [e1]
   have qe1 := fact e1
   refine c108z ?_
   exact .ret (.ex (hf := t27) (hq := t82))
  try simp only [e1]
  have qe1 := fact e1
  refine c14z ?_
  refine .spl 9 rfl rfl (fun e2 => ?_) (fun e2 => ?_)
  ·try simp only [e2]
   have qe2 := fact e2
   refine c67z ?_
   exact .ret (.ex (hf := t27) (hq := t82))
  try simp only [e2]
  have qe2 := fact e2
  refine c14z ?_
  refine .spl 13 rfl rfl (fun e3 => ?_) (fun e3 => ?_)
  ·try simp only [e3]
   have qe3 := fact e3
   refine c67z ?_
   exact .ret (.ex (hf := t27) (hq := t82))
  try simp only [e3]
  have qe3 := fact e3
  refine .F ?_
  refine .c7 [4] ?_
  refine .z ?_
  refine .spl 17 rfl rfl (fun e4 => ?_) (fun e4 => ?_)
  ·try simp only [e4]
   have qe4 := fact e4
   refine c108z ?_
   exact .ret (.ex (hf := t27) (hq := t82))
  try simp only [e4]
  have qe4 := fact e4
  refine c13z ?_
  refine .z ?_
  exact .ret (.ex (hf := t27) (hq := t82))
theorem c_text1 {h : c6} (n : Int) (h0 : 0 ≤ n) (h1 : n < 4611686018427387904) : CallA Try.prog cfg 110 [.agg (q9 (.leaf 1 n ByteArray.empty))] h (fun y' h' => y' = .str (cD (.leaf 1 n ByteArray.empty)) ∧ h' = h) := by
  refine .b A1 rT ?_
  refine c78z ?_
  refine c49z ?_
  refine c155z ?_
  refine .T ?_
  refine c25z ?_
  refine .ca rfl rfl (GK _ (by omega) (by omega)) ?_
  refine .n ?_
  exact .ret (.ex (hq := by (rw [A5, if_neg (by omega)]; rfl)))
theorem c_text2 {h : c6} (n : Int) (s : BA) : CallA Try.prog cfg 110 [.agg (q9 (.leaf 2 n s))] h (fun y' h' => y' = .str (cD (.leaf 2 n s)) ∧ h' = h) := by
  refine .b A1 rT ?_
  refine c78z ?_
  refine c49z ?_
  refine c155z ?_
  refine c117z ?_
  refine .c7 [1] ?_
  refine .z ?_
  exact .ret (.ex (hq := by rfl))
theorem c_textU {h : c6} (o : Int) (a : Ex) (ho : o = 3 ∨ o = 4) (hga : 1 ≤ a.op ∧ a.op ≤ 17) (iha : ∀ (h : c6), CallA Try.prog cfg 110 [.agg (q9 a)] h (fun y' h' => y' = .str (cD a) ∧ h' = h)) (hsa : (cD a).size < 1000000) : CallA Try.prog cfg 110 [.agg (q9 (.un o a))] h (fun y' h' => y' = .str (cD (.un o a)) ∧ h' = h) := by
  refine .b A1 rT ?_
  refine c78z ?_
  refine c8.rounds 2 ?_
  refine c81z ?_
  refine .ca rfl rfl (iha _) ?_
  refine c99z ?_
  refine .ca rfl rfl (c_innU rfl (by omega) hga) ?_
  refine .nil ?_
  refine .spl 24 rfl rfl (fun e1 => ?_) (fun e1 => ?_)
  ·try simp only [e1]
   have qe1 := fact e1
   refine c116z ?_
   refine c37z ?_
   refine c155z ?_
   refine .spl 32 rfl rfl (fun e2 => by exfalso; first | omega | (simp only [beq_iff_eq, bne_iff_ne, decide_eq_true_eq, decide_eq_false_iff_not, beq_eq_false_iff_ne, ne_eq, bne_eq_false_iff_eq] at e2; omega) | (simp at e2; omega) | (simp at e2; done)) (fun e2 => ?_)
   try simp only [e2]
   have qe2 := fact e2
   refine c14z ?_
   refine .spl 39 rfl rfl (fun e3 => by exfalso; first | omega | (simp only [beq_iff_eq, bne_iff_ne, decide_eq_true_eq, decide_eq_false_iff_not, beq_eq_false_iff_ne, ne_eq, bne_eq_false_iff_eq] at e3; omega) | (simp at e3; omega) | (simp at e3; done)) (fun e3 => ?_)
   try simp only [e3]
   have qe3 := fact e3
   refine .F ?_
   refine c56z ?_
   refine .spl 45 rfl rfl (fun e4 => ?_) (fun e4 => ?_)
   ·try simp only [e4]
    have qe4 := fact e4
    refine c108z ?_
    exact .ret (.ex (hq := by (simp only [cD, par]; simp_all)))
   try simp only [e4]
   have qe4 := fact e4
   refine c14z ?_
   refine .spl 53 rfl rfl (fun e5 => ?_) (fun e5 => by exfalso; first | omega | (simp only [beq_iff_eq, bne_iff_ne, decide_eq_true_eq, decide_eq_false_iff_not, beq_eq_false_iff_ne, ne_eq, bne_eq_false_iff_eq] at e5; omega) | (simp at e5; omega) | (simp at e5; done))
   try simp only [e5]
   have qe5 := fact e5
   refine .T ?_
   refine c135z ?_
   exact .ret (.ex (hq := by (simp only [cD, par]; simp_all)))
  try simp only [e1]
  have qe1 := fact e1
  refine c4z ?_
  refine c86z ?_
  refine c37z ?_
  refine c155z ?_
  refine .spl 32 rfl rfl (fun e6 => by exfalso; first | omega | (simp only [beq_iff_eq, bne_iff_ne, decide_eq_true_eq, decide_eq_false_iff_not, beq_eq_false_iff_ne, ne_eq, bne_eq_false_iff_eq] at e6; omega) | (simp at e6; omega) | (simp at e6; done)) (fun e6 => ?_)
  try simp only [e6]
  have qe6 := fact e6
  refine c14z ?_
  refine .spl 39 rfl rfl (fun e7 => by exfalso; first | omega | (simp only [beq_iff_eq, bne_iff_ne, decide_eq_true_eq, decide_eq_false_iff_not, beq_eq_false_iff_ne, ne_eq, bne_eq_false_iff_eq] at e7; omega) | (simp at e7; omega) | (simp at e7; done)) (fun e7 => ?_)
  try simp only [e7]
  have qe7 := fact e7
  refine .F ?_
  refine c56z ?_
  refine .spl 45 rfl rfl (fun e8 => ?_) (fun e8 => ?_)
  ·try simp only [e8]
   have qe8 := fact e8
   refine c108z ?_
   exact .ret (.ex (hq := by (simp only [cD, par]; simp_all)))
  try simp only [e8]
  have qe8 := fact e8
  refine c14z ?_
  refine .spl 53 rfl rfl (fun e9 => ?_) (fun e9 => by exfalso; first | omega | (simp only [beq_iff_eq, bne_iff_ne, decide_eq_true_eq, decide_eq_false_iff_not, beq_eq_false_iff_ne, ne_eq, bne_eq_false_iff_eq] at e9; omega) | (simp at e9; omega) | (simp at e9; done))
  try simp only [e9]
  have qe9 := fact e9
  refine .T ?_
  refine c135z ?_
  exact .ret (.ex (hq := by (simp only [cD, par]; simp_all)))
theorem AJ {h : c6} (o : Int) (a b : Ex) (ho : 5 ≤ o ∧ o ≤ 17) (hga : 1 ≤ a.op ∧ a.op ≤ 17) (hgb : 1 ≤ b.op ∧ b.op ≤ 17) (hp : kM (.bin o a b) 0 = true) (hq : kM (.bin o a b) 1 = true) (iha : ∀ (h : c6), CallA Try.prog cfg 110 [.agg (q9 a)] h (fun y' h' => y' = .str (cD a) ∧ h' = h)) (hsa : (cD a).size < 1000000) (ihb : ∀ (h : c6), CallA Try.prog cfg 110 [.agg (q9 b)] h (fun y' h' => y' = .str (cD b) ∧ h' = h)) (hsb : (cD b).size < 1000000) : CallA Try.prog cfg 110 [.agg (q9 (.bin o a b))] h (fun y' h' => y' = .str (cD (.bin o a b)) ∧ h' = h) := by
  refine .b A1 rT ?_
  have hst := qW ho
  have hsg := GU hst.1 hst.2
  have hsa2 := GV ho
  have hse := (rX ho).2
  refine c78z ?_
  refine c130z ?_
  refine .ca rfl rfl (iha _) ?_
  refine c99z ?_
  refine .ca rfl rfl (J5 hp (by omega) hga) ?_
  refine .nil ?_
  refine c116z ?_
  refine c81z ?_
  refine .ca rfl rfl (ihb _) ?_
  refine c99z ?_
  refine .ca rfl rfl (J6 hq (by omega) hgb) ?_
  refine .nil ?_
  refine c116z ?_
  refine c37z ?_
  refine c155z ?_
  refine .spl 32 rfl rfl (fun e1 => by exfalso; first | omega | (simp only [beq_iff_eq, bne_iff_ne, decide_eq_true_eq, decide_eq_false_iff_not, beq_eq_false_iff_ne, ne_eq, bne_eq_false_iff_eq] at e1; omega) | (simp at e1; omega) | (simp at e1; done)) (fun e1 => ?_)
  try simp only [e1]
  have qe1 := fact e1
  refine c14z ?_
  refine .spl 39 rfl rfl (fun e2 => by exfalso; first | omega | (simp only [beq_iff_eq, bne_iff_ne, decide_eq_true_eq, decide_eq_false_iff_not, beq_eq_false_iff_ne, ne_eq, bne_eq_false_iff_eq] at e2; omega) | (simp at e2; omega) | (simp at e2; done)) (fun e2 => ?_)
  try simp only [e2]
  have qe2 := fact e2
  refine .F ?_
  refine c56z ?_
  refine .spl 45 rfl rfl (fun e3 => by exfalso; first | omega | (simp only [beq_iff_eq, bne_iff_ne, decide_eq_true_eq, decide_eq_false_iff_not, beq_eq_false_iff_ne, ne_eq, bne_eq_false_iff_eq] at e3; omega) | (simp at e3; omega) | (simp at e3; done)) (fun e3 => ?_)
  try simp only [e3]
  have qe3 := fact e3
  refine c14z ?_
  refine .spl 53 rfl rfl (fun e4 => by exfalso; first | omega | (simp only [beq_iff_eq, bne_iff_ne, decide_eq_true_eq, decide_eq_false_iff_not, beq_eq_false_iff_ne, ne_eq, bne_eq_false_iff_eq] at e4; omega) | (simp at e4; omega) | (simp at e4; done)) (fun e4 => ?_)
  try simp only [e4]
  have qe4 := fact e4
  refine c13z ?_
  refine c101z ?_
  refine .ca rfl rfl (u0 _ (by omega) (by omega)) ?_
  refine .ca rfl rfl (wC _) ?_
  refine .n ?_
  refine c12z ?_
  refine .iB (fun m st => ∃ (i : Nat), (m = (sgO (fZ o)).length - i ∧ ((∀ d, d < i → (sgO (fZ o)).getD d 0 ≠ o) ∧ i ≤ (sgO (fZ o)).length)) ∧ st = ⟨mkS 95 [(1, AV.ptr h.length 0 0), (3, AV.own (h.length + 2) 1 0 2), (6, AV.vec (sgS (fZ o)).length (aC (sgS (fZ o)))), (7, AV.vec (sgO (fZ o)).length (l6 (sgO (fZ o)))), (8, AV.int .i64 ((i : Nat) : Int))], h ++ [⟨0, false, 51, 4, [.int .i64 o, .int .i64 0, .str ByteArray.empty, .vec 2 (q9 a ++ q9 b)], 0⟩, ⟨0, false, 9, 1, [.str (⟨#[40]⟩ ++ cD a ++ ⟨#[41]⟩)], 0⟩, ⟨1, false, 9, 1, [.str (⟨#[40]⟩ ++ cD a ++ ⟨#[41]⟩), .str (⟨#[40]⟩ ++ cD b ++ ⟨#[41]⟩)], 0⟩, ⟨0, false, 9, 1, [.str (⟨#[40]⟩ ++ cD b ++ ⟨#[41]⟩)], 0⟩]⟩) _ (.v ⟨0, ⟨rfl, ⟨by intro d hd; omega, by omega⟩⟩, rfl⟩) ?_
  rintro m sl h' ⟨i, ⟨hm, ⟨hI, hi⟩⟩, hst⟩
  obtain ⟨rfl, rfl⟩ := St.mk.inj hst
  refine c0z ?_
  refine .spl 71 rfl rfl (fun e5 => ?_) (fun e5 => ?_)
  ·try simp only [e5]
   have qe5 := fact e5
   refine c11z ?_
   refine c104z ?_
   refine .spl 80 rfl rfl (fun e6 => ?_) (fun e6 => ?_)
   ·try simp only [e6]
    have qe6 := fact e6
    refine .T ?_
    refine .c7 [3, 6, 8] ?_
    have hsi := hsa2 i (by omega) (by assumption)
    have hss : ((sgS (fZ o)).getD i ByteArray.empty).size ≤ 2 := by rw [hsi]; exact hse
    refine c59z ?_
    refine .n [] ?_
    exact .ret (.ex (hq := t99))
   try simp only [e6]
   have qe6 := fact e6
   refine c170z ?_
   refine .rz ?_
   exact ⟨_, by omega, .v ⟨(i + 1), ⟨rfl, ⟨J4 hI (by assumption), by omega⟩⟩, rfl⟩⟩
  try simp only [e5]
  have qe5 := fact e5
  refine c3z ?_
  exfalso; exact GW ho (fun d hd => hI d (by omega))
theorem AK {h : c6} (o : Int) (a b : Ex) (ho : 5 ≤ o ∧ o ≤ 17) (hga : 1 ≤ a.op ∧ a.op ≤ 17) (hgb : 1 ≤ b.op ∧ b.op ≤ 17) (hp : kM (.bin o a b) 0 = true) (hq : kM (.bin o a b) 1 = false) (iha : ∀ (h : c6), CallA Try.prog cfg 110 [.agg (q9 a)] h (fun y' h' => y' = .str (cD a) ∧ h' = h)) (hsa : (cD a).size < 1000000) (ihb : ∀ (h : c6), CallA Try.prog cfg 110 [.agg (q9 b)] h (fun y' h' => y' = .str (cD b) ∧ h' = h)) (hsb : (cD b).size < 1000000) : CallA Try.prog cfg 110 [.agg (q9 (.bin o a b))] h (fun y' h' => y' = .str (cD (.bin o a b)) ∧ h' = h) := by
  refine .b A1 rT ?_
  have hst := qW ho
  have hsg := GU hst.1 hst.2
  have hsa2 := GV ho
  have hse := (rX ho).2
  refine c78z ?_
  refine c130z ?_
  refine .ca rfl rfl (iha _) ?_
  refine c99z ?_
  refine .ca rfl rfl (J5 hp (by omega) hga) ?_
  refine .nil ?_
  refine c116z ?_
  refine c81z ?_
  refine .ca rfl rfl (ihb _) ?_
  refine c99z ?_
  refine .ca rfl rfl (J6 hq (by omega) hgb) ?_
  refine .nil ?_
  refine c4z ?_
  refine c86z ?_
  refine c37z ?_
  refine c155z ?_
  refine .spl 32 rfl rfl (fun e1 => by exfalso; first | omega | (simp only [beq_iff_eq, bne_iff_ne, decide_eq_true_eq, decide_eq_false_iff_not, beq_eq_false_iff_ne, ne_eq, bne_eq_false_iff_eq] at e1; omega) | (simp at e1; omega) | (simp at e1; done)) (fun e1 => ?_)
  try simp only [e1]
  have qe1 := fact e1
  refine c14z ?_
  refine .spl 39 rfl rfl (fun e2 => by exfalso; first | omega | (simp only [beq_iff_eq, bne_iff_ne, decide_eq_true_eq, decide_eq_false_iff_not, beq_eq_false_iff_ne, ne_eq, bne_eq_false_iff_eq] at e2; omega) | (simp at e2; omega) | (simp at e2; done)) (fun e2 => ?_)
  try simp only [e2]
  have qe2 := fact e2
  refine .F ?_
  refine c56z ?_
  refine .spl 45 rfl rfl (fun e3 => by exfalso; first | omega | (simp only [beq_iff_eq, bne_iff_ne, decide_eq_true_eq, decide_eq_false_iff_not, beq_eq_false_iff_ne, ne_eq, bne_eq_false_iff_eq] at e3; omega) | (simp at e3; omega) | (simp at e3; done)) (fun e3 => ?_)
  try simp only [e3]
  have qe3 := fact e3
  refine c14z ?_
  refine .spl 53 rfl rfl (fun e4 => by exfalso; first | omega | (simp only [beq_iff_eq, bne_iff_ne, decide_eq_true_eq, decide_eq_false_iff_not, beq_eq_false_iff_ne, ne_eq, bne_eq_false_iff_eq] at e4; omega) | (simp at e4; omega) | (simp at e4; done)) (fun e4 => ?_)
  try simp only [e4]
  have qe4 := fact e4
  refine c13z ?_
  refine c101z ?_
  refine .ca rfl rfl (u0 _ (by omega) (by omega)) ?_
  refine .ca rfl rfl (wC _) ?_
  refine .n ?_
  refine c12z ?_
  refine .iB (fun m st => ∃ (i : Nat), (m = (sgO (fZ o)).length - i ∧ ((∀ d, d < i → (sgO (fZ o)).getD d 0 ≠ o) ∧ i ≤ (sgO (fZ o)).length)) ∧ st = ⟨mkS 95 [(1, AV.ptr h.length 0 0), (3, AV.own (h.length + 2) 1 0 2), (6, AV.vec (sgS (fZ o)).length (aC (sgS (fZ o)))), (7, AV.vec (sgO (fZ o)).length (l6 (sgO (fZ o)))), (8, AV.int .i64 ((i : Nat) : Int))], h ++ [⟨0, false, 51, 4, [.int .i64 o, .int .i64 0, .str ByteArray.empty, .vec 2 (q9 a ++ q9 b)], 0⟩, ⟨0, false, 9, 1, [.str (⟨#[40]⟩ ++ cD a ++ ⟨#[41]⟩)], 0⟩, ⟨1, false, 9, 1, [.str (⟨#[40]⟩ ++ cD a ++ ⟨#[41]⟩), .str (cD b)], 0⟩, ⟨0, false, 9, 1, [.str (cD b)], 0⟩]⟩) _ (.v ⟨0, ⟨rfl, ⟨by intro d hd; omega, by omega⟩⟩, rfl⟩) ?_
  rintro m sl h' ⟨i, ⟨hm, ⟨hI, hi⟩⟩, hst⟩
  obtain ⟨rfl, rfl⟩ := St.mk.inj hst
  refine c0z ?_
  refine .spl 71 rfl rfl (fun e5 => ?_) (fun e5 => ?_)
  ·try simp only [e5]
   have qe5 := fact e5
   refine c11z ?_
   refine c104z ?_
   refine .spl 80 rfl rfl (fun e6 => ?_) (fun e6 => ?_)
   ·try simp only [e6]
    have qe6 := fact e6
    refine .T ?_
    refine .c7 [3, 6, 8] ?_
    have hsi := hsa2 i (by omega) (by assumption)
    have hss : ((sgS (fZ o)).getD i ByteArray.empty).size ≤ 2 := by rw [hsi]; exact hse
    refine c59z ?_
    refine .n [] ?_
    exact .ret (.ex (hq := t99))
   try simp only [e6]
   have qe6 := fact e6
   refine c170z ?_
   refine .rz ?_
   exact ⟨_, by omega, .v ⟨(i + 1), ⟨rfl, ⟨J4 hI (by assumption), by omega⟩⟩, rfl⟩⟩
  try simp only [e5]
  have qe5 := fact e5
  refine c3z ?_
  exfalso; exact GW ho (fun d hd => hI d (by omega))
theorem AL {h : c6} (o : Int) (a b : Ex) (ho : 5 ≤ o ∧ o ≤ 17) (hga : 1 ≤ a.op ∧ a.op ≤ 17) (hgb : 1 ≤ b.op ∧ b.op ≤ 17) (hp : kM (.bin o a b) 0 = false) (hq : kM (.bin o a b) 1 = true) (iha : ∀ (h : c6), CallA Try.prog cfg 110 [.agg (q9 a)] h (fun y' h' => y' = .str (cD a) ∧ h' = h)) (hsa : (cD a).size < 1000000) (ihb : ∀ (h : c6), CallA Try.prog cfg 110 [.agg (q9 b)] h (fun y' h' => y' = .str (cD b) ∧ h' = h)) (hsb : (cD b).size < 1000000) : CallA Try.prog cfg 110 [.agg (q9 (.bin o a b))] h (fun y' h' => y' = .str (cD (.bin o a b)) ∧ h' = h) := by
  refine .b A1 rT ?_
  have hst := qW ho
  have hsg := GU hst.1 hst.2
  have hsa2 := GV ho
  have hse := (rX ho).2
  refine c78z ?_
  refine c130z ?_
  refine .ca rfl rfl (iha _) ?_
  refine c99z ?_
  refine .ca rfl rfl (J5 hp (by omega) hga) ?_
  refine .nil ?_
  refine c4z ?_
  refine c86z ?_
  refine c81z ?_
  refine .ca rfl rfl (ihb _) ?_
  refine c99z ?_
  refine .ca rfl rfl (J6 hq (by omega) hgb) ?_
  refine .nil ?_
  refine c116z ?_
  refine c37z ?_
  refine c155z ?_
  refine .spl 32 rfl rfl (fun e1 => by exfalso; first | omega | (simp only [beq_iff_eq, bne_iff_ne, decide_eq_true_eq, decide_eq_false_iff_not, beq_eq_false_iff_ne, ne_eq, bne_eq_false_iff_eq] at e1; omega) | (simp at e1; omega) | (simp at e1; done)) (fun e1 => ?_)
  try simp only [e1]
  have qe1 := fact e1
  refine c14z ?_
  refine .spl 39 rfl rfl (fun e2 => by exfalso; first | omega | (simp only [beq_iff_eq, bne_iff_ne, decide_eq_true_eq, decide_eq_false_iff_not, beq_eq_false_iff_ne, ne_eq, bne_eq_false_iff_eq] at e2; omega) | (simp at e2; omega) | (simp at e2; done)) (fun e2 => ?_)
  try simp only [e2]
  have qe2 := fact e2
  refine .F ?_
  refine c56z ?_
  refine .spl 45 rfl rfl (fun e3 => by exfalso; first | omega | (simp only [beq_iff_eq, bne_iff_ne, decide_eq_true_eq, decide_eq_false_iff_not, beq_eq_false_iff_ne, ne_eq, bne_eq_false_iff_eq] at e3; omega) | (simp at e3; omega) | (simp at e3; done)) (fun e3 => ?_)
  try simp only [e3]
  have qe3 := fact e3
  refine c14z ?_
  refine .spl 53 rfl rfl (fun e4 => by exfalso; first | omega | (simp only [beq_iff_eq, bne_iff_ne, decide_eq_true_eq, decide_eq_false_iff_not, beq_eq_false_iff_ne, ne_eq, bne_eq_false_iff_eq] at e4; omega) | (simp at e4; omega) | (simp at e4; done)) (fun e4 => ?_)
  try simp only [e4]
  have qe4 := fact e4
  refine c13z ?_
  refine c101z ?_
  refine .ca rfl rfl (u0 _ (by omega) (by omega)) ?_
  refine .ca rfl rfl (wC _) ?_
  refine .n ?_
  refine c12z ?_
  refine .iB (fun m st => ∃ (i : Nat), (m = (sgO (fZ o)).length - i ∧ ((∀ d, d < i → (sgO (fZ o)).getD d 0 ≠ o) ∧ i ≤ (sgO (fZ o)).length)) ∧ st = ⟨mkS 95 [(1, AV.ptr h.length 0 0), (3, AV.own (h.length + 2) 1 0 2), (6, AV.vec (sgS (fZ o)).length (aC (sgS (fZ o)))), (7, AV.vec (sgO (fZ o)).length (l6 (sgO (fZ o)))), (8, AV.int .i64 ((i : Nat) : Int))], h ++ [⟨0, false, 51, 4, [.int .i64 o, .int .i64 0, .str ByteArray.empty, .vec 2 (q9 a ++ q9 b)], 0⟩, ⟨0, false, 9, 1, [.str (cD a)], 0⟩, ⟨1, false, 9, 1, [.str (cD a), .str (⟨#[40]⟩ ++ cD b ++ ⟨#[41]⟩)], 0⟩, ⟨0, false, 9, 1, [.str (⟨#[40]⟩ ++ cD b ++ ⟨#[41]⟩)], 0⟩]⟩) _ (.v ⟨0, ⟨rfl, ⟨by intro d hd; omega, by omega⟩⟩, rfl⟩) ?_
  rintro m sl h' ⟨i, ⟨hm, ⟨hI, hi⟩⟩, hst⟩
  obtain ⟨rfl, rfl⟩ := St.mk.inj hst
  refine c0z ?_
  refine .spl 71 rfl rfl (fun e5 => ?_) (fun e5 => ?_)
  ·try simp only [e5]
   have qe5 := fact e5
   refine c11z ?_
   refine c104z ?_
   refine .spl 80 rfl rfl (fun e6 => ?_) (fun e6 => ?_)
   ·try simp only [e6]
    have qe6 := fact e6
    refine .T ?_
    refine .c7 [3, 6, 8] ?_
    have hsi := hsa2 i (by omega) (by assumption)
    have hss : ((sgS (fZ o)).getD i ByteArray.empty).size ≤ 2 := by rw [hsi]; exact hse
    refine c59z ?_
    refine .n [] ?_
    exact .ret (.ex (hq := t99))
   try simp only [e6]
   have qe6 := fact e6
   refine c170z ?_
   refine .rz ?_
   exact ⟨_, by omega, .v ⟨(i + 1), ⟨rfl, ⟨J4 hI (by assumption), by omega⟩⟩, rfl⟩⟩
  try simp only [e5]
  have qe5 := fact e5
  refine c3z ?_
  exfalso; exact GW ho (fun d hd => hI d (by omega))
theorem AM {h : c6} (o : Int) (a b : Ex) (ho : 5 ≤ o ∧ o ≤ 17) (hga : 1 ≤ a.op ∧ a.op ≤ 17) (hgb : 1 ≤ b.op ∧ b.op ≤ 17) (hp : kM (.bin o a b) 0 = false) (hq : kM (.bin o a b) 1 = false) (iha : ∀ (h : c6), CallA Try.prog cfg 110 [.agg (q9 a)] h (fun y' h' => y' = .str (cD a) ∧ h' = h)) (hsa : (cD a).size < 1000000) (ihb : ∀ (h : c6), CallA Try.prog cfg 110 [.agg (q9 b)] h (fun y' h' => y' = .str (cD b) ∧ h' = h)) (hsb : (cD b).size < 1000000) : CallA Try.prog cfg 110 [.agg (q9 (.bin o a b))] h (fun y' h' => y' = .str (cD (.bin o a b)) ∧ h' = h) := by
  refine .b A1 rT ?_
  have hst := qW ho
  have hsg := GU hst.1 hst.2
  have hsa2 := GV ho
  have hse := (rX ho).2
  refine c78z ?_
  refine c130z ?_
  refine .ca rfl rfl (iha _) ?_
  refine c99z ?_
  refine .ca rfl rfl (J5 hp (by omega) hga) ?_
  refine .nil ?_
  refine c4z ?_
  refine c86z ?_
  refine c81z ?_
  refine .ca rfl rfl (ihb _) ?_
  refine c99z ?_
  refine .ca rfl rfl (J6 hq (by omega) hgb) ?_
  refine .nil ?_
  refine c4z ?_
  refine c86z ?_
  refine c37z ?_
  refine c155z ?_
  refine .spl 32 rfl rfl (fun e1 => by exfalso; first | omega | (simp only [beq_iff_eq, bne_iff_ne, decide_eq_true_eq, decide_eq_false_iff_not, beq_eq_false_iff_ne, ne_eq, bne_eq_false_iff_eq] at e1; omega) | (simp at e1; omega) | (simp at e1; done)) (fun e1 => ?_)
  try simp only [e1]
  have qe1 := fact e1
  refine c14z ?_
  refine .spl 39 rfl rfl (fun e2 => by exfalso; first | omega | (simp only [beq_iff_eq, bne_iff_ne, decide_eq_true_eq, decide_eq_false_iff_not, beq_eq_false_iff_ne, ne_eq, bne_eq_false_iff_eq] at e2; omega) | (simp at e2; omega) | (simp at e2; done)) (fun e2 => ?_)
  try simp only [e2]
  have qe2 := fact e2
  refine .F ?_
  refine c56z ?_
  refine .spl 45 rfl rfl (fun e3 => by exfalso; first | omega | (simp only [beq_iff_eq, bne_iff_ne, decide_eq_true_eq, decide_eq_false_iff_not, beq_eq_false_iff_ne, ne_eq, bne_eq_false_iff_eq] at e3; omega) | (simp at e3; omega) | (simp at e3; done)) (fun e3 => ?_)
  try simp only [e3]
  have qe3 := fact e3
  refine c14z ?_
  refine .spl 53 rfl rfl (fun e4 => by exfalso; first | omega | (simp only [beq_iff_eq, bne_iff_ne, decide_eq_true_eq, decide_eq_false_iff_not, beq_eq_false_iff_ne, ne_eq, bne_eq_false_iff_eq] at e4; omega) | (simp at e4; omega) | (simp at e4; done)) (fun e4 => ?_)
  try simp only [e4]
  have qe4 := fact e4
  refine c13z ?_
  refine c101z ?_
  refine .ca rfl rfl (u0 _ (by omega) (by omega)) ?_
  refine .ca rfl rfl (wC _) ?_
  refine .n ?_
  refine c12z ?_
  refine .iB (fun m st => ∃ (i : Nat), (m = (sgO (fZ o)).length - i ∧ ((∀ d, d < i → (sgO (fZ o)).getD d 0 ≠ o) ∧ i ≤ (sgO (fZ o)).length)) ∧ st = ⟨mkS 95 [(1, AV.ptr h.length 0 0), (3, AV.own (h.length + 2) 1 0 2), (6, AV.vec (sgS (fZ o)).length (aC (sgS (fZ o)))), (7, AV.vec (sgO (fZ o)).length (l6 (sgO (fZ o)))), (8, AV.int .i64 ((i : Nat) : Int))], h ++ [⟨0, false, 51, 4, [.int .i64 o, .int .i64 0, .str ByteArray.empty, .vec 2 (q9 a ++ q9 b)], 0⟩, ⟨0, false, 9, 1, [.str (cD a)], 0⟩, ⟨1, false, 9, 1, [.str (cD a), .str (cD b)], 0⟩, ⟨0, false, 9, 1, [.str (cD b)], 0⟩]⟩) _ (.v ⟨0, ⟨rfl, ⟨by intro d hd; omega, by omega⟩⟩, rfl⟩) ?_
  rintro m sl h' ⟨i, ⟨hm, ⟨hI, hi⟩⟩, hst⟩
  obtain ⟨rfl, rfl⟩ := St.mk.inj hst
  refine c0z ?_
  refine .spl 71 rfl rfl (fun e5 => ?_) (fun e5 => ?_)
  ·try simp only [e5]
   have qe5 := fact e5
   refine c11z ?_
   refine c104z ?_
   refine .spl 80 rfl rfl (fun e6 => ?_) (fun e6 => ?_)
   ·try simp only [e6]
    have qe6 := fact e6
    refine .T ?_
    refine .c7 [3, 6, 8] ?_
    have hsi := hsa2 i (by omega) (by assumption)
    have hss : ((sgS (fZ o)).getD i ByteArray.empty).size ≤ 2 := by rw [hsi]; exact hse
    refine c59z ?_
    refine .n [] ?_
    exact .ret (.ex (hq := t99))
   try simp only [e6]
   have qe6 := fact e6
   refine c170z ?_
   refine .rz ?_
   exact ⟨_, by omega, .v ⟨(i + 1), ⟨rfl, ⟨J4 hI (by assumption), by omega⟩⟩, rfl⟩⟩
  try simp only [e5]
  have qe5 := fact e5
  refine c3z ?_
  exfalso; exact GW ho (fun d hd => hI d (by omega))
theorem c_textB {h : c6} (o : Int) (a b : Ex) (ho : 5 ≤ o ∧ o ≤ 17) (hga : 1 ≤ a.op ∧ a.op ≤ 17) (hgb : 1 ≤ b.op ∧ b.op ≤ 17) (iha : ∀ (h : c6), CallA Try.prog cfg 110 [.agg (q9 a)] h (fun y' h' => y' = .str (cD a) ∧ h' = h)) (hsa : (cD a).size < 1000000) (ihb : ∀ (h : c6), CallA Try.prog cfg 110 [.agg (q9 b)] h (fun y' h' => y' = .str (cD b) ∧ h' = h)) (hsb : (cD b).size < 1000000) : CallA Try.prog cfg 110 [.agg (q9 (.bin o a b))] h (fun y' h' => y' = .str (cD (.bin o a b)) ∧ h' = h) := by
  cases hp : kM (.bin o a b) 0 <;> cases hq : kM (.bin o a b) 1
  · exact AM o a b ho hga hgb hp hq iha hsa ihb hsb
  · exact AL o a b ho hga hgb hp hq iha hsa ihb hsb
  · exact AK o a b ho hga hgb hp hq iha hsa ihb hsb
  · exact AJ o a b ho hga hgb hp hq iha hsa ihb hsb
theorem B5 : ∀ {d : Nat}, d ≤ 3 → wT d < 1000000
  | 0, _ => by decide
  | 1, _ => by decide
  | 2, _ => by decide
  | 3, _ => by decide
theorem sJ {vars : List BA} (hv : Names vars) : ∀ {d : Nat} {e : Ex}, d ≤ 3 → GE vars d e → ∀ (h : c6), CallA Try.prog cfg 110 [.agg (q9 e)] h (fun y' h' => y' = .str (cD e) ∧ h' = h)
  | d, .leaf o n s, hd, hg, h => by
    rcases iX.1 hg with ⟨rfl, h1, h2, rfl⟩ | ⟨rfl, rfl, h1⟩
    · exact c_text1 n h1 h2
    · exact c_text2 0 s
  | 0, .un o a, hd, hg, h => hg.elim
  | 0, .bin o a b, hd, hg, h => hg.elim
  | d + 1, .un o a, hd, hg, h => c_textU o a hg.1 (GE.op hg.2) (sJ hv (by omega) hg.2) (Nat.lt_of_le_of_lt (cM hv hg.2).2 (B5 (by omega)))
  | d + 1, .bin o a b, hd, hg, h => c_textB o a b hg.1 (GE.op hg.2.1) (GE.op hg.2.2) (sJ hv (by omega) hg.2.1) (Nat.lt_of_le_of_lt (cM hv hg.2.1).2 (B5 (by omega))) (sJ hv (by omega) hg.2.2) (Nat.lt_of_le_of_lt (cM hv hg.2.2).2 (B5 (by omega)))
theorem AN {e : Ex} : m7 [e] = q9 e := by simp [m7]
theorem AO {h : c6} (x : BA) : CallA Try.prog cfg 112 [.agg [.str x, .vec 0 []]] h (fun y' h' => y' = .str x ∧ h' = h) := by
  refine .b fn112 JU ?_
  refine c79z ?_
  refine c108z ?_
  exact .ret (.ex (hq := by rfl))
theorem c_refT1 {h : c6} {vars : List BA} (hv : Names vars) (x : BA) (e : Ex) (hg : GE vars 1 e) (hx : x.size ≤ 16) : CallA Try.prog cfg 112 [.agg [.str x, .vec 1 (q9 e)]] h (fun y' h' => y' = .str (x ++ DN ++ cD e ++ DO) ∧ h' = h) := by
  refine .b fn112 JU ?_
  have hse := (cM hv hg).2
  have hb : wT 1 = 48 := rfl
  refine c79z ?_
  refine c4z ?_
  refine .ss z7 (mkP 11 [0, 1, 3, 0, 8, 24, 56, 120, 255, 511, 1023] []) ?_
  refine .k 7 [] ?_
  refine .ca rfl rfl (sJ hv (by omega) hg _) ?_
  refine .n [] ?_
  exact .ret (.ex (hq := by rfl))
theorem J7 {h : c6} {E : Env} {vars : List BA} (hE : qK E) (hv : Names vars) {r : Rf} (g : GR E vars r) : CallA Try.prog cfg 112 [.agg (zI r)] h (fun y' h' => y' = .str (DP r) ∧ h' = h) := by
  obtain ⟨x, idx⟩ := r
  rcases g with ⟨m, hm, hn, ⟨_, e, hi, he⟩ | ⟨_, hi⟩⟩ | ⟨p, hp, _, hn, hi⟩
  · have hx := z1 (hE.mn m hm)
    simp only at hn hi
    rw [← hn] at hx
    subst hi
    have := c_refT1 (h := h) hv x e he hx
    simp only [zI, List.length_singleton, AN]
    exact this
  · simp only at hi
    subst hi
    exact AO x
  · simp only at hi
    subst hi
    exact AO x
theorem GX {xs : List Ar} {i : Nat} (h : (xs.getD i dP).mu = true) (h0 : 0 < i) : eJ xs (i + 1) = eJ xs i ++ kN ++ bS ++ DP (xs.getD i dP).r := by rw [eJ, if_pos h, if_pos h0]
theorem GY {xs : List Ar} {i : Nat} (h : (xs.getD i dP).mu = true) (h0 : ¬ 0 < i) : eJ xs (i + 1) = eJ xs i ++ bS ++ DP (xs.getD i dP).r := by rw [eJ, if_pos h, if_neg h0]
theorem GZ {xs : List Ar} {i : Nat} (h : (xs.getD i dP).mu = false) (h0 : 0 < i) : eJ xs (i + 1) = eJ xs i ++ kN ++ cD (xs.getD i dP).e := by rw [eJ, if_neg (by rw [h]; decide), if_pos h0]
theorem HA {xs : List Ar} {i : Nat} (h : (xs.getD i dP).mu = false) (h0 : ¬ 0 < i) : eJ xs (i + 1) = eJ xs i ++ cD (xs.getD i dP).e := by rw [eJ, if_neg (by rw [h]; decide), if_neg h0]
theorem sK {a : Ar} : R7 a = [.bool a.mu, .str a.r.name, .vec a.r.idx.length (m7 a.r.idx), .int .i64 a.e.op, .int .i64 a.e.num, .str a.e.name, .vec a.e.args.length (m7 a.e.args)] := by rw [R7, bR]
theorem HB {l : List Ar} {i : Nat} (h : i < l.length) : List.take 1 (List.drop (i * 7) (bJ l)) = [AV.bool (l.getD i dP).mu] := by
  have := congrArg (fun x => x.take 1) (rU h)
  simp only [List.take_take, sK] at this
  simpa using this
theorem read_ar {l : List Ar} {i : Nat} (h : i < l.length) : List.take 2 (List.drop (i * 7 + 1) (bJ l)) = zI (l.getD i dP).r := by
  have := congrArg (fun x => (x.drop 1).take 2) (rU h)
  simp only [sK, List.drop_take, List.take_take, List.drop_drop] at this
  simpa [zI] using this
theorem read_ae {l : List Ar} {i : Nat} (h : i < l.length) : List.take 4 (List.drop (i * 7 + 3) (bJ l)) = q9 (l.getD i dP).e := by
  have := congrArg (fun x => (x.drop 3).take 4) (rU h)
  simp only [sK, List.drop_take, List.take_take, List.drop_drop] at this
  rw [bR]
  simpa using this
theorem P9 {E : Env} {vars : List BA} (hE : qK E) (hv : Names vars) {xs : List Ar} (h : ∀ a ∈ xs, (a.mu = true ∧ GR E vars a.r) ∨ (a.mu = false ∧ GE vars 2 a.e)) (i : Nat) (hi : i ≤ xs.length) : (eJ xs i).size ≤ 1 + 112 * i := (vQ hE hv h i hi).2.1
theorem KM {E : Env} {vars : List BA} {xs : List Ar} (h : ∀ a ∈ xs, (a.mu = true ∧ GR E vars a.r) ∨ (a.mu = false ∧ GE vars 2 a.e)) {i : Nat} (hi : i < xs.length) : ((xs.getD i dP).mu = true → GR E vars (xs.getD i dP).r) ∧ ((xs.getD i dP).mu = false → GE vars 2 (xs.getD i dP).e) := by
  have hm := h _ (l7 (d := dP) hi)
  rcases hm with ⟨h1, h2⟩ | ⟨h1, h2⟩
  · exact ⟨fun _ => h2, fun h => absurd (h1.symm.trans h) (by decide)⟩
  · exact ⟨fun h => absurd (h1.symm.trans h) (by decide), fun _ => h2⟩
section
attribute [local go_sem] HB read_ar read_ae
theorem AP {h : c6} {E : Env} {vars : List BA} (hE : qK E) (hv : Names vars) (xs : List Ar) (ha : ∀ a ∈ xs, (a.mu = true ∧ GR E vars a.r) ∨ (a.mu = false ∧ GE vars 2 a.e)) (hl : xs.length ≤ 100) : CallA Try.prog cfg 111 [.vec xs.length (bJ xs)] h (fun y' h' => y' = .str (JY xs) ∧ h' = h) := by
  refine .b fn111 ntm111 ?_
  refine c78z ?_
  refine .iB (fun m st => ∃ (i : Nat), (m = xs.length - i ∧ i ≤ xs.length) ∧ st = ⟨mkS 39 [(0, AV.vec xs.length (bJ xs)), (3, AV.str (eJ xs i)), (4, AV.int .i64 ((i : Nat) : Int))], h⟩) _ (.v ⟨0, ⟨rfl, by omega⟩, rfl⟩ (hs := t22)) ?_
  rintro m sl h' ⟨i, ⟨hm, hi⟩, hst⟩
  obtain ⟨rfl, rfl⟩ := St.mk.inj hst
  have hsz := P9 hE hv ha i hi
  refine c0z ?_
  refine .spl 8 rfl rfl (fun e1 => ?_) (fun e1 => ?_)
  ·try simp only [e1]
   have qe1 := fact e1
   refine c11z ?_
   refine c0z ?_
   refine .spl 12 rfl rfl (fun e2 => ?_) (fun e2 => ?_)
   ·try simp only [e2]
    have qe2 := fact e2
    refine c64z ?_
    refine .c7 [0, 3, 4] ?_
    have har := KM ha (i := i) (by omega)
    refine .z ?_
    refine .spl 19 rfl rfl (fun e3 => ?_) (fun e3 => ?_)
    ·try simp only [e3]
     have qe3 := fact e3
     refine .T ?_
     have hrs := ((har.1 (by assumption)).pw hE hv).2
     refine .r ?_
     refine .e 7 ?_
     refine .ca rfl rfl (J7 hE hv (har.1 (by assumption))) ?_
     refine c45z ?_
     refine .c7 [0, 3, 4] ?_
     refine .rz ?_
     exact ⟨_, by omega, .v ⟨(i + 1), ⟨rfl, by omega⟩, rfl⟩ (hs := t22)⟩
    try simp only [e3]
    have qe3 := fact e3
    refine .F ?_
    have hes := (cM hv (har.2 (by assumption))).2
    have hb : wT 2 = 104 := rfl
    refine .r ?_
    refine .e 6 ?_
    refine .ca rfl rfl (sJ hv (by omega) (har.2 (by assumption)) _) ?_
    refine c45z ?_
    refine .c7 [0, 3, 4] ?_
    refine .rz ?_
    exact ⟨_, by omega, .v ⟨(i + 1), ⟨rfl, by omega⟩, rfl⟩ (hs := t22)⟩
   try simp only [e2]
   have qe2 := fact e2
   refine c4z ?_
   have har := KM ha (i := i) (by omega)
   refine .z ?_
   refine .spl 19 rfl rfl (fun e4 => ?_) (fun e4 => ?_)
   ·try simp only [e4]
    have qe4 := fact e4
    refine .T ?_
    refine .c7 [0, 3, 4] ?_
    have hrs := ((har.1 (by assumption)).pw hE hv).2
    refine .r ?_
    refine .e 7 ?_
    refine .ca rfl rfl (J7 hE hv (har.1 (by assumption))) ?_
    refine c45z ?_
    refine .c7 [0, 3, 4] ?_
    refine .rz ?_
    exact ⟨_, by omega, .v ⟨(i + 1), ⟨rfl, by omega⟩, rfl⟩ (hs := t22)⟩
   try simp only [e4]
   have qe4 := fact e4
   refine .F ?_
   refine .c7 [0, 3, 4] ?_
   have hes := (cM hv (har.2 (by assumption))).2
   have hb : wT 2 = 104 := rfl
   refine .r ?_
   refine .e 6 ?_
   refine .ca rfl rfl (sJ hv (by omega) (har.2 (by assumption)) _) ?_
   refine c45z ?_
   refine .c7 [0, 3, 4] ?_
   refine .rz ?_
   exact ⟨_, by omega, .v ⟨(i + 1), ⟨rfl, by omega⟩, rfl⟩ (hs := t22)⟩
  try simp only [e1]
  have qe1 := fact e1
  refine c3z ?_
  obtain rfl : i = xs.length := by omega
  change c8 ..
  refine c62z ?_
  exact ⟨[], _, (List.append_nil _).symm, by first | rfl | rfl, by rfl⟩
end
section
attribute [local go_sem] l3
theorem c_noE {h : c6} : CallA Try.prog cfg 88 [.agg (q9 l3)] h (fun y' h' => y' = .bool true ∧ h' = h) := by
  refine .b fn88 ntm88 ?_
  refine c52z ?_
  refine .k 8 [(3, 6)] ?_
  refine .k 8 [(8, 11), (13, 16)] ?_
  refine .m [(13, 16)] ?_
  exact .ret (.ex (hq := by rfl))
end
theorem c_noR {h : c6} : CallA Try.prog cfg 90 [.agg (zI m8)] h (fun y' h' => y' = .bool true ∧ h' = h) := by
  show CallA _ _ _ [.agg [.str ByteArray.empty, .vec 0 []]] _ _
  refine .b fn90 ntm90 ?_
  refine c52z ?_
  refine .k 8 [(3, 6)] ?_
  refine .n ?_
  exact .ret (.ex (hq := by rfl))
theorem KN {h : c6} (x : BA) (hx : isName (L8 x)) (hr : qT x = false) : CallA Try.prog cfg 89 [.agg [.str x, .vec 0 []]] h (fun y' h' => y' = .bool true ∧ h' = h) := by
  refine .b fn89 ntm89 ?_
  refine .z ?_
  refine c25z ?_
  refine .ca rfl rfl (lG _ hx hr) ?_
  refine .k 8 [(3, 6), (8, 11)] ?_
  refine .k 8 [(8, 11), (13, 16)] ?_
  refine .m [(3, 6), (8, 11)] ?_
  exact .ret (.ex (hq := by rfl))
theorem c_okR1 {h : c6} {vars : List BA} (hv : z9 vars) (x : BA) (hx : isName (L8 x)) (hr : qT x = false) (e : Ex) (hg : GE vars 1 e) : CallA Try.prog cfg 89 [.agg [.str x, .vec 1 (q9 e)]] h (fun y' h' => y' = .bool true ∧ h' = h) := by
  refine .b fn89 ntm89 ?_
  refine .z ?_
  refine c25z ?_
  refine .ca rfl rfl (lG _ hx hr) ?_
  refine .k 8 [(3, 6), (8, 11)] ?_
  refine .k 7 [(8, 11), (13, 16)] ?_
  refine .ca rfl rfl (J3 hv (by omega) e hg) ?_
  refine .m [(3, 6), (8, 11)] ?_
  exact .ret (.ex (hq := by rfl))
structure GRes (E : Env) : Prop where
  mn : ∀ m ∈ E.c4, qT m.name = false
  pn : ∀ p ∈ E.params, qT p.name = false
theorem HC {h : c6} {E : Env} {vars : List BA} (hE : qK E) (hR : GRes E) (hv : z9 vars) {r : Rf} (g : GR E vars r) : CallA Try.prog cfg 89 [.agg (zI r)] h (fun y' h' => y' = .bool true ∧ h' = h) := by
  obtain ⟨x, idx⟩ := r
  rcases g with ⟨m, hm, hn, ⟨_, e, hi, he⟩ | ⟨_, hi⟩⟩ | ⟨p, hp, _, hn, hi⟩
  · have h1 := hE.mn m hm
    have h2 := hR.mn m hm
    simp only at hn hi
    rw [← hn] at h1 h2
    subst hi
    have := c_okR1 (h := h) hv x h1 h2 e he
    simp only [zI, List.length_singleton, AN]
    exact this
  · have h1 := hE.mn m hm
    have h2 := hR.mn m hm
    simp only at hn hi
    rw [← hn] at h1 h2
    subst hi
    exact KN x h1 h2
  · have h1 := hE.pn p hp
    have h2 := hR.pn p hp
    simp only at hn hi
    rw [← hn] at h1 h2
    subst hi
    exact KN x h1 h2
end Go.Proofs.Ytbmaijdkebjnhaa
end
section
namespace Go.Un
open Go.Ab
theorem dG : ∀ s : Sl, s.len ≤ s.wt
 | .nil => Nat.le_refl _
 | .cons k n e r as1 th el rest => by
  have := dG rest
  simp only [Sl.len, Sl.wt]
  omega
section
variable {c : Core} {ps : List Pm} {blk : List BA → Int → Int → Int → Int → BR} {vs : List BA} {deep J l : Int}
theorem r_lock (h : (c5 c.L J 14).1 < 4) : o8 c ps blk vs deep J l = (row 5 ByteArray.empty l3 (r8 c ps vs (c5 c.L J 14).2).1 [] .nil .nil, vs, (r8 c ps vs (c5 c.L J 14).2).2, l) := by
 unfold o8 iL
 rw [if_pos h]
theorem HD (h0 : ¬ (c5 c.L J 14).1 < 4) (h : (c5 c.L J 14).1 < 7) : o8 c ps blk vs deep J l = (row 6 ByteArray.empty l3 (r8 c ps vs (c5 c.L J 14).2).1 [] .nil .nil, vs, (r8 c ps vs (c5 c.L J 14).2).2, l) := by
 unfold o8 iL
 rw [if_neg h0, if_pos h]
theorem r_var (h : (c5 c.L J 14).1 = 7) : o8 c ps blk vs deep J l = (row 1 (vnm l.toNat) (j0 c vs (c5 c.L J 14).2).1 m8 [] .nil .nil, vs ++ [vnm l.toNat], (j0 c vs (c5 c.L J 14).2).2, l) := by
 unfold o8 iL
 rw [if_neg (by omega), if_neg (by omega), if_pos h]
theorem HE (h : (c5 c.L J 14).1 = 8) (h2 : 0 < vs.length) : o8 c ps blk vs deep J l = (row 2 (vs.getD (c5 c.L (c5 c.L J 14).2 vs.length).1.toNat ByteArray.empty) (j0 c vs (c5 c.L (c5 c.L J 14).2 vs.length).2).1 m8 [] .nil .nil, vs, (j0 c vs (c5 c.L (c5 c.L J 14).2 vs.length).2).2, l) := by
 unfold o8 iL
 rw [if_neg (by omega), if_neg (by omega), if_neg (by omega), if_pos ⟨h, h2⟩]
theorem r_call (h : (c5 c.L J 14).1 = 9) : o8 c ps blk vs deep J l = (row 3 (c.fs.getD (c5 c.L (c5 c.L J 14).2 c.fs.length).1.toNat j4).name l3 m8 (z4 c ps vs (c.fs.getD (c5 c.L (c5 c.L J 14).2 c.fs.length).1.toNat j4).params (c5 c.L (c5 c.L J 14).2 c.fs.length).2).1 .nil .nil, vs,
   (z4 c ps vs (c.fs.getD (c5 c.L (c5 c.L J 14).2 c.fs.length).1.toNat j4).params (c5 c.L (c5 c.L J 14).2 c.fs.length).2).2, l) := by
 unfold o8 iL
 rw [if_neg (by omega), if_neg (by omega), if_neg (by omega), if_neg (by omega), if_pos (.inl h), if_neg (by omega)]
theorem r_go (h : (c5 c.L J 14).1 = 10) : o8 c ps blk vs deep J l = (row 4 (c.fs.getD (c5 c.L (c5 c.L J 14).2 c.fs.length).1.toNat j4).name l3 m8 (z4 c ps vs (c.fs.getD (c5 c.L (c5 c.L J 14).2 c.fs.length).1.toNat j4).params (c5 c.L (c5 c.L J 14).2 c.fs.length).2).1 .nil .nil, vs,
   (z4 c ps vs (c.fs.getD (c5 c.L (c5 c.L J 14).2 c.fs.length).1.toNat j4).params (c5 c.L (c5 c.L J 14).2 c.fs.length).2).2, l) := by
 unfold o8 iL
 rw [if_neg (by omega), if_neg (by omega), if_neg (by omega), if_neg (by omega), if_pos (.inr h), if_pos h]
theorem r_if (h : (c5 c.L J 14).1 = 11) (h2 : 0 < deep) {b d : BR} (hb : blk vs (deep - 1) 3 (j0 c vs (c5 c.L J 14).2).2 l = b) (h3 : (c5 c.L b.2.1 2).1 = 1) (hd : blk vs (deep - 1) 3 (c5 c.L b.2.1 2).2 b.2.2 = d) : o8 c ps blk vs deep J l = (row 7 ByteArray.empty (j0 c vs (c5 c.L J 14).2).1 m8 [] b.1 d.1, vs, d.2.1, d.2.2) := by
 unfold o8 iL
 rw [if_neg (by omega), if_neg (by omega), if_neg (by omega), if_neg (by omega), if_neg (by omega), if_pos ⟨h, h2⟩, hb]
 unfold ifK
 rw [if_pos h3, hd]
theorem r_if2 (h : (c5 c.L J 14).1 = 11) (h2 : 0 < deep) {b : BR} (hb : blk vs (deep - 1) 3 (j0 c vs (c5 c.L J 14).2).2 l = b) (h3 : ¬ (c5 c.L b.2.1 2).1 = 1) : o8 c ps blk vs deep J l = (row 7 ByteArray.empty (j0 c vs (c5 c.L J 14).2).1 m8 [] b.1 .nil, vs, (c5 c.L b.2.1 2).2, b.2.2) := by
 unfold o8 iL
 rw [if_neg (by omega), if_neg (by omega), if_neg (by omega), if_neg (by omega), if_neg (by omega), if_pos ⟨h, h2⟩, hb]
 unfold ifK
 rw [if_neg h3]
theorem r_while (h : (c5 c.L J 14).1 = 12) (h2 : 0 < deep) {b : BR} (hb : blk vs (deep - 1) 3 (j0 c vs (c5 c.L J 14).2).2 l = b) : o8 c ps blk vs deep J l = (row 8 ByteArray.empty (j0 c vs (c5 c.L J 14).2).1 m8 [] b.1 .nil, vs, b.2.1, b.2.2) := by
 unfold o8 iL
 rw [if_neg (by omega), if_neg (by omega), if_neg (by omega), if_neg (by omega), if_neg (by omega), if_neg (by omega), if_pos ⟨h, h2⟩, hb]
theorem r_ret (h : (c5 c.L J 14).1 = 13) (h2 : (c5 c.L (c5 c.L J 14).2 3).1 = 1) : o8 c ps blk vs deep J l = (row 9 ByteArray.empty l3 m8 [] .nil .nil, vs, (c5 c.L (c5 c.L J 14).2 3).2, l) := by
 unfold o8 iL
 rw [if_neg (by omega), if_neg (by omega), if_neg (by omega), if_neg (by omega), if_neg (by omega), if_neg (by omega), if_neg (by omega), if_pos ⟨h, h2⟩]
theorem HF (h : (c5 c.L J 14).1 = 13) (h2 : ¬ (c5 c.L (c5 c.L J 14).2 3).1 = 1) {b : BR} (hb : blk vs 0 2 (r8 c ps vs (c5 c.L (c5 c.L J 14).2 3).2).2 l = b) : o8 c ps blk vs deep J l = prK vs (r8 c ps vs (c5 c.L (c5 c.L J 14).2 3).2).1 b := by
 unfold o8 iL
 rw [if_neg (by omega), if_neg (by omega), if_neg (by omega), if_neg (by omega), if_neg (by omega), if_neg (by omega), if_neg (by omega), if_neg (by omega), if_pos h, hb]
theorem AQ (h7 : 7 < (c5 c.L J 14).1) (h13 : ¬ (c5 c.L J 14).1 = 13) (h8 : (c5 c.L J 14).1 = 8 → vs.length = 0) (h9 : ¬ (c5 c.L J 14).1 = 9) (h10 : ¬ (c5 c.L J 14).1 = 10) (h11 : (c5 c.L J 14).1 = 11 → deep ≤ 0) (h12 : (c5 c.L J 14).1 = 12 → deep ≤ 0) {b : BR} (hb : blk vs 0 2 (r8 c ps vs (c5 c.L J 14).2).2 l = b) : o8 c ps blk vs deep J l = prK vs (r8 c ps vs (c5 c.L J 14).2).1 b := by
 unfold o8 iL
 rw [if_neg (by omega), if_neg (by omega), if_neg (by omega), if_neg (by omega), if_neg (by omega), if_neg (by omega), if_neg (by omega), if_neg (by omega), if_neg h13, hb]
end
theorem cW {c : Core} {ps : List Pm} {blk : List BA → Int → Int → Int → Int → BR} {n : Nat} {vs vs' : List BA} {deep J l J' l' : Int} {out S : Sl} {R : BR} (h : gB c ps blk (n + 1) vs deep out J l = R) (hl : 0 < l) (hr : o8 c ps blk vs deep J (l - 1) = (S, vs', J', l')) : gB c ps blk n vs' deep (out.app S) J' l' = R := by
 rw [gB, if_neg (by omega), hr] at h
 exact h
theorem J8 {c : Core} {ps : List Pm} {blk : List BA → Int → Int → Int → Int → BR} {n : Nat} {vs : List BA} {deep J l : Int} {out : Sl} {R : BR} (h : gB c ps blk n vs deep out J l = R) (hl : n = 0 ∨ l ≤ 0) : R = (out, J, l) := by
 rw [← h]
 cases n with
 | zero => rfl
 | succ n => rw [gB, if_pos (by omega)]
theorem bO {c : Core} (hc : OkC c) {ps : List Pm} {fu : Nat} (hfu : fu ≤ 23) {all vs vs' : List BA} {left0 deep J l J' l' : Int} {out S : Sl} (h0 : left0 ≤ fu + 1) (hd : 0 ≤ deep) (ho : OkB (P5 c ps) c.L all left0 (deep.toNat + 1) (out, J, l)) (hv : ∀ x ∈ vs, x ∈ u5 out all) (hl : 0 < l)
  (hr : o8 c ps (g5 c ps fu) vs deep J (l - 1) = (S, vs', J', l')) : OkB (P5 c ps) c.L all left0 (deep.toNat + 1) (out.app S, J', l') ∧ l' ≤ l - 1 ∧ ∀ x ∈ vs', x ∈ u5 (out.app S) all := by
 have hl2 := ho.ol
 have hw := ho.wt
 have hdp := ho.dep
 simp only at hl2 hw hdp
 obtain ⟨r1, r2, r3⟩ := I6 hc (ps := ps) (blk := g5 c ps fu) (vars := vs) (all := u5 out all) (deep := deep) (I := J) (left := l - 1) ho.oi ⟨by omega, by omega⟩ hd hv (ho.fr.mono t66) fun d most I all' l' a1 a2 a3 a4 a5 a6 a7 => gN hc fu vs d most I all' l' a1 a2 a3 a4 (by omega) (by omega) a6 a7
 rw [hr] at r1 r2 r3
 have q1 := r1.ol
 have q2 := r1.wt
 have q3 := r1.dep
 simp only at q1 q2 q3 r2 r3
 refine ⟨⟨r1.oi, ⟨q1.1, by simp only; omega⟩, GS.app.2 ⟨ho.gs, r1.gs⟩, ?_, ?_, ?_⟩, r2, ?_⟩
 ·simp only [fJ]; exact r1.fr
 ·simp only [Sl.yB]; omega
 ·simp only [vT]; omega
 ·rw [fJ]; exact r3
end Go.Un
end
section
namespace Go.Un
open Go.Ab
def QW (l : List Mx) : Prop := ∀ j, j < l.length → (l.getD j bL).name = mnm j ∧ 0 ≤ (l.getD j bL).size ∧ (l.getD j bL).size ≤ 3 ∧ ((l.getD j bL).re = true → (l.getD j bL).size = 0)
def QX (l : List Gl) : Prop := ∀ j, j < l.length → (l.getD j kH).name = gnm j ∧ -10 ≤ (l.getD j kH).init ∧ (l.getD j kH).init ≤ 10
def HG (N n : Nat) (l : List Pm) : Prop := (n = N ∧ l = []) ∨ (N = 1 ∧ n = 0 ∧ l.map (·.name) = [pnm 1]) ∨ (N = 2 ∧ n = 1 ∧ l.map (·.name) = [pnm 2]) ∨ (N = 2 ∧ n = 0 ∧ l.map (·.name) = [pnm 2, pnm 1])
def HH (l : List Fu) : Prop := ∀ j, j < l.length → (l.getD j j4).name = fnm j ∧ (j = 0 → (l.getD j j4).params = []) ∧
  ((l.getD j j4).params.map (·.name) = [] ∨ (l.getD j j4).params.map (·.name) = [pnm 1] ∨ (l.getD j j4).params.map (·.name) = [pnm 2, pnm 1])
theorem sL {α : Type} {l : List α} {x d : α} {j : Nat} (h : j < (l ++ [x]).length) : (j < l.length ∧ (l ++ [x]).getD j d = l.getD j d) ∨ (j = l.length ∧ (l ++ [x]).getD j d = x) := by
 simp at h
 by_cases hj : j < l.length
 ·exact .inl ⟨hj, by simp [List.getD, List.getElem?_append_left hj]⟩
 ·obtain rfl : j = l.length := by omega
  exact .inr ⟨rfl, by simp [List.getD]⟩
theorem QW.snoc {l : List Mx} (h : QW l) {m : Mx} (h1 : m.name = mnm l.length) (h2 : 0 ≤ m.size ∧ m.size ≤ 3) (h3 : m.re = true → m.size = 0) : QW (l ++ [m]) := fun j hj => by
 rcases sL (d := bL) hj with ⟨q, e⟩ | ⟨rfl, e⟩
 ·rw [e]; exact h j q
 ·rw [e]; exact ⟨h1, h2.1, h2.2, h3⟩
theorem QX.snoc {l : List Gl} (h : QX l) {m : Gl} (h1 : m.name = gnm l.length) (h2 : -10 ≤ m.init ∧ m.init ≤ 10) : QX (l ++ [m]) := fun j hj => by
 rcases sL (d := kH) hj with ⟨q, e⟩ | ⟨rfl, e⟩
 ·rw [e]; exact h j q
 ·rw [e]; exact ⟨h1, h2⟩
theorem HH.snoc {l : List Fu} (h : HH l) {f : Fu} (h1 : f.name = fnm l.length) (h2 : l.length = 0 → f.params = []) (h3 : f.params.map (·.name) = [] ∨ f.params.map (·.name) = [pnm 1] ∨ f.params.map (·.name) = [pnm 2, pnm 1]) : HH (l ++ [f]) := fun j hj => by
 rcases sL (d := j4) hj with ⟨q, e⟩ | ⟨rfl, e⟩
 ·rw [e]; exact h j q
 ·rw [e]; exact ⟨h1, h2, h3⟩
theorem HG.step {N n : Nat} {l : List Pm} (h : HG N n l) (hn : 0 < n) (hN : N ≤ 2) {p : Pm} (hp : p.name = pnm n) : HG N (n - 1) (l ++ [p]) := by
 rcases h with ⟨rfl, rfl⟩ | ⟨_, h, _⟩ | ⟨rfl, rfl, h⟩ | ⟨_, h, _⟩
 ·have : n = 1 ∨ n = 2 := by omega
  rcases this with rfl | rfl
  ·exact .inr (.inl ⟨rfl, rfl, by simp [hp]⟩)
  ·exact .inr (.inr (.inl ⟨rfl, rfl, by simp [hp]⟩))
 ·omega
 ·exact .inr (.inr (.inr ⟨rfl, rfl, by simp [h, hp]⟩))
 ·omega
theorem HG.fin {N n : Nat} {l : List Pm} (h : HG N n l) (hn : n = 0 ∨ l = []) (hN : N ≤ 2) : l.map (·.name) = [] ∨ l.map (·.name) = [pnm 1] ∨ l.map (·.name) = [pnm 2, pnm 1] := by
 rcases h with ⟨rfl, rfl⟩ | ⟨_, _, h⟩ | ⟨_, h1, h⟩ | ⟨_, _, h⟩
 ·exact .inl rfl
 ·exact .inr (.inl h)
 ·rcases hn with hn | hn
  ·omega
  ·subst hn; exact .inl rfl
 ·exact .inr (.inr h)
theorem HG.len {N n : Nat} {l : List Pm} (h : HG N n l) : l.length ≤ 2 := by
 have : l.length = (l.map (·.name)).length := by simp
 rcases h with ⟨rfl, rfl⟩ | ⟨_, _, h⟩ | ⟨_, _, h⟩ | ⟨_, _, h⟩
 ·simp
 all_goals rw [this, h]; simp
def cX (l : List Pm) : List BA := (l.filter fun x => !x.mu).map (·.name)
theorem yV {l : List Pm} {j : Nat} (h : j < l.length) : cX (l.take (j + 1)) = cX (l.take j) ++ (if (l.getD j gL).mu then [] else [(l.getD j gL).name]) := by
 unfold cX
 rw [List.take_add_one, List.filter_append, List.map_append]
 congr 1
 simp only [List.getD_eq_getElem?_getD, List.getElem?_eq_getElem h, Option.toList_some, Option.getD_some, List.filter_cons, List.filter_nil]
 cases l[j].mu <;> rfl
def setBody (fs : List Fu) (i : Nat) (B : Sl) : List Fu := fs.set i { fs.getD i j4 with body := B }
def mB (fs : List Fu) : List (BA × List Pm) := fs.map fun f => (f.name, f.params)
theorem jY {fs : List Fu} {i : Nat} {B : Sl} : (setBody fs i B).length = fs.length := by simp [setBody]
theorem jZ {fs : List Fu} {i j : Nat} {B : Sl} (h : i < fs.length) : (setBody fs i B).getD j j4 = if j = i then { fs.getD i j4 with body := B } else fs.getD j j4 := by
 unfold setBody
 by_cases e : j = i
 ·subst e
  simp [List.getD, h]
 ·rw [if_neg e]
  simp [List.getD, List.getElem?_set_ne (Ne.symm e)]
theorem nU {fs : List Fu} {i : Nat} {B : Sl} (h : i < fs.length) : mB (setBody fs i B) = mB fs := by
 refine List.ext_getElem (by simp [mB, setBody]) fun j h1 h2 => ?_
 have hj : j < fs.length := by simpa [mB] using h2
 have e := jZ (j := j) (B := B) h
 have e1 : (setBody fs i B).getD j j4 = (setBody fs i B)[j]'(by rw [jY]; exact hj) := by simp [List.getD, jY, hj]
 have e2 : fs.getD j j4 = fs[j] := by simp [List.getD, hj]
 simp only [mB, List.getElem_map]
 rw [← e1, ← e2, e]
 split
 ·rename_i q; subst q; rfl
 ·rfl
theorem HH.mB {l l' : List Fu} (h : HH l) (e : mB l' = mB l) : HH l' := fun j hj => by
 have hl : l'.length = l.length := by have := congrArg List.length e; simpa [Un.mB] using this
 have e1 : ∀ (m : List Fu), j < m.length → (Un.mB m).getD j (ByteArray.empty, []) = ((m.getD j j4).name, (m.getD j j4).params) := fun m hm => by simp [Un.mB, List.getD, hm]
 have h1 := e1 l' hj
 have h2 := e1 l (by omega)
 rw [e, h2] at h1
 injection h1 with h3 h4
 have := h j (by omega)
 rw [h3, h4] at this
 exact this
structure VO (gs : List Gl) (ms : List Mx) (fs : List Fu) (i : Nat) (left : Int) : Prop where
 body : ∀ j, j < i → GS ⟨gs.map (·.name), ms, mB fs, (fs.getD j j4).params⟩ (fs.getD j j4).body (gs.map (·.name) ++ cX (fs.getD j j4).params) ∧ (fs.getD j j4).body.dep ≤ 3
 wt : pZ fs i ≤ 2 * (24 - left).toNat
 ol : 0 ≤ left ∧ left ≤ 24
theorem uA {l l' : List Fu} : ∀ i, (∀ j, j < i → (l.getD j j4).body = (l'.getD j j4).body) → pZ l i = pZ l' i
 | 0, _ => rfl
 | i + 1, h => by
  rw [pZ, pZ, uA i fun j hj => h j (by omega), h i (by omega)]
theorem VO.step {gs : List Gl} {ms : List Mx} {fs : List Fu} {i : Nat} {left left' : Int} {L : List Int} {B : Sl} {I' : Int} (h : VO gs ms fs i left) (hi : i < fs.length)
  (hb : OkB ⟨gs.map (·.name), ms, mB fs, (fs.getD i j4).params⟩ L (gs.map (·.name) ++ cX (fs.getD i j4).params) left 3 (B, I', left')) : VO gs ms (setBody fs i B) (i + 1) left' := by
 have hol := hb.ol
 have hwt := hb.wt
 have h1 := h.ol
 have h2 := h.wt
 simp only at hol hwt
 refine ⟨fun j hj => ?_, ?_, by omega⟩
 ·rw [nU hi, jZ hi]
  by_cases e : j = i
  ·subst e
   rw [if_pos rfl]
   exact ⟨hb.gs, hb.dep⟩
  ·rw [if_neg e]
   exact h.body j (by omega)
 ·have e1 : pZ (setBody fs i B) i = pZ fs i := uA i fun j hj => by rw [jZ hi, if_neg (by omega)]
  rw [pZ, e1, jZ hi, if_pos rfl]
  simp only
  omega
theorem prog_ok {gs : List Gl} {ms : List Mx} {fs : List Fu} {left : Int} (hg : QX gs) (hgl : gs.length ≤ 2) (hm : QW ms) (hml : 1 ≤ ms.length ∧ ms.length ≤ 4) (hf : HH fs) (hfl : 1 ≤ fs.length ∧ fs.length ≤ 4) (hb : VO gs ms fs fs.length left) : GP ⟨gs, ms, fs⟩ := by
 have hw := hb.wt
 have hl := hb.ol
 refine ⟨⟨hgl, hg, hml, hm, hfl, hf⟩, fun i hi => ?_, by show pZ fs fs.length ≤ 48; omega⟩
 exact hb.body i hi
theorem Q0 {gs : List Gl} {ps : List Pm} (hg : QX gs) (hgl : gs.length ≤ 2) (hp : ps.map (·.name) = [] ∨ ps.map (·.name) = [pnm 1] ∨ ps.map (·.name) = [pnm 2, pnm 1]) : Fr 24 (gs.map (·.name) ++ cX ps) := by
 intro j hj hm
 refine yH j hj ?_
 rcases List.mem_append.1 hm with hm | hm
 ·obtain ⟨g, hg1, hg2⟩ := List.mem_map.1 hm
  obtain ⟨k, hk, rfl⟩ := bZ (d := kH) hg1
  rw [← hg2, (hg k hk).1]
  exact List.mem_append.2 (.inl (List.mem_map.2 ⟨k, List.mem_range.2 (by omega), rfl⟩))
 ·obtain ⟨p, hp1, hp2⟩ := List.mem_map.1 hm
  have hp3 : p.name ∈ ps.map (·.name) := List.mem_map.2 ⟨p, (List.mem_filter.1 hp1).1, rfl⟩
  rw [hp2] at hp3
  refine List.mem_append.2 (.inr (List.mem_append.2 (.inr (List.mem_append.2 (.inr ?_)))))
  rcases hp with e | e | e
  ·rw [e] at hp3; simp at hp3
  ·rw [e] at hp3; simp at hp3; rw [hp3]; simp
  ·rw [e] at hp3; simpa using hp3
theorem okC_of {L : List Int} {gs : List Gl} {ms : List Mx} {fs : List Fu} {gF : Nat} {ar : Bool} (hm : QW ms) (hml : 1 ≤ ms.length ∧ ms.length ≤ 4) (hf : HH fs) (hfl : 1 ≤ fs.length ∧ fs.length ≤ 4) : OkC ⟨L, gs, ms, fs, gF, ar⟩ := by
 refine ⟨hml, fun i hi => ⟨(hm i hi).2.1, (hm i hi).2.2.1⟩, hfl, fun f hff => ?_⟩
 obtain ⟨k, hk, rfl⟩ := bZ (d := j4) hff
 have h1 := (hf k hk).2.2
 have h2 : (fs.getD k j4).params.length = ((fs.getD k j4).params.map (·.name)).length := by simp
 rw [h2]
 rcases h1 with e | e | e <;> rw [e] <;> simp
end Go.Un
end
section
namespace Go.Proofs.Ytbmaijdkebjnhaa
open Go.Ab Go.Un
theorem sM {s : BA} : qT s = KF.any fun x => L8 x == L8 s := by
  simp only [qT, hasB, ByteArray.toList_eq]; rfl
theorem AR : ∀ j, j < 24 → qT (vnm j) = false := by
  intro j hj
  rw [sM]
  have key : ∀ j, j < 24 → (KF.any fun x => L8 x == L8 (vnm j)) = false := by decide
  exact key j hj
theorem AS : ∀ j, j < 2 → qT (gnm j) = false := by
  intro j hj
  rw [sM]
  have key : ∀ j, j < 2 → (KF.any fun x => L8 x == L8 (gnm j)) = false := by decide
  exact key j hj
theorem AT : ∀ j, j < 4 → qT (mnm j) = false := by
  intro j hj
  rw [sM]
  have key : ∀ j, j < 4 → (KF.any fun x => L8 x == L8 (mnm j)) = false := by decide
  exact key j hj
theorem AU : ∀ j, j < 4 → qT (fnm j) = false := by
  intro j hj
  rw [sM]
  have key : ∀ j, j < 4 → (KF.any fun x => L8 x == L8 (fnm j)) = false := by decide
  exact key j hj
theorem B6 : ∀ j, j < 3 → qT (pnm j) = false := by
  intro j hj
  rw [sM]
  have key : ∀ j, j < 3 → (KF.any fun x => L8 x == L8 (pnm j)) = false := by decide
  exact key j hj
theorem wD {pre : Sl} {k : Int} {n : BA} {e : Ex} {r : Rf} {xs : List Ar} {th el rest : Sl} : List.take 11 (List.drop (pre.len * 11) (n8 (pre.app (.cons k n e r xs th el rest)))) = [.int .i64 k, .str n, .int .i64 e.op, .int .i64 e.num, .str e.name, .vec e.args.length (m7 e.args), .str r.name, .vec r.idx.length (m7 r.idx), .vec xs.length (bJ xs), .vec th.len (n8 th), .vec el.len (n8 el)] := by
  rw [read_s rfl, rowS, bR]; rfl
theorem wE {h : c6} {vars : List BA} (hv : z9 vars) {e : Ex} (hg : GE vars 2 e) : CallA Try.prog cfg 110 [.agg [.int .i64 e.op, .int .i64 e.num, .str e.name, .vec e.args.length (m7 e.args)]] h (fun y' h' => y' = .str (cD e) ∧ h' = h) := by
  rw [← bR]; exact sJ hv.n (by omega) hg h
theorem lT {h : c6} {vars : List BA} (hv : z9 vars) {e : Ex} (hg : GE vars 2 e) : CallA Try.prog cfg 87 [.agg [.int .i64 e.op, .int .i64 e.num, .str e.name, .vec e.args.length (m7 e.args)]] h (fun y' h' => y' = .bool true ∧ h' = h) := by
  rw [← bR]; exact J3 hv (by omega) e hg
theorem z9.snoc {vars : List BA} (h : z9 vars) {j : Nat} (hj : j < 24) : z9 (vars ++ [vnm j]) := by
  intro x hx
  rcases List.mem_append.1 hx with hx | hx
  · exact h x hx
  · simp only [List.mem_singleton] at hx
    subst hx
    exact ⟨qL, AR j hj⟩
theorem B7 {pre : Sl} {k : Int} {n : BA} {e : Ex} {r : Rf} {xs : List Ar} {th el rest : Sl} : (pre.app (.cons k n e r xs th el rest)).wt = pre.wt + (1 + th.wt + el.wt + rest.wt) := by rw [Sl.yB, Sl.wt]
theorem w6 {pre : Sl} {k : Int} {n : BA} {e : Ex} {r : Rf} {xs : List Ar} {th el rest : Sl} : (pre.app (.cons k n e r xs th el rest)).len = pre.len + (rest.len + 1) := by rw [Go.Un.Sl.cB, Go.Un.Sl.len]
theorem eQ {k : Int} {n : BA} {e : Ex} {r : Rf} {xs : List Ar} {th el rest : Sl} : (Sl.cons k n e r xs th el rest).dep = max (max th.dep el.dep + 1) rest.dep := rfl
theorem eC {pre : Sl} {k : Int} {n : BA} {e : Ex} {r : Rf} {xs : List Ar} {th el rest : Sl} : pre.app (.cons k n e r xs th el rest) = (pre.app (.cons k n e r xs th el .nil)).app rest := by rw [Sl.yA]; rfl
theorem HI {pre : Sl} {k : Int} {n : BA} {e : Ex} {r : Rf} {xs : List Ar} {th el : Sl} : (((pre.app (.cons k n e r xs th el .nil)).len : Nat) : Int) = (pre.len : Int) + 1 := by rw [Go.Un.Sl.cB]; simp [Go.Un.Sl.len]
theorem uB {tabs : BA} (h : Cl (L8 tabs) 0) : Cl (L8 (tabs ++ gA)) 0 := bB h yG
attribute [local go_sem] lS v9 j8 bI cQ bK n5 Int.natCast_nonneg Int.natCast_inj List.length_map wrap64 P7 kP wB aH lH eq_mk lI wD Nat.reduceMul
theorem HJ {h : c6} {E : Env} (hE : qK E) (S : Sl) (ih : ∀ S' : Sl, S'.wt < S.wt → ∀ (vars : List BA) (tabs : BA), z9 vars → GS E S' vars → tabs.size + S'.dep ≤ 10 → Cl (L8 tabs) 0 → ∀ h : c6, CallA Try.prog cfg 92 [.vec S'.len (n8 S'), .str tabs] h (fun y' h' => y' = .str (kO S' tabs ByteArray.empty) ∧ h' = h)) (vars : List BA) (tabs : BA) (hv0 : z9 vars) (hG0 : GS E S vars) (hd : tabs.size + S.dep ≤ 10) (ht : Cl (L8 tabs) 0) (hw : S.wt ≤ 1000) : CallA Try.prog cfg 92 [.vec S.len (n8 S), .str tabs] h (fun y' h' => y' = .str (kO S tabs ByteArray.empty) ∧ h' = h) := by
  refine .b fn92 ntm92 ?_
  have hlw := dG S
  have hTs := (iW hE S vars tabs ByteArray.empty 0 hv0.n hG0 hd ht Cl.nil).2
  have hse : ByteArray.empty.size = 0 := rfl
  refine c78z ?_
  refine .dU (fun m st => ∃ (Z : Sl) (pre : Sl) (rst : Sl) (vs : List BA) (out : BA), (m = rst.len ∧ (Z = S ∧ S = pre.app rst ∧ GS E rst vs ∧ z9 vs ∧ kO rst tabs out = kO S tabs ByteArray.empty ∧ tabs.size + rst.dep ≤ 10)) ∧ st = ⟨mkS 133 [(0, AV.vec (Go.Un.Sl.len Z) (n8 Z)), (1, AV.str tabs), (5, AV.str out), (6, AV.int .i64 ((pre.len : Nat) : Int))], h⟩) (.v ⟨S, Sl.nil, S, vars, ByteArray.empty, ⟨rfl, ⟨rfl, rfl, hG0, hv0, rfl, hd⟩⟩, rfl⟩ (hs := t7)) ?_
  rintro m sl h' ⟨Z, pre, rst, vs, out, ⟨hm, ⟨hZ, hS, hG, hv, hT, hdp⟩⟩, hst⟩
  obtain ⟨rfl, rfl⟩ := St.mk.inj hst; clear hst
  subst hZ
  have hlen := congrArg Go.Un.Sl.len hS; rw [Go.Un.Sl.cB] at hlen
  have hos : out.size ≤ 400000 := by have := Y0 rst tabs out; rw [hT] at this; omega
  refine c0z ?_
  refine .spl 12 rfl rfl (fun e1 => ?_) (fun e1 => ?_)
  ·try simp only [e1]
   have qe1 := fact e1
   refine c11z ?_
   obtain ⟨k, n, e, r, xs, th, el, rest, rfl⟩ := Go.Un.Sl.mP (s := rst) (by omega)
   subst hS
   have hwc := @B7 pre k n e r xs th el rest
   have hlc := @w6 pre k n e r xs th el rest
   have hdc := @eQ k n e r xs th el rest
   rcases hG with ⟨rfl, ⟨j, hj, rfl⟩, hn, he, rfl, rfl, rfl, rfl, hr⟩ | ⟨rfl, hn, he, rfl, rfl, rfl, rfl, hr⟩ | ⟨rfl | rfl, ⟨f, hf, rfl, ha⟩, rfl, rfl, rfl, rfl, hr⟩ | ⟨rfl | rfl, rfl, rfl, hR, rfl, rfl, rfl, hr⟩ | ⟨rfl, rfl, he, rfl, rfl, hth, hel, hr⟩ | ⟨rfl, rfl, he, rfl, rfl, hth, rfl, hr⟩ | ⟨rfl, rfl, rfl, rfl, rfl, rfl, rfl, hr⟩
   ·have hes := (cM hv.n he).2; have hb : wT 2 = 104 := rfl
    have hns := z1 (qL (j := j))
    refine c141z ?_
    refine .T ?_
    refine .so z7 (mkP 12 [0, 1, 0, 4, 15, 31, 0, 64, 192, 511, 1023, 2047] []) ?_
    refine .k 8 [] ?_
    refine .ca rfl rfl (wE hv he) ?_
    refine .n [] ?_
    change c8 ..
    refine c98z ?_
    have hT2 := hT
    simp only [kO, show ((1 : Int) = 2) = False from by simp, show ((1 : Int) = 3) = False from by simp, show ((1 : Int) = 4) = False from by simp, show ((1 : Int) = 5) = False from by simp, show ((1 : Int) = 6) = False from by simp, show ((1 : Int) = 7) = False from by simp, show ((1 : Int) = 8) = False from by simp, if_true, if_false, true_or, or_true, or_false, false_or, or_self] at hT2
    exact ⟨_, by omega, .v ⟨_, (pre.app (.cons 1 (vnm j) e m8 [] .nil .nil .nil)), rest, (vs ++ [vnm j]), _, ⟨rfl, ⟨rfl, eC, hr, (hv.snoc hj), hT2, by omega⟩⟩, rfl⟩ (he := by rfl) (hs := t7)⟩
   ·have hes := (cM hv.n he).2; have hb : wT 2 = 104 := rfl
    have hns := z1 (hv _ hn).1
    refine c141z ?_
    refine c117z ?_
    refine .c7 [0, 1, 5, 6, 7] ?_
    refine .so z7 (mkP 11 [0, 0, 2, 7, 15, 0, 32, 96, 255, 511, 1023] []) ?_
    refine .k 7 [] ?_
    refine .ca rfl rfl (wE hv he) ?_
    refine .n [] ?_
    change c8 ..
    refine c98z ?_
    have hT2 := hT
    simp only [kO, show ((2 : Int) = 1) = False from by simp, show ((2 : Int) = 3) = False from by simp, show ((2 : Int) = 4) = False from by simp, show ((2 : Int) = 5) = False from by simp, show ((2 : Int) = 6) = False from by simp, show ((2 : Int) = 7) = False from by simp, show ((2 : Int) = 8) = False from by simp, if_true, if_false, true_or, or_true, or_false, false_or, or_self] at hT2
    exact ⟨_, by omega, .v ⟨_, (pre.app (.cons 2 n e m8 [] .nil .nil .nil)), rest, vs, _, ⟨rfl, ⟨rfl, eC, hr, hv, hT2, by omega⟩⟩, rfl⟩ (he := by rfl) (hs := t7)⟩
   ·have hns := z1 (hE.fn f hf)
    have has := (A6 hE hv.n ha (hE.fp f hf)).2.1
    have hxl := (jT hE hv.n ha).1; have hfl := hE.fp f hf
    refine c158z ?_
    refine .T ?_
    refine .so z7 (mkP 10 [0, 0, 2, 7, 0, 16, 48, 127, 255, 511] []) ?_
    refine .k 6 [] ?_
    refine .ca rfl rfl (AP hE hv.n xs (jT hE hv.n ha).2 (by omega)) ?_
    refine .n [] ?_
    change c8 ..
    refine c98z ?_
    have hT2 := hT
    simp only [kO, show ((3 : Int) = 1) = False from by simp, show ((3 : Int) = 2) = False from by simp, show ((3 : Int) = 4) = False from by simp, show ((3 : Int) = 5) = False from by simp, show ((3 : Int) = 6) = False from by simp, show ((3 : Int) = 7) = False from by simp, show ((3 : Int) = 8) = False from by simp, if_true, if_false, true_or, or_true, or_false, false_or, or_self] at hT2
    exact ⟨_, by omega, .v ⟨_, (pre.app (.cons 3 f.1 l3 m8 xs .nil .nil .nil)), rest, vs, _, ⟨rfl, ⟨rfl, eC, hr, hv, hT2, by omega⟩⟩, rfl⟩ (he := by rfl) (hs := t7)⟩
   ·have hns := z1 (hE.fn f hf)
    have has := (A6 hE hv.n ha (hE.fp f hf)).2.1
    have hxl := (jT hE hv.n ha).1; have hfl := hE.fp f hf
    refine c158z ?_
    refine c117z ?_
    refine .so z7 (mkP 11 [0, 1, 0, 4, 15, 0, 32, 96, 255, 511, 1023] []) ?_
    refine .k 7 [] ?_
    refine .ca rfl rfl (AP hE hv.n xs (jT hE hv.n ha).2 (by omega)) ?_
    refine .n [] ?_
    change c8 ..
    refine c98z ?_
    have hT2 := hT
    simp only [kO, show ((4 : Int) = 1) = False from by simp, show ((4 : Int) = 2) = False from by simp, show ((4 : Int) = 3) = False from by simp, show ((4 : Int) = 5) = False from by simp, show ((4 : Int) = 6) = False from by simp, show ((4 : Int) = 7) = False from by simp, show ((4 : Int) = 8) = False from by simp, if_true, if_false, true_or, or_true, or_false, false_or, or_self] at hT2
    exact ⟨_, by omega, .v ⟨_, (pre.app (.cons 4 f.1 l3 m8 xs .nil .nil .nil)), rest, vs, _, ⟨rfl, ⟨rfl, eC, hr, hv, hT2, by omega⟩⟩, rfl⟩ (he := by rfl) (hs := t7)⟩
   ·have hrs := (hR.pw hE hv.n).2
    refine c158z ?_
    refine c14z ?_
    refine c117z ?_
    refine c142z ?_
    refine .ca rfl rfl (J7 hE hv.n hR) ?_
    refine c45z ?_
    refine c98z ?_
    have hT2 := hT
    simp only [kO, show ((5 : Int) = 1) = False from by simp, show ((5 : Int) = 2) = False from by simp, show ((5 : Int) = 3) = False from by simp, show ((5 : Int) = 4) = False from by simp, show ((5 : Int) = 6) = False from by simp, show ((5 : Int) = 7) = False from by simp, show ((5 : Int) = 8) = False from by simp, if_true, if_false, true_or, or_true, or_false, false_or, or_self] at hT2
    exact ⟨_, by omega, .v ⟨_, (pre.app (.cons 5 ByteArray.empty l3 r [] .nil .nil .nil)), rest, vs, _, ⟨rfl, ⟨rfl, eC, hr, hv, hT2, by omega⟩⟩, rfl⟩ (he := by rfl) (hs := t7)⟩
   ·have hrs := (hR.pw hE hv.n).2
    refine c158z ?_
    refine c14z ?_
    refine c14z ?_
    refine c117z ?_
    refine .c7 [0, 1, 5, 6, 7] ?_
    refine c142z ?_
    refine .ca rfl rfl (J7 hE hv.n hR) ?_
    refine c45z ?_
    refine c98z ?_
    have hT2 := hT
    simp only [kO, show ((6 : Int) = 1) = False from by simp, show ((6 : Int) = 2) = False from by simp, show ((6 : Int) = 3) = False from by simp, show ((6 : Int) = 4) = False from by simp, show ((6 : Int) = 5) = False from by simp, show ((6 : Int) = 7) = False from by simp, show ((6 : Int) = 8) = False from by simp, if_true, if_false, true_or, or_true, or_false, false_or, or_self] at hT2
    exact ⟨_, by omega, .v ⟨_, (pre.app (.cons 6 ByteArray.empty l3 r [] .nil .nil .nil)), rest, vs, _, ⟨rfl, ⟨rfl, eC, hr, hv, hT2, by omega⟩⟩, rfl⟩ (he := by rfl) (hs := t7)⟩
   ·have hes := (cM hv.n he).2; have hb : wT 2 = 104 := rfl
    have hts : (tabs ++ gA).size = tabs.size + 1 := by rw [aH]; rfl
    have hths := (iW hE th vs (tabs ++ gA) ByteArray.empty 0 hv.n hth (by omega) (uB ht) Cl.nil).2
    have hels := (iW hE el vs (tabs ++ gA) ByteArray.empty 0 hv.n hel (by omega) (uB ht) Cl.nil).2
    refine c158z ?_
    refine c14z ?_
    refine c14z ?_
    refine c51z ?_
    refine .seq ?_
    refine c54z ?_
    refine c10z ?_
    refine .T ?_
    refine c79z ?_
    refine c4z ?_
    refine .ss z7 (mkP 18 [0, 0, 3, 0, 8, 24, 63, 127, 0, 256, 0, 1024, 3896, 8191, 0, 32767, 65535, 131071] []) ?_
    refine .k 5 [] ?_
    refine .ca rfl rfl (wE hv he) ?_
    refine .k 6 [] ?_
    refine .ca rfl rfl (ih th (by omega) vs (tabs ++ gA) hv hth (by omega) (uB ht) _) ?_
    refine .n [] ?_
    refine .c7 [0, 1, 5, 6, 7] ?_
    refine .z ?_
    refine .spl 118 rfl rfl (fun e2 => ?_) (fun e2 => ?_)
    ·try simp only [e2]
     have qe2 := fact e2
     refine .T ?_
     refine .r ?_
     refine .e 6 ?_
     refine .ca rfl rfl (ih el (by omega) vs (tabs ++ gA) hv hel (by omega) (uB ht) _) ?_
     refine c45z ?_
     refine c98z ?_
     have hT2 := hT
     have hel0 : 0 < el.len := by omega
     simp only [kO, show ((7 : Int) = 1) = False from by simp, show ((7 : Int) = 2) = False from by simp, show ((7 : Int) = 3) = False from by simp, show ((7 : Int) = 4) = False from by simp, show ((7 : Int) = 5) = False from by simp, show ((7 : Int) = 6) = False from by simp, show ((7 : Int) = 8) = False from by simp, if_true, if_false, true_or, or_true, or_false, false_or, or_self, if_pos hel0] at hT2
     exact ⟨_, by omega, .v ⟨_, (pre.app (.cons 7 ByteArray.empty e m8 [] th el .nil)), rest, vs, _, ⟨rfl, ⟨rfl, eC, hr, hv, hT2, by omega⟩⟩, rfl⟩ (he := by rfl) (hs := t7)⟩
    try simp only [e2]
    have qe2 := fact e2
    refine c13z ?_
    refine c32z ?_
    have hT2 := hT
    have hel0 : ¬ 0 < el.len := by omega
    simp only [kO, show ((7 : Int) = 1) = False from by simp, show ((7 : Int) = 2) = False from by simp, show ((7 : Int) = 3) = False from by simp, show ((7 : Int) = 4) = False from by simp, show ((7 : Int) = 5) = False from by simp, show ((7 : Int) = 6) = False from by simp, show ((7 : Int) = 8) = False from by simp, if_true, if_false, true_or, or_true, or_false, false_or, or_self, if_neg hel0] at hT2
    exact ⟨_, by omega, .v ⟨_, (pre.app (.cons 7 ByteArray.empty e m8 [] th el .nil)), rest, vs, _, ⟨rfl, ⟨rfl, eC, hr, hv, hT2, by omega⟩⟩, rfl⟩ (he := by rfl) (hs := t7)⟩
   ·have hes := (cM hv.n he).2; have hb : wT 2 = 104 := rfl
    have hts : (tabs ++ gA).size = tabs.size + 1 := by rw [aH]; rfl
    have hths := (iW hE th vs (tabs ++ gA) ByteArray.empty 0 hv.n hth (by omega) (uB ht) Cl.nil).2
    refine c158z ?_
    refine c14z ?_
    refine c14z ?_
    refine c51z ?_
    refine .seq ?_
    refine c54z ?_
    refine c131z ?_
    refine .T ?_
    refine c79z ?_
    refine .T ?_
    refine .c7 [0, 1, 5, 6, 7] ?_
    refine c1z ?_
    refine .ss z7 (mkP 18 [0, 0, 3, 0, 8, 24, 63, 127, 0, 256, 0, 1024, 3896, 8191, 0, 32767, 65535, 131071] []) ?_
    refine .k 5 [] ?_
    refine .ca rfl rfl (wE hv he) ?_
    refine .k 6 [] ?_
    refine .ca rfl rfl (ih th (by omega) vs (tabs ++ gA) hv hth (by omega) (uB ht) _) ?_
    refine .n [] ?_
    refine .c7 [0, 1, 5, 6, 7] ?_
    refine .z ?_
    refine c13z ?_
    refine c32z ?_
    have hT2 := hT
    simp only [kO, show ((8 : Int) = 1) = False from by simp, show ((8 : Int) = 2) = False from by simp, show ((8 : Int) = 3) = False from by simp, show ((8 : Int) = 4) = False from by simp, show ((8 : Int) = 5) = False from by simp, show ((8 : Int) = 6) = False from by simp, show ((8 : Int) = 7) = False from by simp, if_true, if_false, true_or, or_true, or_false, false_or, or_self, Go.Un.Sl.len, Nat.lt_irrefl] at hT2
    exact ⟨_, by omega, .v ⟨_, (pre.app (.cons 8 ByteArray.empty e m8 [] th .nil .nil)), rest, vs, _, ⟨rfl, ⟨rfl, eC, hr, hv, hT2, by omega⟩⟩, rfl⟩ (he := by rfl) (hs := t7)⟩
   ·skip
    refine c158z ?_
    refine c14z ?_
    refine c14z ?_
    refine c51z ?_
    refine .seq ?_
    refine c54z ?_
    refine c131z ?_
    refine c131z ?_
    refine c1z ?_
    refine .c7 [0, 1, 5, 6] ?_
    refine .rz ?_
    have hT2 := hT
    simp only [kO, show ((9 : Int) = 1) = False from by simp, show ((9 : Int) = 2) = False from by simp, show ((9 : Int) = 3) = False from by simp, show ((9 : Int) = 4) = False from by simp, show ((9 : Int) = 5) = False from by simp, show ((9 : Int) = 6) = False from by simp, show ((9 : Int) = 7) = False from by simp, show ((9 : Int) = 8) = False from by simp, if_true, if_false, true_or, or_true, or_false, false_or, or_self] at hT2
    exact ⟨_, by omega, .v ⟨_, (pre.app (.cons 9 ByteArray.empty l3 m8 [] .nil .nil .nil)), rest, vs, _, ⟨rfl, ⟨rfl, eC, hr, hv, hT2, by omega⟩⟩, rfl⟩ (he := by rfl) (hs := t7)⟩
  try simp only [e1]
  have qe1 := fact e1
  refine c3z ?_
  obtain rfl := Go.Un.Sl.vK (show rst.len = 0 by omega)
  rw [kO] at hT
  change c8 ..
  refine .z ?_
  exact .ret (.ex (hq := by (exact congrArg AV.str hT)))
theorem AW {E : Env} (hE : qK E) : ∀ (n : Nat) (S : Sl), S.wt ≤ n → n ≤ 1000 → ∀ (vars : List BA) (tabs : BA), z9 vars → GS E S vars → tabs.size + S.dep ≤ 10 → Cl (L8 tabs) 0 → ∀ h : c6, CallA Try.prog cfg 92 [.vec S.len (n8 S), .str tabs] h (fun y' h' => y' = .str (kO S tabs ByteArray.empty) ∧ h' = h)
  | n, S, hn, h1, vars, tabs, hv, hG, hd, ht, h => by
    refine HJ hE S (fun S' hS' => ?_) vars tabs hv hG hd ht (by omega)
    cases n with
    | zero => omega
    | succ n => exact AW hE n S' (by omega) (by omega)
end Go.Proofs.Ytbmaijdkebjnhaa
end
section
namespace Go.Proofs.Ytbmaijdkebjnhaa
open Go.Ab Go.Un
structure Frame where
  b0 : Blk
  b1 : Blk
  b2 : Blk
  z : Blk
  m : Blk
  g : Blk
  rest : c6
def Frame.n (e : Frame) : Nat := e.rest.length + 9
def hB (c : Core) (e : Frame) (I left : Int) : c6 :=
  e.b0 :: e.b1 :: e.b2 :: e.z :: ⟨0, false, 94, 2, [.vec c.L.length (l6 c.L), .int .i64 I], 0⟩ ::
  ⟨0, false, 96, 6, [.ptr 4 0 0, .vec c.gs.length (o7 c.gs), .vec c.ms.length (j6 c.ms), .own 8 c.gF 0 c.fs.length, .int .i64 left, .bool c.ar], 0⟩ ::
  e.m :: e.g :: ⟨c.gF, false, 104, 3, n4 c.fs, 0⟩ :: e.rest
section
variable {c : Core} {e : Frame} {I left k : Int} {l : c6}
theorem r9 : (hB c e I left).length = e.n := by simp [hB, Frame.n]
theorem hB_1 : (hB c e I left)[4]? = some ⟨0, false, 94, 2, [.vec c.L.length (l6 c.L), .int .i64 I], 0⟩ := rfl
theorem hB_2 : (hB c e I left)[5]? = some ⟨0, false, 96, 6, [.ptr 4 0 0, .vec c.gs.length (o7 c.gs), .vec c.ms.length (j6 c.ms), .own 8 c.gF 0 c.fs.length, .int .i64 left, .bool c.ar], 0⟩ := rfl
theorem hB_5 : (hB c e I left)[8]? = some ⟨c.gF, false, 104, 3, n4 c.fs, 0⟩ := rfl
theorem NY : (hB c e I left ++ l)[4]? = some ⟨0, false, 94, 2, [.vec c.L.length (l6 c.L), .int .i64 I], 0⟩ := rfl
theorem NZ : (hB c e I left ++ l)[5]? = some ⟨0, false, 96, 6, [.ptr 4 0 0, .vec c.gs.length (o7 c.gs), .vec c.ms.length (j6 c.ms), .own 8 c.gF 0 c.fs.length, .int .i64 left, .bool c.ar], 0⟩ := rfl
theorem OA : (hB c e I left ++ l)[8]? = some ⟨c.gF, false, 104, 3, n4 c.fs, 0⟩ := rfl
theorem OB : (hB c e I left ++ l).set 5 ⟨0, false, 96, 6, [.ptr 4 0 0, .vec c.gs.length (o7 c.gs), .vec c.ms.length (j6 c.ms), .own 8 c.gF 0 c.fs.length, .int .i64 k, .bool c.ar], 0⟩ = hB c e I k ++ l := rfl
theorem cE {j : Nat} : (hB c e I left ++ l)[e.n + j]? = l[j]? := by
  rw [List.getElem?_append_right (by rw [r9]; omega), r9, Nat.add_sub_cancel_left]
theorem gZ : (hB c e I left ++ l)[e.n]? = l[0]? := by
  rw [List.getElem?_append_right (by rw [r9]; omega), r9, Nat.sub_self]
theorem aI {j : Nat} {b : Blk} : (hB c e I left ++ l).set (e.n + j) b = hB c e I left ++ l.set j b := by
  rw [List.set_append_right _ _ (by rw [r9]; omega), r9, Nat.add_sub_cancel_left]
theorem B8 {b : Blk} : (hB c e I left ++ l).set e.n b = hB c e I left ++ l.set 0 b := by
  rw [List.set_append_right _ _ (by rw [r9]; omega), r9, Nat.sub_self]
theorem gC {I' left' : Int} : cI (hB c e I left) (hB c e I' left') := by
  refine cI.of ⟨.inl rfl, .inl rfl, .inl rfl, .inl rfl, .inr (fR.get ⟨.vec _ _, .int _ _, trivial⟩), .inr (fR.get ⟨.ptr _ _ _ ?_, .vec _ _, .vec _ _, .own _ _ _ _ ?_, .int _ _, .bool _, trivial⟩), .inl rfl, .inl rfl, .inl rfl, lY.refl _ _⟩
  · rw [r9]; unfold Frame.n; omega
  · rw [r9]; unfold Frame.n; omega
theorem qX {I' left' : Int} {l' : c6} (hk : lY (e.n + l'.length) l l') : cI (hB c e I left ++ l) (hB c e I' left' ++ l') :=
  gC.app (by rw [r9, r9]) (by rw [r9]; exact hk)
end
theorem famB (c : Core) (e : Frame) (left : Int) : bM 4 c.L e.n fun I => hB c e I left := ⟨fun _ => rfl, fun _ _ => rfl, fun _ => r9⟩
theorem fK {c : Core} {e : Frame} {left : Int} (l : c6) (I n : Int) (hI : OkI c.L I) (hL : c.L.length < 4611686018427387904) (hn : 0 < n) (hm : n ≤ 4611686018427387904) : CallA Try.prog cfg 41 [.ptr 4 0 0, .int .i64 n] (hB c e I left ++ l) (fun y' h' => y' = .int .i64 (c5 c.L I n).1 ∧ h' = hB c e (c5 c.L I n).2 left ++ l) := lF (famB c e left) l I n hI hL hn hm
theorem B9 {c : Core} {e : Frame} {left : Int} (l : c6) (I v : Int) (hI : OkI c.L I) (hL : c.L.length < 4611686018427387904) (names : List BA) (hN : names.length < 1000) (hv : 0 ≤ v ∧ v < 1000) : CallA Try.prog cfg 86 [.ptr 4 0 0, .vec names.length (aC names), .int .i64 v] (hB c e I left ++ l) (fun y' h' => y' = .agg (q9 (u7 c.L names v.toNat I).1) ∧ h' = hB c e (u7 c.L names v.toNat I).2 left ++ l) := by
  have h := KC hL names hN v.toNat (by omega) ((famB c e left).app l) I hI
  rw [Int.toNat_of_nonneg hv.1] at h
  exact h
theorem nV {l : List Mx} {i : Nat} (h : i < l.length) : List.take 1 (List.drop (i * 3 + 2) (j6 l)) = [AV.int .i64 (l.getD i bL).size] := by
  have := congrArg (fun x => x.drop 2) (vL h)
  simp only [List.drop_take, List.drop_drop] at this
  simpa using this
theorem HK {l : List Mx} {i : Nat} (h : i < l.length) : List.take 1 (List.drop (i * 3) (j6 l)) = [AV.str (l.getD i bL).name] := by
  have := congrArg (fun x => x.take 1) (vL h)
  simp only [List.take_take] at this
  simpa using this
theorem J9 {l : List Pm} {i : Nat} (h : i < l.length) : List.take 1 (List.drop (i * 2) (v8 l)) = [AV.str (l.getD i gL).name] := by
  have := congrArg (fun x => x.take 1) (X5 h)
  simp only [List.take_take] at this
  simpa using this
theorem kA {l : List Pm} {i : Nat} (h : i < l.length) : List.take 1 (List.drop (i * 2 + 1) (v8 l)) = [AV.bool (l.getD i gL).mu] := by
  have := congrArg (fun x => x.drop 1) (X5 h)
  simp only [List.drop_take, List.drop_drop] at this
  simpa using this
theorem C0 {c : Core} {vars : List BA} {size I : Int} (h : c.ar = true) (h2 : (c5 c.L I 3).1 = 1) : fY c vars size I = u7 c.L vars 1 (c5 c.L I 3).2 := by rw [fY, if_pos h, if_pos h2]
theorem C1 {c : Core} {vars : List BA} {size I : Int} (h : c.ar = true) (h2 : ¬ (c5 c.L I 3).1 = 1) : fY c vars size I = (.leaf 1 (c5 c.L (c5 c.L I 3).2 size).1 ByteArray.empty, (c5 c.L (c5 c.L I 3).2 size).2) := by rw [fY, if_pos h, if_neg h2]
theorem AX {c : Core} {vars : List BA} {size I : Int} (h : c.ar = false) : fY c vars size I = (.leaf 1 (c5 c.L I size).1 ByteArray.empty, (c5 c.L I size).2) := by rw [fY, if_neg (by rw [h]; decide)]
theorem AY {c : Core} {vars : List BA} {I : Int} (h : c.ar = true) : j0 c vars I = u7 c.L vars (1 + (c5 c.L I 2).1).toNat (c5 c.L I 2).2 := by rw [j0, if_pos h]
theorem AZ {c : Core} {vars : List BA} {I : Int} (h : c.ar = false) : j0 c vars I = u7 c.L vars 0 I := by rw [j0, if_neg (by rw [h]; decide)]
attribute [local go_sem] n5 v9 s9 aP j8 Int.natCast_nonneg Int.natCast_inj List.length_map r9 hB_1 hB_2 hB_5 NY NZ OA OB cE gZ aI B8
theorem yW {n d : Nat} {H : c6} {a : Ex} : l9 (fO n H (d + 1)) (q9 a) = some (q9 a) := by
  rw [bR]
  rfl
theorem HL {r : Rf} : mV (R7 ⟨true, r, l3⟩) (.bool true :: (zI r ++ [.int .i64 0, .int .i64 0, .str ByteArray.empty, .g6])) := ⟨.inl rfl, .inl rfl, .inl rfl, .inl rfl, .inl rfl, .inl rfl, .inr ⟨rfl, rfl⟩, trivial⟩
theorem BB {x : Ex} : mV (R7 ⟨false, m8, x⟩) (.bool false :: .str ByteArray.empty :: .g6 :: q9 x) := ⟨.inl rfl, .inl rfl, .inr ⟨rfl, rfl⟩, mV.refl _⟩
theorem wF {n d : Nat} {H : c6} {l : List Ar} : l9 (gG n H (d + 1)) (bJ l) = some (bJ l) := by
  induction l with
  | nil => rfl
  | cons a l ih =>
    refine tY ?_ ih
    simp only [R7, l9, v7, aG, aA, iY]
section
attribute [local go_sem] bW
theorem c_index {c : Core} {e : Frame} {left I : Int} (hc : OkC c) (hI : OkI c.L I) (hL : c.L.length < 4611686018427387904) (vars : List BA) (hN : vars.length < 1000) (size : Int) (hs : 0 < size ∧ size ≤ 3) : CallA Try.prog cfg 85 [.ptr 5 0 0, .vec vars.length (aC vars), .int .i64 size] (hB c e I left) (fun y' h' => y' = .agg (q9 (fY c vars size I).1) ∧ h' = hB c e (fY c vars size I).2 left) := by
  refine .w fn85 ntm85 ?_
  have h3 := l8 hI (n := 3) (by omega)
  refine c33z ?_
  refine c31z ?_
  refine .spl 11 rfl rfl (fun e1 => ?_) (fun e1 => ?_)
  ·try simp only [e1]
   have qe1 := fact e1
   refine .k 4 [(4, 11)] ?_
   refine .ch rfl rfl (fK _ _ 3 hI hL (by omega) (by omega)) ?_
   refine .m [(4, 11)] ?_
   refine .spl 18 rfl rfl (fun e2 => ?_) (fun e2 => ?_)
   ·try simp only [e2]
    have qe2 := fact e2
    refine .T ?_
    refine .c7 [0, 1, 6] ?_
    refine c31z ?_
    refine .ch rfl rfl (B9 _ _ 1 h3.2.2 hL vars hN (by omega)) ?_
    refine c139z ?_
    exact ⟨hB _ _ _ _, _, _, rfl, by (simp only [r9]; exact Nat.le_refl _), gC, by first | rfl | (simp only [aL, aE, s4, w7, aV, w8, aF, aW, aM, v5, w9, aX, v7, aN, aG, aA, r6, l9, r9, cE, gZ, Nat.lt_irrefl, if_false, reduceIte, List.getElem?_cons_succ, List.getElem?_cons_zero, Nat.not_lt, Nat.le_add_right, Nat.le_refl, and_self, if_true, Bool.false_eq_true, Nat.zero_add, Nat.one_mul, Nat.mul_one, List.drop_zero, j8, iD, bW, eY, iY, eX, yW, wF, Nat.reduceMul, Option.map_some]; rfl), by first | (rw [C0 (by assumption) (by omega)]; exact ⟨rfl, rfl⟩) | (rw [C1 (by assumption) (by omega)]; exact ⟨rfl, rfl⟩) | (rw [AX (by assumption)]; exact ⟨rfl, rfl⟩)⟩
   try simp only [e2]
   have qe2 := fact e2
   refine c4z ?_
   refine .c7 [0, 2, 6] ?_
   refine c31z ?_
   refine .ch rfl rfl (fK _ _ size (by first | exact h3.2.2 | exact hI) hL (by omega) (by omega)) ?_
   refine c139z ?_
   exact ⟨hB _ _ _ _, _, _, rfl, by (simp only [r9]; exact Nat.le_refl _), gC, by first | rfl | (simp only [aL, aE, s4, w7, aV, w8, aF, aW, aM, v5, w9, aX, v7, aN, aG, aA, r6, l9, r9, cE, gZ, Nat.lt_irrefl, if_false, reduceIte, List.getElem?_cons_succ, List.getElem?_cons_zero, Nat.not_lt, Nat.le_add_right, Nat.le_refl, and_self, if_true, Bool.false_eq_true, Nat.zero_add, Nat.one_mul, Nat.mul_one, List.drop_zero, j8, iD, bW, eY, iY, eX, yW, wF, Nat.reduceMul, Option.map_some]; rfl), by first | (rw [C0 (by assumption) (by omega)]; exact ⟨rfl, rfl⟩) | (rw [C1 (by assumption) (by omega)]; exact ⟨rfl, rfl⟩) | (rw [AX (by assumption)]; exact ⟨rfl, rfl⟩)⟩
  try simp only [e1]
  have qe1 := fact e1
  refine .m [(4, 11)] ?_
  refine c4z ?_
  refine .c7 [0, 2, 6] ?_
  refine c31z ?_
  refine .ch rfl rfl (fK _ _ size (by first | exact h3.2.2 | exact hI) hL (by omega) (by omega)) ?_
  refine c139z ?_
  exact ⟨hB _ _ _ _, _, _, rfl, by (simp only [r9]; exact Nat.le_refl _), gC, by first | rfl | (simp only [aL, aE, s4, w7, aV, w8, aF, aW, aM, v5, w9, aX, v7, aN, aG, aA, r6, l9, r9, cE, gZ, Nat.lt_irrefl, if_false, reduceIte, List.getElem?_cons_succ, List.getElem?_cons_zero, Nat.not_lt, Nat.le_add_right, Nat.le_refl, and_self, if_true, Bool.false_eq_true, Nat.zero_add, Nat.one_mul, Nat.mul_one, List.drop_zero, j8, iD, bW, eY, iY, eX, yW, wF, Nat.reduceMul, Option.map_some]; rfl), by first | (rw [C0 (by assumption) (by omega)]; exact ⟨rfl, rfl⟩) | (rw [C1 (by assumption) (by omega)]; exact ⟨rfl, rfl⟩) | (rw [AX (by assumption)]; exact ⟨rfl, rfl⟩)⟩
end
section
attribute [local go_sem] bW wrap64
theorem c_wexpr {c : Core} {e : Frame} {left I : Int} (hc : OkC c) (hI : OkI c.L I) (hL : c.L.length < 4611686018427387904) (vars : List BA) (hN : vars.length < 1000) : CallA Try.prog cfg 65 [.ptr 5 0 0, .vec vars.length (aC vars)] (hB c e I left) (fun y' h' => y' = .agg (q9 (j0 c vars I).1) ∧ h' = hB c e (j0 c vars I).2 left) := by
  refine .w fn65 ntm65 ?_
  have h2 := l8 hI (n := 2) (by omega)
  refine c79z ?_
  refine .spl 9 rfl rfl (fun e1 => ?_) (fun e1 => ?_)
  ·try simp only [e1]
   have qe1 := fact e1
   refine .T ?_
   refine c31z ?_
   refine .ch rfl rfl (B9 _ _ 0 hI hL vars hN (by omega)) ?_
   refine c139z ?_
   exact ⟨hB _ _ _ _, _, _, rfl, by (simp only [r9]; exact Nat.le_refl _), gC, by first | rfl | (simp only [aL, aE, s4, w7, aV, w8, aF, aW, aM, v5, w9, aX, v7, aN, aG, aA, r6, l9, r9, cE, gZ, Nat.lt_irrefl, if_false, reduceIte, List.getElem?_cons_succ, List.getElem?_cons_zero, Nat.not_lt, Nat.le_add_right, Nat.le_refl, and_self, if_true, Bool.false_eq_true, Nat.zero_add, Nat.one_mul, Nat.mul_one, List.drop_zero, j8, iD, bW, eY, iY, eX, yW, wF, Nat.reduceMul, Option.map_some]; rfl), by first | (rw [AY t89]; exact ⟨rfl, rfl⟩) | (rw [AZ t89]; exact ⟨rfl, rfl⟩)⟩
  try simp only [e1]
  have qe1 := fact e1
  refine c4z ?_
  refine .sm z7 (mkP 13 [0, 1, 3, 7, 0, 0, 32, 96, 224, 480, 992, 2047, 4095] [9, 11, 12]) [0, 1, 2, 3, 4] ?_
  refine cO.p (pd := []) 9 ?_
  refine cO.p8 rfl rfl rfl rfl rfl tD (fK _ _ 2 hI hL (by omega) (by omega)) ?_
  refine cO.p 1 ?_
  refine cO.p8 rfl rfl rfl rfl rfl hb86 (B9 _ _ _ h2.2.2 hL vars hN (by omega)) ?_
  refine cO.p 1 ?_
  refine cO.nil t8 ?_
  refine c16z ?_
  exact ⟨hB _ _ _ _, _, _, rfl, by (simp only [r9]; exact Nat.le_refl _), gC, by first | rfl | (simp only [aL, aE, s4, w7, aV, w8, aF, aW, aM, v5, w9, aX, v7, aN, aG, aA, r6, l9, r9, cE, gZ, Nat.lt_irrefl, if_false, reduceIte, List.getElem?_cons_succ, List.getElem?_cons_zero, Nat.not_lt, Nat.le_add_right, Nat.le_refl, and_self, if_true, Bool.false_eq_true, Nat.zero_add, Nat.one_mul, Nat.mul_one, List.drop_zero, j8, iD, bW, eY, iY, eX, yW, wF, Nat.reduceMul, Option.map_some]; rfl), by first | (rw [AY t89]; exact ⟨rfl, rfl⟩) | (rw [AZ t89]; exact ⟨rfl, rfl⟩)⟩
end
theorem jD {l : List BA} {x : BA} : aC (l ++ [x]) = aC l ++ [.str x] := by simp [aC]
theorem Q1 {c : Core} {i : Nat} (h : i < c.ms.length) : (c.ms.map (·.name)).take (i + 1) = (c.ms.map (·.name)).take i ++ [(c.ms.getD i bL).name] := by
  rw [List.take_add_one]
  simp [List.getD, h]
theorem yX (l m : List Pm) : extra (l ++ m) = extra l ++ extra m := by
  induction l with
  | nil => rfl
  | cons p l ih => simp only [List.cons_append, extra]; split <;> simp [ih]
theorem uC {l : List Pm} {j : Nat} (h : j < l.length) : l.take (j + 1) = l.take j ++ [l.getD j gL] := by
  rw [List.take_add_one]
  simp [List.getD, h]
theorem BC {c : Core} {ps : List Pm} : j9 c (ps.take 0) = c.ms.map (·.name) := by simp [j9, extra]
theorem rn_t {c : Core} {ps : List Pm} {j : Nat} (h : j < ps.length) (hm : (ps.getD j gL).mu = true) : j9 c (ps.take (j + 1)) = j9 c (ps.take j) ++ [(ps.getD j gL).name] ++ [(ps.getD j gL).name] := by
  rw [uC h]
  simp only [j9, yX, List.append_assoc]
  simp only [extra, hm, if_true]
  rfl
theorem rn_f {c : Core} {ps : List Pm} {j : Nat} (h : j < ps.length) (hm : (ps.getD j gL).mu = false) : j9 c (ps.take (j + 1)) = j9 c (ps.take j) := by
  rw [uC h]
  simp only [j9, yX]
  simp only [extra, hm, Bool.false_eq_true, if_false, List.append_nil]
theorem C2 {c : Core} {ps : List Pm} {vars : List BA} {I : Int} (h1 : (c5 c.L I (j9 c ps).length).1 < c.ms.length) (h2 : 0 < (c.ms.getD (c5 c.L I (j9 c ps).length).1.toNat bL).size) : r8 c ps vars I =
    (⟨(j9 c ps).getD (c5 c.L I (j9 c ps).length).1.toNat ByteArray.empty, [(fY c vars (c.ms.getD (c5 c.L I (j9 c ps).length).1.toNat bL).size (c5 c.L I (j9 c ps).length).2).1]⟩, (fY c vars (c.ms.getD (c5 c.L I (j9 c ps).length).1.toNat bL).size (c5 c.L I (j9 c ps).length).2).2) := if_pos ⟨h1, h2⟩
theorem C3 {c : Core} {ps : List Pm} {vars : List BA} {I : Int} (h : ¬ ((c5 c.L I (j9 c ps).length).1 < c.ms.length ∧ 0 < (c.ms.getD (c5 c.L I (j9 c ps).length).1.toNat bL).size)) : r8 c ps vars I =
    (⟨(j9 c ps).getD (c5 c.L I (j9 c ps).length).1.toNat ByteArray.empty, []⟩, (c5 c.L I (j9 c ps).length).2) := if_neg h
theorem encN_ne {l : List BA} (h : 0 < l.length) : aC l ≠ [] := by
  intro e
  have := congrArg List.length e
  rw [v9, List.length_nil] at this
  omega
theorem sN {x : Ex} : m7 [x] = q9 x := by simp [m7]
theorem BD {c : Core} {e : Frame} {I left : Int} {fb rb : Blk} {g n : Nat} {zs : List BA} {x : AV} (hz : zs.length = n) (hn : n < 1000) :
    j7 cfg 9 (hB c e I left ++ [fb, rb, p9 9 1 g (aC zs), ⟨0, false, 9, 1, [x], 0⟩]) (.own (e.n + 2) g 0 n) (.own (e.n + 3) 0 0 1) = some (.own (e.n + 2) (g + 1) 0 (n + 1), hB c e I left ++ [fb, rb, p9 9 1 (g + 1) (aC zs ++ [x]), ⟨0, false, 9, 1, [x], 0⟩]) := by
  have hb : (hB c e I left ++ [fb, rb, p9 9 1 g (aC zs), ⟨0, false, 9, 1, [x], 0⟩])[e.n + 2]? = some (p9 9 1 g (aC zs)) := cE
  rw [aR (C := cfg) (K := 1) (m := 1) (new := [x]) hb rfl (by omega) (by rw [v9, hz, Nat.mul_one]) rfl (by omega) t94 rfl (by decide) (by omega), aI]
  rfl
theorem Q2 {c : Core} {e : Frame} {I left : Int} {fb rb : Blk} {g n : Nat} {zs : List BA} {x y : AV} (hz : zs.length = n) (hn : n < 1000) :
    j7 cfg 9 (hB c e I left ++ [fb, rb, p9 9 1 g (aC zs), ⟨0, false, 9, 1, [x, y], 0⟩]) (.own (e.n + 2) g 0 n) (.own (e.n + 3) 0 0 2) = some (.own (e.n + 2) (g + 1) 0 (n + 2), hB c e I left ++ [fb, rb, p9 9 1 (g + 1) (aC zs ++ [x, y]), ⟨0, false, 9, 1, [x, y], 0⟩]) := by
  have hb : (hB c e I left ++ [fb, rb, p9 9 1 g (aC zs), ⟨0, false, 9, 1, [x, y], 0⟩])[e.n + 2]? = some (p9 9 1 g (aC zs)) := cE
  rw [aR (C := cfg) (K := 1) (m := 2) (new := [x, y]) hb rfl (by omega) (by rw [v9, hz, Nat.mul_one]) rfl (by omega) t94 rfl (by decide) (by omega), aI]
  rfl
theorem KO {n : Nat} {l : List BA} : ∀ x ∈ aC l, Refs n x := by
  intro x hx
  obtain ⟨y, _, rfl⟩ := List.mem_map.1 hx
  exact .str _
theorem Frame.n_ge (e : Frame) : 9 ≤ e.n := by unfold Frame.n; omega
theorem HM {c : Core} {e : Frame} {left I : Int} {l : c6} (hc : OkC c) (hI : OkI c.L I) (hL : c.L.length < 4611686018427387904) (vars : List BA) (hN : vars.length < 1000) (size : Int) (hs : 0 < size ∧ size ≤ 3) : CallA Try.prog cfg 85 [.ptr 5 0 0, .vec vars.length (aC vars), .int .i64 size] (hB c e I left ++ l) (fun y' h' => y' = .agg (q9 (fY c vars size I).1) ∧ h' = hB c e (fY c vars size I).2 left ++ l) := c_index (e := ⟨e.b0, e.b1, e.b2, e.z, e.m, e.g, e.rest ++ l⟩) hc hI hL vars hN size hs
theorem K0 {c : Core} {e : Frame} {left I : Int} {l : c6} (hc : OkC c) (hI : OkI c.L I) (hL : c.L.length < 4611686018427387904) (vars : List BA) (hN : vars.length < 1000) : CallA Try.prog cfg 65 [.ptr 5 0 0, .vec vars.length (aC vars)] (hB c e I left ++ l) (fun y' h' => y' = .agg (q9 (j0 c vars I).1) ∧ h' = hB c e (j0 c vars I).2 left ++ l) := c_wexpr (e := ⟨e.b0, e.b1, e.b2, e.z, e.m, e.g, e.rest ++ l⟩) hc hI hL vars hN
section
attribute [local go_sem] bW wrap64 dZ BD Q2 HK nV J9 kA pO yJ A9 wU max2
theorem c_ref {c : Core} {e : Frame} {left I : Int} (hc : OkC c) (hI : OkI c.L I) (hL : c.L.length < 4611686018427387904) (vars : List BA) (hN : vars.length < 1000) (f : Fu) (hp : f.params.length ≤ 2) : CallA Try.prog cfg 64 [.ptr 5 0 0, .agg (dZ f), .vec vars.length (aC vars)] (hB c e I left) (fun y' h' => y' = .agg (zI (r8 c f.params vars I).1) ∧ h' = hB c e (r8 c f.params vars I).2 left) := by
  refine .w fn64 ntm64 ?_
  have hml := hc.ml
  refine c78z ?_
  refine c8.O4 7 rfl ?_
  refine .dU (fun m st => ∃ (i : Nat), (m = c.ms.length - i ∧ i ≤ c.ms.length) ∧ st = ⟨mkS 107 [(0, AV.ptr 5 0 0), (2, AV.vec vars.length (aC vars)), (4, AV.ptr e.n 0 0), (6, AV.ptr (e.n + 1) 0 0), (7, AV.own (e.n + 2) i 0 i), (8, AV.int .i64 ((i : Nat) : Int))], hB c e I left ++ [⟨0, false, 104, 3, [.str f.name, .vec f.params.length (v8 f.params), .vec f.body.len (n8 f.body)], 0⟩, ⟨0, false, 153, 2, [.str ByteArray.empty, .g6], 0⟩, p9 9 1 i (aC ((c.ms.map (·.name)).take i))]⟩) (.v ⟨0, ⟨rfl, by omega⟩, rfl⟩ (hs := t28) (hr := t1)) ?_
  rintro m sl h' ⟨i, ⟨hm, hi⟩, hst⟩
  obtain ⟨rfl, rfl⟩ := St.mk.inj hst; clear hst
  have htk : ((c.ms.map (·.name)).take i).length = i := by simp; omega
  refine c0z ?_
  refine .spl 20 rfl rfl (fun e1 => ?_) (fun e1 => ?_)
  ·try simp only [e1]
   have qe1 := fact e1
   refine c11z ?_
   refine .c7 [0, 2, 4, 6, 7, 8] ?_
   refine c159z ?_
   refine .c7 [0, 2, 4, 6, 7, 8] ?_
   refine .rz ?_
   exact ⟨_, by omega, .v ⟨(i + 1), ⟨rfl, by omega⟩, rfl⟩ (he := by (rw [Q1 (by omega), jD]; simp only [List.append_assoc, List.cons_append, List.nil_append]; rfl)) (hl := t21) (hk := t79) (hs := t28) (hr := t1)⟩
  try simp only [e1]
  have qe1 := fact e1
  refine c3z ?_
  obtain rfl : i = c.ms.length := by omega
  change c8 ..
  refine .c7 [0, 2, 4, 6, 7] ?_
  refine c22z ?_
  refine .dU (fun m st => ∃ (j : Nat) (g : Nat), (m = f.params.length - j ∧ j ≤ f.params.length) ∧ st = ⟨mkS 107 [(0, AV.ptr 5 0 0), (2, AV.vec vars.length (aC vars)), (4, AV.ptr e.n 0 0), (6, AV.ptr (e.n + 1) 0 0), (7, AV.own (e.n + 2) g 0 (j9 c (f.params.take j)).length), (9, AV.int .i64 ((c.ms.length : Nat) : Int)), (10, AV.int .i64 ((j : Nat) : Int))], hB c e I left ++ [⟨0, false, 104, 3, [.str f.name, .vec f.params.length (v8 f.params), .vec f.body.len (n8 f.body)], 0⟩, ⟨0, false, 153, 2, [.str ByteArray.empty, .g6], 0⟩, p9 9 1 g (aC (j9 c (f.params.take j)))]⟩) (.v ⟨0, c.ms.length, ⟨rfl, by omega⟩, rfl⟩ (hs := t42) (hr := t1)) ?_ (he := by (rw [BC, show (c.ms.map (·.name)).take c.ms.length = c.ms.map (·.name) from List.take_of_length_le (by simp)]))
  rintro m sl h' ⟨j, g, ⟨hm, hj⟩, hst⟩
  obtain ⟨rfl, rfl⟩ := St.mk.inj hst; clear hst
  have hxl := (lE hc (f.params.take j)).2
  have hxt : (f.params.take j).length ≤ 2 := by simp; omega
  refine c0z ?_
  refine .spl 41 rfl rfl (fun e2 => ?_) (fun e2 => ?_)
  ·try simp only [e2]
   have qe2 := fact e2
   refine c11z ?_
   refine .z ?_
   refine .spl 49 rfl rfl (fun e3 => ?_) (fun e3 => ?_)
   ·try simp only [e3]
    have qe3 := fact e3
    refine .T ?_
    refine .c7 [0, 2, 4, 6, 7, 9, 10] ?_
    refine c8.jP z7 (mkP 16 [0, 0, 2, 0, 14, 30, 62, 0, 128, 0, 896, 1920, 3968, 8190, 16383, 32767] [13, 14]) [0] (by kernel_rfl) (by kernel_rfl) ?_
    refine cO.p (pd := []) 16 ?_
    refine cO.nil t8 ?_
    change c8 ..
    refine .c7 [0, 2, 4, 6, 7, 9, 10] ?_
    refine .rz ?_
    have hxs := congrArg List.length (rn_t (c := c) (j := j) (ps := f.params) (by omega) (by assumption)); simp only [List.length_append, List.length_singleton] at hxs
    exact ⟨_, by omega, .v ⟨(j + 1), (g + 1), ⟨rfl, by omega⟩, rfl⟩ (he := by (rw [rn_t (by omega) (by assumption), jD, jD]; simp only [List.append_assoc, List.cons_append, List.nil_append]; rfl)) (hl := t21) (hk := t79) (hs := t42) (hr := t1)⟩
   try simp only [e3]
   have qe3 := fact e3
   refine c13z ?_
   refine .c7 [0, 2, 4, 6, 7, 9, 10] ?_
   refine .rz ?_
   have hxs := congrArg List.length (rn_f (c := c) (j := j) (ps := f.params) (by omega) (by assumption))
   exact ⟨_, by omega, .v ⟨(j + 1), g, ⟨rfl, by omega⟩, rfl⟩ (he := by (rw [rn_f (by omega) (by assumption)]; exact (List.append_nil _).symm)) (hl := t21) (hk := t79) (hs := t42) (hr := t1)⟩
  try simp only [e2]
  have qe2 := fact e2
  refine c3z ?_
  obtain rfl : j = f.params.length := by omega
  rw [List.take_length] at hxl ⊢
  change c8 ..
  have hrl := lE hc f.params
  have hk := l8 hI (n := ((j9 c f.params).length : Int)) (by omega)
  rw [fC (encN_ne hrl.1)]
  refine c103z ?_
  refine .ch rfl rfl (fK _ _ _ hI hL (by omega) (by omega)) ?_
  refine .n ?_
  refine .c7 [0, 2, 6, 7, 9, 11] ?_
  refine c33z ?_
  refine c24z ?_
  refine .spl 80 rfl rfl (fun e4 => ?_) (fun e4 => ?_)
  ·try simp only [e4]
   have qe4 := fact e4
   refine .k 8 [(3, 80)] ?_
   refine .m [(3, 80)] ?_
   refine .spl 91 rfl rfl (fun e5 => ?_) (fun e5 => ?_)
   ·try simp only [e5]
    have qe5 := fact e5
    refine .T ?_
    refine .c7 [0, 2, 6, 11, 12] ?_
    have hsz := hc.mx (c5 c.L I (j9 c f.params).length).1.toNat (by omega)
    refine c118z ?_
    refine .e 3 ?_
    refine .ch rfl rfl (HM hc hk.2.2 hL vars hN _ (by omega)) ?_
    refine c45z ?_
    refine .c7 [6, 12] ?_
    refine c62z ?_
    exact ⟨hB _ _ _ _, _, _, rfl, by (simp only [r9]; exact Nat.le_refl _), gC, by first | rfl | (simp only [aL, aE, s4, w7, aV, w8, aF, aW, aM, v5, w9, aX, v7, aN, aG, aA, r6, l9, r9, cE, gZ, Nat.lt_irrefl, if_false, reduceIte, List.getElem?_cons_succ, List.getElem?_cons_zero, Nat.not_lt, Nat.le_add_right, Nat.le_refl, and_self, if_true, Bool.false_eq_true, Nat.zero_add, Nat.one_mul, Nat.mul_one, List.drop_zero, j8, iD, bW, eY, iY, eX, yW, wF, Nat.reduceMul, Option.map_some]; rfl), by first | (rw [C2 (by omega) (by omega)]; refine ⟨?_, rfl⟩; simp only [zI, sN]; rfl) | (rw [C3 (by omega)]; exact ⟨rfl, rfl⟩)⟩
   try simp only [e5]
   have qe5 := fact e5
   refine c4z ?_
   refine .c7 [6, 12] ?_
   refine c62z ?_
   exact ⟨hB _ _ _ _, _, _, rfl, by (simp only [r9]; exact Nat.le_refl _), gC, by first | rfl | (simp only [aL, aE, s4, w7, aV, w8, aF, aW, aM, v5, w9, aX, v7, aN, aG, aA, r6, l9, r9, cE, gZ, Nat.lt_irrefl, if_false, reduceIte, List.getElem?_cons_succ, List.getElem?_cons_zero, Nat.not_lt, Nat.le_add_right, Nat.le_refl, and_self, if_true, Bool.false_eq_true, Nat.zero_add, Nat.one_mul, Nat.mul_one, List.drop_zero, j8, iD, bW, eY, iY, eX, yW, wF, Nat.reduceMul, Option.map_some]; rfl), by first | (rw [C2 (by omega) (by omega)]; refine ⟨?_, rfl⟩; simp only [zI, sN]; rfl) | (rw [C3 (by omega)]; exact ⟨rfl, rfl⟩)⟩
  try simp only [e4]
  have qe4 := fact e4
  refine .k 8 [(3, 80)] ?_
  refine .m [(3, 80)] ?_
  refine c4z ?_
  refine .c7 [6, 12] ?_
  refine c62z ?_
  exact ⟨hB _ _ _ _, _, _, rfl, by (simp only [r9]; exact Nat.le_refl _), gC, by first | rfl | (simp only [aL, aE, s4, w7, aV, w8, aF, aW, aM, v5, w9, aX, v7, aN, aG, aA, r6, l9, r9, cE, gZ, Nat.lt_irrefl, if_false, reduceIte, List.getElem?_cons_succ, List.getElem?_cons_zero, Nat.not_lt, Nat.le_add_right, Nat.le_refl, and_self, if_true, Bool.false_eq_true, Nat.zero_add, Nat.one_mul, Nat.mul_one, List.drop_zero, j8, iD, bW, eY, iY, eX, yW, wF, Nat.reduceMul, Option.map_some]; rfl), by first | (rw [C2 (by omega) (by omega)]; refine ⟨?_, rfl⟩; simp only [zI, sN]; rfl) | (rw [C3 (by omega)]; exact ⟨rfl, rfl⟩)⟩
end
end Go.Proofs.Ytbmaijdkebjnhaa
end
