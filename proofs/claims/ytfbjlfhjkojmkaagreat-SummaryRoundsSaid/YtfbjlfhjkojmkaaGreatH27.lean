/- My own texts, put together by a program of mine. -/
import Derived.Test.YtfbjlfhjkojmkaaGreatH26
set_option linter.unusedSimpArgs false
set_option linter.unusedVariables false
set_option maxRecDepth 100000
set_option maxHeartbeats 4000000
section
namespace Go.Proofs.YtfbjlfhjkojmkaaGreat
open Go.Ab Go.Un
variable {i : Nat}
theorem pS {l : List (List Int)} (h : i < l.length) : List.take 1 (List.drop i (m6 l)) = [.vec (l.getD i []).length (g7 (l.getD i []))] := by
  unfold m6
  rw [← List.map_drop, ← List.map_take, List.drop_eq_getElem_cons h, List.take_succ_cons, List.take_zero]
  simp [List.getD, h]
variable {c : Clo}
theorem jS (h : i < c.insts.length) : List.take 2 (List.drop (i * 2) (l5 c.insts)) = [.int .i64 (itI c i).proc, .vec (itI c i).j4.length (g7 (itI c i).j4)] := CV h
variable {k : Nat}
theorem K5 : (((k + 1 : Nat) : Int) - 1) = ((k : Nat) : Int) := by omega
theorem pT (n : Nat) : (List.replicate n [AV.j6]).flatten = List.replicate n AV.j6 := by
  induction n with
  | zero => rfl
  | succ n ih => rw [List.replicate_succ, List.flatten_cons, ih]; rfl
variable {r : List Nat}
theorem vV {T : List (List Nat)} (h : i < T.length) : List.take i (s3 T) ++ AV.vec r.length (r.map q9) :: List.drop (i + 1) (s3 T) = s3 (T.set i r) := overT h
theorem jT : (1 ≤ maxLen) = True := eq_true (by decide)
theorem overT0 {T : List (List Nat)} (h : 0 < T.length) : bR r :: List.drop 1 (s3 T) = s3 (T.set 0 r) := overT (i := 0) h
variable {n : Nat} {Z : List Nat}
theorem vW (h : 0 < n) : AV.vec r.length (r.map q9) :: List.drop 1 (s3 (List.replicate n Z)) = s3 ((List.replicate n Z).set 0 r) := overT0 (by rw [List.length_replicate]; exact h)
variable {h : c6} {u : Un} {mx pc : Nat}
theorem RN (hu : WU u) (wc : WC u c) (hmx : mx < u.c4.length) (hi : i < c.insts.length) (hp : pc < gI u c i) : CB 39 [.agg [.vec u.globals.length (g7 u.globals), .vec u.c4.length (g5 u.c4), .vec u.procs.length (j7 u.procs), .int .i64 u.main], .agg [.int .i64 (itI c i).proc, .vec (itI c i).j4.length (g7 (itI c i).j4)], .int .i64 ((pc : Nat) : Int), .int .i64 ((mx : Nat) : Int)] h (bR (dhN (kM u mx) (chI (itI c i) (mG u c i pc) mx))) :=
  (c_rel hu (gZ wc hi) hp hmx).mono fun y k hq => ⟨hq.1.trans (T4 _ _), hq.2⟩
theorem c_idN (k : Nat) (hk : k ≤ 8) : CB 70 [.int .i64 ((k : Nat) : Int)] h (bR (dhN k 0)) :=
  (c_id k hk).mono fun y k hq => ⟨hq.1.trans (T4 _ _), hq.2⟩
def vX (n i : Nat) (Z : List Nat) : List AV := s3 (List.replicate i Z) ++ List.replicate (n - i) AV.j6
theorem lX (h : i ≤ n) : (vX n i Z).length = n := by simp [vX, z8]; omega
theorem oN : vX n 0 Z = List.replicate n AV.j6 := by simp [vX, s3]
theorem rV : vX n n Z = s3 (List.replicate n Z) := by simp [vX]
theorem HM : List.take i (vX n i Z) = s3 (List.replicate i Z) := by
  unfold vX
  rw [List.take_append_of_le_length (by simp [z8]), List.take_of_length_le (by simp [z8])]
theorem HN : List.drop (i + 1) (vX n i Z) = List.replicate (n - (i + 1)) AV.j6 := by
  unfold vX
  rw [List.drop_append, List.drop_of_length_le (by simp [z8]), z8, List.length_replicate, List.nil_append, List.drop_replicate]
  congr 1
  omega
theorem AE {x : AV} : List.take i (vX n i Z) ++ x :: List.drop (i + 1) (vX n i Z) = s3 (List.replicate i Z) ++ x :: List.replicate (n - (i + 1)) AV.j6 := by rw [HM, HN]
theorem HO : s3 (List.replicate i Z) ++ bR Z :: List.replicate (n - (i + 1)) AV.j6 = vX n (i + 1) Z := by
  unfold vX
  rw [List.replicate_succ', s3, s3, List.map_append, List.append_assoc]
  rfl
theorem AF : s3 (List.replicate i (List.replicate (k + 1) 0)) ++ AV.vec (k + 1) ((List.replicate (k + 1) 0).map q9) :: List.replicate (n - (i + 1)) AV.j6 = vX n (i + 1) (List.replicate (k + 1) 0) := by
  rw [← HO]
  simp [bR]
theorem uL (N : Nat) : ∀ x ∈ vX n i Z, Refs N x := fun x hx => by
  rcases List.mem_append.1 hx with hx | hx
  · exact (OG _).refs _ x hx
  · rw [List.eq_of_mem_replicate hx]; exact .j6
theorem c9.OJ {c : Code} {sl : List AV} {H : c6} {Q : Exit → St → Prop} {β γ len e e' : Nat} {A R : List AV} {zs : List Nat} (hβ : H[β]? = some ⟨0, false, e, 1, A ++ .own γ 0 0 len :: R, 0⟩) (hγ : H[γ]? = some ⟨0, false, e', 1, zs.map q9, 0⟩) (hz : zs.length = len) (hne : β ≠ γ)
    (r : c9 Tryz.prog cfg c ⟨sl, (H.set γ ⟨0, false, e', 1, zs.map q9, len⟩).set β ⟨0, false, e, 1, A ++ .vec len (zs.map q9) :: R, 0⟩⟩ Q) : c9 Tryz.prog cfg c ⟨sl, H⟩ Q := by
  subst hz
  refine c9.A0 (γ := γ) (β := β) (k := A.length) (off := 0) (len := zs.length) (cs := zs.map q9) hγ rfl (by simp) ?_ hβ hne (by simp) ?_
  · show o2 nE (List.take (zs.length * 1) (List.drop 0 (zs.map q9))) = _
    rw [List.drop_zero, Nat.mul_one, List.take_of_length_le (by simp)]
    exact (plnN zs).PR
  · have e1 : cJ ⟨0, false, e', 1, zs.map q9, 0⟩ (0 + zs.length * 1) = ⟨0, false, e', 1, zs.map q9, zs.length⟩ := by
      simp only [cJ, Nat.zero_add, Nat.mul_one, Nat.zero_max]
    have e2 : (A ++ AV.own γ 0 0 zs.length :: R).set A.length (.vec zs.length (zs.map q9)) = A ++ .vec zs.length (zs.map q9) :: R := by simp
    show c9 Tryz.prog cfg c ⟨sl, (H.set γ (cJ ⟨0, false, e', 1, zs.map q9, 0⟩ (0 + zs.length * 1))).set β ⟨0, false, e, 1, (A ++ AV.own γ 0 0 zs.length :: R).set A.length (.vec zs.length (zs.map q9)), 0⟩⟩ Q
    rw [e1, e2]
    exact r
def E2 (W : List Nat) (l q : Nat) : List Nat := if l + 1 ≤ W.length then W.set l q else W.take l ++ [q]
def HP (W : List Nat) (g l : Nat) : Nat := if l + 1 ≤ W.length then g else g + 1
variable {W : List Nat} {q : Nat}
theorem AG {l : Nat} (h : l ≤ W.length) : (E2 W l q).take (l + 1) = W.take l ++ [q] := by
  unfold E2
  split
  · rename_i h1
    rw [List.take_add_one, List.take_set, List.set_eq_of_length_le t57, List.getElem?_set_self (by omega)]
    rfl
  · rw [List.take_of_length_le t57]
theorem HQ {l : Nat} (h : l ≤ W.length) : l + 1 ≤ (E2 W l q).length := by
  unfold E2
  split
  · rw [List.length_set]; assumption
  · rw [List.length_append, List.length_take, List.length_singleton]; omega
theorem HR (h : k + 1 ≤ W.length) : W.take (k + 1) = W.take k ++ [W.getD k 0] := by
  rw [List.take_add_one, List.getElem?_eq_getElem (by omega)]
  simp [List.getD, show k < W.length from by omega]
variable {g : Nat}
theorem OK {l : c6} {b0 b1 : Blk} (hn : n ≤ W.length) (hl : n < 1000000000) : j5 cfg 3 (h ++ (b0 :: b1 :: ⟨g, false, 3, 1, W.map q9, 0⟩ :: ⟨0, false, 3, 1, [.int .i64 ((q : Nat) : Int)], 0⟩ :: l)) (.own (h.length + 2) g 0 n) (.own (h.length + 3) 0 0 1) = some (.own (h.length + 2) (HP W g n) 0 (n + 1), h ++ (b0 :: b1 :: ⟨HP W g n, false, 3, 1, (E2 W n q).map q9, 0⟩ :: ⟨0, false, 3, 1, [.int .i64 ((q : Nat) : Int)], 0⟩ :: l)) := by
  have e1 : cfg.sz 3 = 1 := rfl
  have e2 : (cfg.ti 3).bytes = 8 := rfl
  have h1 : n + 1 ≤ maxLen := by
    have : (1000000001 : Nat) ≤ maxLen := by decide
    omega
  have h2 : (n + 1) * 8 ≤ 140737488355328 := by omega
  by_cases hc : n + 1 ≤ W.length
  · have e3 : List.take n (W.map q9) ++ AV.int .i64 ((q : Nat) : Int) :: List.drop (n + 1) (W.map q9) = (W.set n q).map q9 := RG (by omega)
    simp [j5, rd, lenOf, e1, e2, h1, h2, hc, hn, over, r7, o7, E2, HP]
    rw [e3]
    simp
  · have h3 : List.take n (W.map q9) = W.map q9 := List.take_of_length_le t57
    have h4 : List.take n W = W := List.take_of_length_le (by omega)
    simp [j5, rd, lenOf, e1, e2, h1, h2, hc, hn, r7, o7, E2, HP, h4, q9]
    exact h3
attribute [local go_sem] rd bR u7 aK s5 n5 l9 dO z8 Int.natCast_nonneg Int.natCast_inj lS dD lT jP gY jQ lC pS K2 vV jT vW AE lX tW tX pT List.length_set List.length_replicate Int.toNat_natCast_add_one kV wrap64 K5 List.length_map
variable {S : List (List Nat)}
theorem c_stepA (hu : WU u) (wc : WC u c) (hmx : mx < u.c4.length) (hS : Tb (kM u mx) c.insts.length S) (hi : i < c.insts.length) (hp : pc < gI u c i) (l : c6) : CB 38 [.int .i64 ((pc : Nat) : Int), .ptr h.length 0 0, .ptr (h.length + 5) 0 0, .ptr (h.length + 3) 0 0, .ptr (h.length + 1) 0 0, .ptr (h.length + 4) 0 0, .ptr (h.length + 2) 0 0] (h ++ (⟨0, false, 30, 4, [.vec u.globals.length (g7 u.globals), .vec u.c4.length (g5 u.c4), .vec u.procs.length (j7 u.procs), .int .i64 u.main], 0⟩ :: ⟨0, false, 34, 3, [.vec c.insts.length (l5 c.insts), .vec c.calls.length (m6 c.calls), .vec c.roots.length (g7 c.roots)], 0⟩ :: ⟨0, false, 3, 1, [.int .i64 ((mx : Nat) : Int)], 0⟩ :: ⟨0, false, 32, 1, [.vec c.insts.length (s3 S)], 0⟩ :: ⟨0, false, 3, 1, [.int .i64 ((i : Nat) : Int)], 0⟩ :: ⟨0, false, 69, 2, [.int .i64 (itI c i).proc, .vec (itI c i).j4.length (g7 (itI c i).j4)], 0⟩ :: l)) (bR (stS u c mx S i pc)) := by
  refine .bz Tryz.f38 37 ?_
  have w := gZ wc hi
  have w1 := w.lo; have w2 := w.hi
  have hsz : (c8 u (itI c i)).length ≤ 1664 := r8 hu w
  have hcl := wc.cl
  have hcll : (c.calls.getD i []).length = (c8 u (itI c i)).length := wc.cll i hi
  have hp2 : pc < (c8 u (itI c i)).length := hp
  have hSl := hS.1
  have hwl := wc.len
  have hcall : (mG u c i pc).op = 2 → 0 ≤ (c.calls.getD i []).getD pc 0 ∧ (c.calls.getD i []).getD pc 0 < c.insts.length := fun ho => by have := (wc.call i hi pc hp).1 (.inl ho); exact ⟨this.1, this.2.1⟩
  have hop : mG u c i pc = (c8 u (itI c i)).getD pc g6 := rfl
  rw [hop] at hcall
  refine c26z ?_
  refine c177z ?_
  refine u2z ?_ ?_
  ·intro e1 qe1
   refine .c7 [0, 3, 4, 5] ?_
   obtain ⟨hc1, hc2⟩ := hcall (by omega)
   refine .ss s9 (mkP 12 [0, 0, 2, 0, 14, 30, 0, 126, 254, 511, 1023, 2047] []) ?_
   refine c59z ?_
   exact .ret (.ex (hq := t53))
  intro e1 qe1
  refine .sk ?_
  refine .c7 [0, 1, 2, 6] ?_
  refine c31z ?_
  refine .ca rfl rfl (RN hu wc hmx hi hp) ?_
  refine .n ?_
  exact .ret (.ex (hq := t53))
variable {A R : c6}
theorem HS {X : c6} {B : Blk} : (A ++ (B :: (R ++ X)))[A.length + 1 + R.length + k]? = X[k]? := by
  rw [List.getElem?_append_right (by omega), show A.length + 1 + R.length + k - A.length = (R.length + k) + 1 from by omega, List.getElem?_cons_succ, List.getElem?_append_right (by omega)]
  congr 1
  omega
theorem OL {X : c6} {B : Blk} : (A ++ (B :: (R ++ X)))[A.length + 1 + R.length]? = X[0]? := HS (k := 0)
section
attribute [local go_sem] HS OL
theorem OM (hu : WU u) (wc : WC u c) (hmx : mx < u.c4.length) (hS : Tb (kM u mx) c.insts.length S) (hi : i < c.insts.length) (hp : pc < gI u c i) (l : c6) : CB 38 [.int .i64 ((pc : Nat) : Int), .ptr (A.length + 1 + R.length) 0 0, .ptr (A.length + 1 + R.length + 5) 0 0, .ptr (A.length + 1 + R.length + 3) 0 0, .ptr (A.length + 1 + R.length + 1) 0 0, .ptr (A.length + 1 + R.length + 4) 0 0, .ptr (A.length + 1 + R.length + 2) 0 0] (A ++ (⟨g, false, 22, 1, s3 S, 0⟩ :: (R ++ (⟨0, false, 30, 4, [.vec u.globals.length (g7 u.globals), .vec u.c4.length (g5 u.c4), .vec u.procs.length (j7 u.procs), .int .i64 u.main], 0⟩ :: ⟨0, false, 34, 3, [.vec c.insts.length (l5 c.insts), .vec c.calls.length (m6 c.calls), .vec c.roots.length (g7 c.roots)], 0⟩ :: ⟨0, false, 3, 1, [.int .i64 ((mx : Nat) : Int)], 0⟩ :: ⟨0, false, 32, 1, [.own A.length g 0 c.insts.length], 0⟩ :: ⟨0, false, 3, 1, [.int .i64 ((i : Nat) : Int)], 0⟩ :: ⟨0, false, 69, 2, [.int .i64 (itI c i).proc, .vec (itI c i).j4.length (g7 (itI c i).j4)], 0⟩ :: l)))) (bR (stS u c mx S i pc)) := by
  refine .bz Tryz.f38 37 ?_
  have w := gZ wc hi
  have w1 := w.lo; have w2 := w.hi
  have hsz : (c8 u (itI c i)).length ≤ 1664 := r8 hu w
  have hcl := wc.cl
  have hcll : (c.calls.getD i []).length = (c8 u (itI c i)).length := wc.cll i hi
  have hp2 : pc < (c8 u (itI c i)).length := hp
  have hSl := hS.1
  have hwl := wc.len
  have hcall : (mG u c i pc).op = 2 → 0 ≤ (c.calls.getD i []).getD pc 0 ∧ (c.calls.getD i []).getD pc 0 < c.insts.length := fun ho => by have := (wc.call i hi pc hp).1 (.inl ho); exact ⟨this.1, this.2.1⟩
  have hop : mG u c i pc = (c8 u (itI c i)).getD pc g6 := rfl
  rw [hop] at hcall
  refine c26z ?_
  refine c177z ?_
  refine u2z ?_ ?_
  ·intro e1 qe1
   refine .c7 [0, 3, 4, 5] ?_
   obtain ⟨hc1, hc2⟩ := hcall (by omega)
   refine .ss s9 (mkP 12 [0, 0, 2, 0, 14, 30, 0, 126, 254, 511, 1023, 2047] []) ?_
   refine c59z ?_
   exact .ret (.ex (hq := t53))
  intro e1 qe1
  refine .sk ?_
  refine .c7 [0, 1, 2, 6] ?_
  refine c31z ?_
  refine .ca rfl rfl (RN hu wc hmx hi hp) ?_
  refine .n ?_
  exact .ret (.ex (hq := t53))
end
def lD (u : Un) (c : Clo) (mx : Nat) (S : List (List Nat)) (i : Nat) (sv : AV) (h : c6) : Prop := ∀ pc, pc < gI u c i → ∀ l, CallA Tryz.prog cfg 38 [.int .i64 ((pc : Nat) : Int), .ptr h.length 0 0, .ptr (h.length + 5) 0 0, .ptr (h.length + 3) 0 0, .ptr (h.length + 1) 0 0, .ptr (h.length + 4) 0 0, .ptr (h.length + 2) 0 0] (h ++ (⟨0, false, 30, 4, [.vec u.globals.length (g7 u.globals), .vec u.c4.length (g5 u.c4), .vec u.procs.length (j7 u.procs), .int .i64 u.main], 0⟩ :: ⟨0, false, 34, 3, [.vec c.insts.length (l5 c.insts), .vec c.calls.length (m6 c.calls), .vec c.roots.length (g7 c.roots)], 0⟩ :: ⟨0, false, 3, 1, [.int .i64 ((mx : Nat) : Int)], 0⟩ :: ⟨0, false, 32, 1, [sv], 0⟩ :: ⟨0, false, 3, 1, [.int .i64 ((i : Nat) : Int)], 0⟩ :: ⟨0, false, 69, 2, [.int .i64 (itI c i).proc, .vec (itI c i).j4.length (g7 (itI c i).j4)], 0⟩ :: l)) (fun y' h' => y' = bR (stS u c mx S i pc) ∧ h' = h ++ (⟨0, false, 30, 4, [.vec u.globals.length (g7 u.globals), .vec u.c4.length (g5 u.c4), .vec u.procs.length (j7 u.procs), .int .i64 u.main], 0⟩ :: ⟨0, false, 34, 3, [.vec c.insts.length (l5 c.insts), .vec c.calls.length (m6 c.calls), .vec c.roots.length (g7 c.roots)], 0⟩ :: ⟨0, false, 3, 1, [.int .i64 ((mx : Nat) : Int)], 0⟩ :: ⟨0, false, 32, 1, [sv], 0⟩ :: ⟨0, false, 3, 1, [.int .i64 ((i : Nat) : Int)], 0⟩ :: ⟨0, false, 69, 2, [.int .i64 (itI c i).proc, .vec (itI c i).j4.length (g7 (itI c i).j4)], 0⟩ :: l))
theorem AH (hu : WU u) (wc : WC u c) (hmx : mx < u.c4.length) (hS : Tb (kM u mx) c.insts.length S) (hi : i < c.insts.length) (h : c6) : lD u c mx S i (.vec c.insts.length (s3 S)) h := fun pc hp l => c_stepA hu wc hmx hS hi hp l
variable {β : Nat}
theorem AI (hu : WU u) (wc : WC u c) (hmx : mx < u.c4.length) (hS : Tb (kM u mx) c.insts.length S) (hi : i < c.insts.length) (hb : h[β]? = some ⟨g, false, 22, 1, s3 S, 0⟩) : lD u c mx S i (.own β g 0 c.insts.length) h := fun pc hp l => by
  obtain ⟨hlt, hget⟩ := List.getElem?_eq_some_iff.1 hb
  obtain ⟨A, R, rfl, rfl⟩ : ∃ A R, h = A ++ ⟨g, false, 22, 1, s3 S, 0⟩ :: R ∧ A.length = β := ⟨h.take β, h.drop (β + 1), by rw [← hget, ← List.drop_eq_getElem_cons hlt, List.take_append_drop], by rw [List.length_take]; omega⟩
  have e : (A ++ ⟨g, false, 22, 1, s3 S, 0⟩ :: R).length = A.length + 1 + R.length := by rw [List.length_append, List.length_cons]; omega
  rw [e, List.append_assoc, List.cons_append]
  exact OM hu wc hmx hS hi hp l
theorem AJ (hu : WU u) (wc : WC u c) (hmx : mx < u.c4.length) (hS : Tb (kM u mx) c.insts.length S) (hi : i < c.insts.length) (hb : h[β]? = some ⟨g, false, 22, 1, s3 S, 0⟩) (l : c6) : lD u c mx S i (.own β g 0 c.insts.length) (h ++ l) :=
  AI hu wc hmx hS hi (by rw [List.getElem?_append_left (List.getElem?_eq_some_iff.1 hb).1]; exact hb)
theorem lD.shift {sv : AV} (hs : ∀ l0, lD u c mx S i sv (h ++ l0)) (hp : pc < gI u c i) {b : Blk} (l : c6) : CB 38 [.int .i64 ((pc : Nat) : Int), .ptr h.length 0 0, .ptr (h.length + 5) 0 0, .ptr (h.length + 3) 0 0, .ptr (h.length + 1) 0 0, .ptr (h.length + 4) 0 0, .ptr (h.length + 2) 0 0] ((h ++ [⟨0, false, 30, 4, [.vec u.globals.length (g7 u.globals), .vec u.c4.length (g5 u.c4), .vec u.procs.length (j7 u.procs), .int .i64 u.main], 0⟩, ⟨0, false, 34, 3, [.vec c.insts.length (l5 c.insts), .vec c.calls.length (m6 c.calls), .vec c.roots.length (g7 c.roots)], 0⟩, ⟨0, false, 3, 1, [.int .i64 ((mx : Nat) : Int)], 0⟩, ⟨0, false, 32, 1, [sv], 0⟩, ⟨0, false, 3, 1, [.int .i64 ((i : Nat) : Int)], 0⟩, ⟨0, false, 69, 2, [.int .i64 (itI c i).proc, .vec (itI c i).j4.length (g7 (itI c i).j4)], 0⟩, b]) ++ l) (bR (stS u c mx S i pc)) := by
  have := hs [] pc hp (b :: l)
  simpa only [List.append_nil, List.append_assoc, List.cons_append, List.nil_append] using this
theorem c_nextV (hu : WU u) {it : u4} (w : WIt u it) (hpc : pc < (c8 u it).length) : CB 72 [.agg [.vec u.globals.length (g7 u.globals), .vec u.c4.length (g5 u.c4), .vec u.procs.length (j7 u.procs), .int .i64 u.main], .agg [.int .i64 it.proc, .vec it.j4.length (g7 it.j4)], .int .i64 ((pc : Nat) : Int)] h (.vec (u0 ((c8 u it).getD pc g6) pc).length (g7 (u0 ((c8 u it).getD pc g6) pc))) := c_nextF hu w hpc
section
attribute [local go_sem] OK
theorem c_run (hu : WU u) {it : u4} (w : WIt u it) (hmx : mx < u.c4.length) (hk : tS (u.c4.getD mx v9) = k) {sp : Nat → List Nat} {caps : List AV} (p : Pro k (c8 u it).length (fun pc => u0 ((c8 u it).getD pc g6) pc) sp) (hst : ∀ pc, pc < (c8 u it).length → ∀ l, CB 38 (.int .i64 ((pc : Nat) : Int) :: caps) (h ++ l) (bR (sp pc))) : CB 40 [.agg [.vec u.globals.length (g7 u.globals), .vec u.c4.length (g5 u.c4), .vec u.procs.length (j7 u.procs), .int .i64 u.main, .int .i64 it.proc, .vec it.j4.length (g7 it.j4), .int .i64 ((mx : Nat) : Int), .fn (.func 38) [] caps]] h (.vec (c8 u it).length (s3 (dE k (c8 u it).length (fun pc => u0 ((c8 u it).getD pc g6) pc) sp))) := by
  refine .bz Tryz.f40 105 ?_
  have w1 := w.lo; have w2 := w.hi
  have hsz : (c8 u it).length ≤ 1664 := r8 hu w
  have hk8 : k ≤ 8 := by rw [← hk]; exact yJ
  have hps := p.pos
  have hml := hu.ml
  have hcd := (kT hu w).1
  refine .z ?_
  refine .s ?_
  refine .e 7 ?_
  refine .ca rfl rfl (WQ (u.c4.getD mx v9)) ?_
  refine .n ?_
  refine .c7 [1, 3] ?_
  refine c177z ?_
  refine .c7 [1, 3, 4] ?_
  refine c53z ?_
  refine .z7 (fun m st => ∃ (i : Nat), (m = (c8 u it).length - i ∧ (i ≤ (c8 u it).length)) ∧ st = ⟨mkS 105 [(1, AV.ptr h.length 0 0), (3, AV.int .i64 ((k : Nat) : Int)), (5, AV.own (h.length + 1) 0 0 (c8 u it).length), (33, AV.int .i64 (((c8 u it).length : Nat) : Int)), (34, AV.int .i64 ((i : Nat) : Int))], h ++ [⟨0, false, 84, 8, [.vec u.globals.length (g7 u.globals), .vec u.c4.length (g5 u.c4), .vec u.procs.length (j7 u.procs), .int .i64 u.main, .int .i64 it.proc, .vec it.j4.length (g7 it.j4), .int .i64 ((mx : Nat) : Int), .fn (.func 38) [] caps], 0⟩, ⟨0, false, 22, 1, vX (c8 u it).length i (List.replicate (k + 1) 0), 0⟩]⟩) (.v ⟨0, ⟨rfl, by omega⟩, rfl⟩) ?_ (he := by (rw [oN]))
  rintro m sl h' ⟨i, ⟨hm, hi⟩, hst⟩
  obtain ⟨rfl, rfl⟩ := St.mk.inj hst; clear hst
  refine c26z ?_
  refine u2z ?_ ?_
  ·intro e1 qe1
   refine c87z ?_
   refine c1z ?_
   refine .c7 [1, 3, 5, 33, 34] ?_
   refine c9.OJ (β := h.length + 1) (γ := h.length + 2) (A := s3 (List.replicate i (List.replicate (k + 1) 0))) (R := List.replicate ((c8 u it).length - (i + 1)) AV.j6) (zs := (List.replicate (k + 1) 0)) (len := k + 1) t30 t30 (by simp) (by omega) ?_
   refine c16z ?_
   exact ⟨_, by omega, .v ⟨(i + 1), ⟨rfl, by omega⟩, rfl⟩ (he := t87) (hk := by exact (z5.refl _).app rfl ⟨.inl rfl, .inr (uL _), trivial⟩)⟩
  intro e1 qe1
  refine .exit ?_
  obtain rfl : i = (c8 u it).length := by omega
  simp only [rV]
  change c9 ..
  refine c30z ?_
  refine .ca rfl rfl (c_idN _ hk8) ?_
  refine .n ?_
  refine .c7 [1, 5] ?_
  refine .z ?_
  refine .sb ?_
  refine .z7 (fun m st => ∃ (T : List (List Nat)) (W : List Nat) (l : Nat) (g : Nat), (m = RL (c8 u it).length T l ∧ (IT k (c8 u it).length (fun pc => u0 ((c8 u it).getD pc g6) pc) sp T (W.take l) ∧ l ≤ W.length ∧ RL (c8 u it).length T l ≤ 20000000)) ∧ st = ⟨mkS 105 [(1, AV.ptr h.length 0 0), (5, AV.own (h.length + 1) 0 0 (c8 u it).length), (7, AV.own (h.length + 2) g 0 l)], h ++ [⟨0, false, 84, 8, [.vec u.globals.length (g7 u.globals), .vec u.c4.length (g5 u.c4), .vec u.procs.length (j7 u.procs), .int .i64 u.main, .int .i64 it.proc, .vec it.j4.length (g7 it.j4), .int .i64 ((mx : Nat) : Int), .fn (.func 38) [] caps], 0⟩, ⟨0, false, 22, 1, s3 T, 0⟩, ⟨g, false, 3, 1, W.map q9, 0⟩]⟩) (.v ⟨((List.replicate (c8 u it).length (List.replicate (k + 1) 0)).set 0 (dhN k 0)), [0], 1, 0, ⟨rfl, ⟨IT.start p, by simp, by unfold RL; omega⟩⟩, rfl⟩) ?_
  rintro m sl h' ⟨T, W, l, g, ⟨hm, ⟨hI, hl, hlb⟩⟩, hst⟩
  obtain ⟨rfl, rfl⟩ := St.mk.inj hst; clear hst
  have hTl : T.length = (c8 u it).length := hI.g.tb.1
  have hlm : l ≤ RL (c8 u it).length T l := by unfold RL; omega
  refine c0z ?_
  refine u2z ?_ ?_
  ·intro e2 qe2
   refine c171z ?_
   obtain ⟨k1, rfl⟩ : ∃ k1, l = k1 + 1 := ⟨l - 1, by omega⟩
   refine .z ?_
   refine .c7 [1, 5, 7, 8] ?_
   refine .z ?_
   rw [HR (by omega)] at hI
   generalize W.getD k1 0 = pc at hI ⊢
   obtain ⟨hpc, hJ0⟩ := hI.pop
   have hst1 := p.st pc hpc
   have hTp := hI.g.tb.get hpc
   obtain ⟨hR, hle⟩ := hI.g.aft p hpc
   refine .ss s9 (mkP 10 [0, 0, 3, 7, 0, 16, 0, 112, 255, 511] []) ?_
   refine .k 7 [] ?_
   refine gK.cq rfl (rfl) hb38 (hst pc hpc _) ?_
   refine .ca rfl rfl (c_comp _ _ (hst1.lt hk8) (by have := hst1.1; omega) (hTp.lt hk8) (by have := hTp.1; omega)) ?_
   refine .n [] ?_
   refine .c7 [1, 5, 7, 8, 9] ?_
   have hnl := tT (x := (c8 u it).getD pc g6) (pc := pc)
   refine c23z ?_
   refine .ca rfl rfl (c_nextV hu w hpc) ?_
   refine c122z ?_
   refine .z7 (fun m st => ∃ (T1 : List (List Nat)) (W1 : List Nat) (l1 : Nat) (g1 : Nat) (j : Nat), (m = (u0 ((c8 u it).getD pc g6) pc).length - j ∧ (HK k (c8 u it).length (fun pc => u0 ((c8 u it).getD pc g6) pc) sp pc (T.getD pc []) (tot T) (W.take k1).length T1 (W1.take l1) j ∧ l1 ≤ W1.length ∧ j ≤ (u0 ((c8 u it).getD pc g6) pc).length ∧ l1 ≤ k1 + j)) ∧ st = ⟨mkS 105 [(1, AV.ptr h.length 0 0), (5, AV.own (h.length + 1) 0 0 (c8 u it).length), (7, AV.own (h.length + 2) g1 0 l1), (9, bR (o4 (T.getD pc []) (sp pc))), (77, AV.vec (u0 ((c8 u it).getD pc g6) pc).length (g7 (u0 ((c8 u it).getD pc g6) pc))), (78, AV.int .i64 (((u0 ((c8 u it).getD pc g6) pc).length : Nat) : Int)), (79, AV.int .i64 ((j : Nat) : Int))], h ++ [⟨0, false, 84, 8, [.vec u.globals.length (g7 u.globals), .vec u.c4.length (g5 u.c4), .vec u.procs.length (j7 u.procs), .int .i64 u.main, .int .i64 it.proc, .vec it.j4.length (g7 it.j4), .int .i64 ((mx : Nat) : Int), .fn (.func 38) [] caps], 0⟩, ⟨0, false, 22, 1, s3 T1, 0⟩, ⟨g1, false, 3, 1, W1.map q9, 0⟩]⟩) (.v ⟨T, W, k1, g, 0, ⟨rfl, ⟨hJ0, by omega, by omega, by omega⟩⟩, rfl⟩) ?_
   rintro m sl h' ⟨T1, W1, l1, g1, j, ⟨hm, ⟨hJ, hl1, hj, hlj⟩⟩, hst⟩
   obtain ⟨rfl, rfl⟩ := St.mk.inj hst; clear hst
   have hT1 : T1.length = (c8 u it).length := hJ.g.tb.1
   refine c26z ?_
   refine u2z ?_ ?_
   ·intro e3 qe3
    refine c87z ?_
    obtain ⟨hq1, hq2⟩ := p.nx pc hpc _ (l3 (d := 0) (show j < (u0 ((c8 u it).getD pc g6) pc).length from by omega))
    obtain ⟨q, hqe⟩ : ∃ q : Nat, (u0 ((c8 u it).getD pc g6) pc).getD j 0 = (q : Int) := ⟨((u0 ((c8 u it).getD pc g6) pc).getD j 0).toNat, by omega⟩
    rw [hqe] at hq1 hq2 ⊢
    have hq3 : q < (c8 u it).length := by omega
    have hRq := hJ.g.tb.get hq3
    have hqt : ((u0 ((c8 u it).getD pc g6) pc).getD j 0).toNat = q := by rw [hqe]; rfl
    refine c23z ?_
    refine .ca rfl rfl (HJ _ _ (by have := hR.1; omega) t151) ?_
    refine .n ?_
    refine u2z ?_ ?_
    ·intro e4 qe4
     refine .c7 [1, 5, 7, 9, 11, 77, 78, 79] ?_
     refine .s ?_
     refine .e 7 ?_
     refine .ca rfl rfl (K4 _ _ (hR.lt hk8) (hRq.lt hk8) (by have := hRq.1; omega) t151) ?_
     refine .n ?_
     refine .c7 [1, 5, 7, 9, 11, 77, 78, 79] ?_
     refine c46z ?_
     exact ⟨_, by omega, .v ⟨(T1.set q (cD (T1.getD q []) (o4 (T.getD pc []) (sp pc)))), (E2 W1 l1 q), (l1 + 1), (HP W1 g1 l1), (j + 1), ⟨rfl, ⟨by rw [AG hl1]; exact hJ.grow p hpc hR hle (by omega) hqt (fun hs => absurd ((GX hk8 hR hRq).2 hs) (by assumption)), HQ hl1, by omega, by omega⟩⟩, rfl⟩ (he := t31) (hk := t100)⟩
    intro e4 qe4
    refine c5z ?_
    refine .c7 [1, 5, 7, 9, 77, 78, 79] ?_
    refine .rz ?_
    exact ⟨_, by omega, .v ⟨T1, W1, l1, g1, (j + 1), ⟨rfl, ⟨hJ.skip ((GX hk8 hR (by rw [hqt]; exact hRq)).1 (by rw [hqt]; assumption)), hl1, by omega, by omega⟩⟩, rfl⟩ (he := t31) (hk := t100)⟩
   intro e3 qe3
   refine .exit ?_
   obtain rfl : j = (u0 ((c8 u it).getD pc g6) pc).length := by omega
   have hmr := mRun_lt hk8 hJ hI.g
   rw [List.length_take, List.length_take, Nat.min_eq_left hl1, Nat.min_eq_left (show k1 ≤ W.length from by omega)] at hmr
   exact ⟨_, by omega, .v ⟨T1, W1, l1, g1, ⟨rfl, ⟨hJ.fin hpc, hl1, by omega⟩⟩, rfl⟩ (he := t31) (hk := t100)⟩
  intro e2 qe2
  refine .exit ?_
  obtain rfl : l = 0 := by omega
  have hT : T = (dE k (c8 u it).length (fun pc => u0 ((c8 u it).getD pc g6) pc) sp) := IT.done p (by simpa using hI)
  change c9 ..
  refine c32z ?_
  exact ⟨_, _, rfl, HH t30 (by omega) hTl, by (rw [hT])⟩
end
section
attribute [local go_sem] jS
theorem HT (hu : WU u) (wc : WC u c) (hmx : mx < u.c4.length) (hS : Tb (kM u mx) c.insts.length S) (hi : i < c.insts.length) (hsv : ∀ l0, lD u c mx S i (.vec c.insts.length (s3 S)) (h ++ l0)) : CB 18 [.agg [.vec u.globals.length (g7 u.globals), .vec u.c4.length (g5 u.c4), .vec u.procs.length (j7 u.procs), .int .i64 u.main], .agg [.vec c.insts.length (l5 c.insts), .vec c.calls.length (m6 c.calls), .vec c.roots.length (g7 c.roots)], .int .i64 ((mx : Nat) : Int), .vec c.insts.length (s3 S), .int .i64 ((i : Nat) : Int)] h (.vec (gI u c i) (s3 (D9 u c mx S i))) := by
  refine .bz Tryz.f18 25 ?_
  have w := gZ wc hi
  have w1 := w.lo; have w2 := w.hi
  have hwl := wc.len
  refine c19z ?_
  refine .c7 [5, 6, 7, 8, 9, 11] ?_
  refine .z ?_
  refine .c7 [12] ?_
  refine c66z ?_
  refine .ca rfl rfl (c_run hu (gZ wc hi) hmx rfl (XJ hu wc hS hi) (fun pc hp l => lD.shift hsv hp l)) ?_
  refine .n ?_
  exact .ret (.ex (hq := by rfl))
end
section
attribute [local go_sem] jS
theorem HU (hu : WU u) (wc : WC u c) (hmx : mx < u.c4.length) (hS : Tb (kM u mx) c.insts.length S) (hi : i < c.insts.length) (hsv : ∀ l0, lD u c mx S i (.own β g 0 c.insts.length) (h ++ l0)) : CB 18 [.agg [.vec u.globals.length (g7 u.globals), .vec u.c4.length (g5 u.c4), .vec u.procs.length (j7 u.procs), .int .i64 u.main], .agg [.vec c.insts.length (l5 c.insts), .vec c.calls.length (m6 c.calls), .vec c.roots.length (g7 c.roots)], .int .i64 ((mx : Nat) : Int), .own β g 0 c.insts.length, .int .i64 ((i : Nat) : Int)] h (.vec (gI u c i) (s3 (D9 u c mx S i))) := by
  refine .bz Tryz.f18 25 ?_
  have w := gZ wc hi
  have w1 := w.lo; have w2 := w.hi
  have hwl := wc.len
  refine c19z ?_
  refine .c7 [5, 6, 7, 8, 9, 11] ?_
  refine .z ?_
  refine .c7 [12] ?_
  refine c66z ?_
  refine .ca rfl rfl (c_run hu (gZ wc hi) hmx rfl (XJ hu wc hS hi) (fun pc hp l => lD.shift hsv hp l)) ?_
  refine .n ?_
  exact .ret (.ex (hq := by rfl))
end
end Go.Proofs.YtfbjlfhjkojmkaaGreat
end
section
namespace Go.Proofs.YtfbjlfhjkojmkaaGreat
open Go.Ab Go.Un
variable {c : Clo} {i : Nat}
theorem lE (h : i < c.insts.length) : List.take 1 (List.drop (i * 2) (l5 c.insts)) = [.int .i64 (itI c i).proc] := lS h
variable {h : c6}
theorem T5 (u : Un) (mx : Nat) : CB 56 [.agg [.str (u.c4.getD mx v9).name, .bool (u.c4.getD mx v9).re, .int .i64 (u.c4.getD mx v9).size]] h (.int .i64 ((kM u mx : Nat) : Int)) := WQ _
variable {n : Nat}
theorem frz_old {β g len : Nat} {H : c6} (h : β < n) : gJ n H 6 (.own β g 0 len) = some (.own β g 0 len) := by rw [dT, if_pos h]
theorem z5.new {l' : c6} (hk : ∀ b ∈ l', w6 b.cells) : z5 h (h ++ l') := fun β b hb => by
  by_cases hβ : β < h.length
  · left; rwa [List.getElem?_append_left hβ] at hb
  · right; rw [List.getElem?_append_right (by omega)] at hb; exact fun x hx => (hk b (List.mem_of_getElem? hb) x hx).rf _
theorem plnU (u : Un) : w6 [.vec u.globals.length (g7 u.globals), .vec u.c4.length (g5 u.c4), .vec u.procs.length (j7 u.procs), .int .i64 u.main] := w6.cons .vec (w6.cons .vec (w6.cons .vec (w6.cons .int .nil)))
theorem plnC (c : Clo) : w6 [.vec c.insts.length (l5 c.insts), .vec c.calls.length (m6 c.calls), .vec c.roots.length (g7 c.roots)] := w6.cons .vec (w6.cons .vec (w6.cons .vec .nil))
theorem c9.XS {c : Code} {H : c6} {Q : Exit → St → Prop} {γ t len n e : Nat} {l : List (Nat × AV)} {zs : List Nat} (hγ : H[γ]? = some ⟨0, false, e, 1, zs.map q9, 0⟩) (hz : zs.length = len) (hp : 0 < len) (hx : (mkS n l)[t]? = some (.own γ 0 0 len))
    (r : c9 Tryz.prog cfg c ⟨(mkS n l).set t (.vec len (zs.map q9)), H.set γ ⟨0, false, e, 1, zs.map q9, len⟩⟩ Q) : c9 Tryz.prog cfg c ⟨mkS n l, H⟩ Q := by
  subst hz
  have hne : zs.map q9 ≠ [] := fun h0 => by have := congrArg List.length h0; rw [List.length_map] at this; simp only [List.length_nil] at this; omega
  refine c9.A1 (t := t) (γ := γ) (len := zs.length) (e := e) (K := 1) (g := 0) (zs := zs.map q9) (by rw [hγ]; exact congrArg some (cU hne).symm) (by simp) (by omega) (plnN zs) hx ?_
  obtain ⟨z, zs', hzz⟩ := List.exists_cons_of_ne_nil hne
  have e1 : fQ e 1 0 (zs.map q9) (zs.length * 1) = ⟨0, false, e, 1, zs.map q9, zs.length⟩ := by rw [hzz, Nat.mul_one]; rfl
  rw [e1]
  exact r
theorem c9.seenT {c : Code} {H : c6} {Q : Exit → St → Prop} {γ t len n g e : Nat} {l : List (Nat × AV)} {T : List (List Nat)} (hγ : H[γ]? = some ⟨g, false, e, 1, s3 T, 0⟩) (hz : T.length = len) (hp : 0 < len) (hx : (mkS n l)[t]? = some (.own γ g 0 len))
    (r : c9 Tryz.prog cfg c ⟨(mkS n l).set t (.vec len (s3 T)), H.set γ ⟨g, false, e, 1, s3 T, len⟩⟩ Q) : c9 Tryz.prog cfg c ⟨mkS n l, H⟩ Q := by
  subst hz
  have hne : s3 T ≠ [] := fun h0 => by have := congrArg List.length h0; rw [z8] at this; simp only [List.length_nil] at this; omega
  refine c9.A1 (t := t) (γ := γ) (len := T.length) (e := e) (K := 1) (g := g) (zs := s3 T) (by rw [hγ]; exact congrArg some (cU hne).symm) (by simp [z8]) (by omega) (OG T) hx ?_
  obtain ⟨z, zs', hzz⟩ := List.exists_cons_of_ne_nil hne
  have e1 : fQ e 1 g (s3 T) (T.length * 1) = ⟨g, false, e, 1, s3 T, T.length⟩ := by rw [hzz, Nat.mul_one]; rfl
  rw [e1]
  exact r
attribute [local go_sem] rd bR u7 aK s5 n5 l9 dO z8 Int.natCast_nonneg Int.natCast_inj dD lT jP gY jQ lC pS K2 vV jT vW AE lX tW tX pT List.length_set List.length_replicate Int.toNat_natCast_add_one kV wrap64 K5 List.length_map lE jS
theorem ON (a b : List Nat) (hl : a.length < 1000000) : CB 32 [bR a, bR b] h (.bool (decide (a = b))) := by
  refine .bz Tryz.f32 26 ?_
  refine c86z ?_
  refine u2z ?_ ?_
  ·intro e1 qe1
   refine c130z ?_
   exact ⟨[], _, (List.append_nil _).symm, t45, t79⟩
  intro e1 qe1
  refine .sk ?_
  refine c4z ?_
  refine .cI (fun m st => ∃ (i : Nat), (m = a.length - i ∧ ((∀ d, d < i → a.getD d 0 = b.getD d 0) ∧ i ≤ a.length)) ∧ st = ⟨mkS 26 [(0, bR a), (1, bR b), (12, AV.int .i64 ((a.length : Nat) : Int)), (13, AV.int .i64 ((i : Nat) : Int))], h⟩) _ (.v ⟨0, ⟨rfl, ⟨t104, by omega⟩⟩, rfl⟩) ?_
  rintro m sl h' ⟨i, ⟨hm, ⟨hI, hi⟩⟩, hst⟩
  obtain ⟨rfl, rfl⟩ := St.mk.inj hst
  refine c26z ?_
  refine u2z ?_ ?_
  ·intro e2 qe2
   refine c87z ?_
   refine .ss s9 (mkP 9 [0, 0, 3, 7, 0, 0, 48, 112, 255] []) ?_
   refine c59z ?_
   refine u2z ?_ ?_
   ·intro e3 qe3
    refine c130z ?_
    exact ⟨[], _, (List.append_nil _).symm, t45, t79⟩
   intro e3 qe3
   refine c5z ?_
   refine .c7 [0, 1, 12, 13] ?_
   refine .rz ?_
   exact ⟨_, by omega, .v ⟨(i + 1), ⟨rfl, ⟨(fun d hd => if e : d = i then by rw [e]; omega else hI d (by omega)), by omega⟩⟩, rfl⟩⟩
  intro e2 qe2
  refine c90z ?_
  exact ⟨[], _, (List.append_nil _).symm, t45, t79⟩
variable {u : Un} {mx : Nat}
theorem c_exitV (hu : WU u) (wc : WC u c) (hmx : mx < u.c4.length) {S : List (List Nat)} (hS : Tb (kM u mx) c.insts.length S) (hi : i < c.insts.length) (hsv : ∀ l0, lD u c mx S i (.vec c.insts.length (s3 S)) (h ++ l0)) : CB 31 [.agg [.vec u.globals.length (g7 u.globals), .vec u.c4.length (g5 u.c4), .vec u.procs.length (j7 u.procs), .int .i64 u.main], .agg [.vec c.insts.length (l5 c.insts), .vec c.calls.length (m6 c.calls), .vec c.roots.length (g7 c.roots)], .int .i64 ((mx : Nat) : Int), .vec c.insts.length (s3 S), .int .i64 ((i : Nat) : Int)] h (bR (exT u c mx S i)) := by
  refine .bz Tryz.f31 55 ?_
  have w := gZ wc hi
  have w1 := w.lo; have w2 := w.hi
  have hsz : (c8 u (itI c i)).length ≤ 1664 := r8 hu w
  have hwl := wc.len
  have hk8 : kM u mx ≤ 8 := mD
  have hk9 : tS (u.c4.getD mx v9) ≤ 8 := hk8
  have hml := hu.ml
  have hT := yO (u := u) (c := c) (m := mx) S i
  have hTl : (D9 u c mx S i).length = gI u c i := hT.1
  have hli : gI u c i ≤ 1664 := hsz
  have hlc : gI u c i = (c8 u (itI c i)).length := rfl
  refine .z ?_
  refine c23z ?_
  refine .ca rfl rfl (T5 u mx) ?_
  refine c38z ?_
  refine .c7 [2, 3, 4, 5, 6, 11] ?_
  refine c9.XS (t := 11) (γ := (h.length + 2)) (len := (kM u mx + 1)) t30 (by simp) (by omega) (mP (by decide) rfl) ?_
  rw [bI]; simp only [o7, List.set_cons_succ, List.set_cons_zero]
  generalize (⟨0, false, 3, 1, (List.replicate (kM u mx + 1) 0).map q9, kM u mx + 1⟩ : Blk) = Vb
  refine c23z ?_
  refine .ca rfl rfl (HT hu wc hmx hS hi (fun l0 => by rw [List.append_assoc]; exact hsv _)) ?_
  refine c122z ?_
  refine .cI (fun m st => ∃ (j : Nat), (m = gI u c i - j ∧ (j ≤ gI u c i)) ∧ st = ⟨mkS 55 [(4, AV.int .i64 ((i : Nat) : Int)), (5, AV.ptr h.length 0 0), (6, AV.ptr (h.length + 1) 0 0), (11, bR (S8 u c mx i (D9 u c mx S i) j)), (27, AV.vec (gI u c i) (s3 (D9 u c mx S i))), (28, AV.int .i64 ((gI u c i : Nat) : Int)), (29, AV.int .i64 ((j : Nat) : Int))], h ++ [⟨0, false, 30, 4, [.vec u.globals.length (g7 u.globals), .vec u.c4.length (g5 u.c4), .vec u.procs.length (j7 u.procs), .int .i64 u.main], 0⟩, ⟨0, false, 34, 3, [.vec c.insts.length (l5 c.insts), .vec c.calls.length (m6 c.calls), .vec c.roots.length (g7 c.roots)], 0⟩, Vb]⟩) _ (.v ⟨0, ⟨rfl, by omega⟩, rfl⟩ (hs := t22)) ?_
  rintro m sl h' ⟨j, ⟨hm, hj⟩, hst⟩
  obtain ⟨rfl, rfl⟩ := St.mk.inj hst
  have hop : (mG u c i j).op = ((c8 u (itI c i)).getD j g6).op := rfl
  refine c26z ?_
  refine u2z ?_ ?_
  ·intro e1 qe1
   refine c87z ?_
   refine c109z ?_
   refine u2z ?_ ?_
   ·intro e2 qe2
    refine .c7 [4, 5, 6, 11, 13, 27, 28, 29] ?_
    have hTj := hT.get (i := j) (by omega)
    have hEj := pR (u := u) (c := c) (m := mx) i (D9 u c mx S i) j
    refine .r ?_
    refine .e 2 ?_
    refine .ca rfl rfl (K4 _ _ (hTj.lt hk8) (hEj.lt hk8) (by have := hEj.1; omega) t179) ?_
    refine c25z ?_
    refine .rz ?_
    exact ⟨_, by omega, .v ⟨(j + 1), ⟨rfl, by omega⟩, rfl⟩ (hs := t22)⟩
   intro e2 qe2
   refine c5z ?_
   refine .c7 [4, 5, 6, 11, 27, 28, 29] ?_
   refine .rz ?_
   exact ⟨_, by omega, .v ⟨(j + 1), ⟨rfl, by omega⟩, rfl⟩ (hs := t22)⟩
  intro e1 qe1
  refine .exit ?_
  obtain rfl : j = gI u c i := by omega
  refine c224z ?_
  exact .ret (.ex (hq := by rfl))
theorem c_exitO (hu : WU u) (wc : WC u c) (hmx : mx < u.c4.length) {S : List (List Nat)} (hS : Tb (kM u mx) c.insts.length S) (hi : i < c.insts.length) {β g : Nat} (hsv : ∀ l0, lD u c mx S i (.own β g 0 c.insts.length) (h ++ l0)) : CB 31 [.agg [.vec u.globals.length (g7 u.globals), .vec u.c4.length (g5 u.c4), .vec u.procs.length (j7 u.procs), .int .i64 u.main], .agg [.vec c.insts.length (l5 c.insts), .vec c.calls.length (m6 c.calls), .vec c.roots.length (g7 c.roots)], .int .i64 ((mx : Nat) : Int), .own β g 0 c.insts.length, .int .i64 ((i : Nat) : Int)] h (bR (exT u c mx S i)) := by
  refine .bz Tryz.f31 55 ?_
  have w := gZ wc hi
  have w1 := w.lo; have w2 := w.hi
  have hsz : (c8 u (itI c i)).length ≤ 1664 := r8 hu w
  have hwl := wc.len
  have hk8 : kM u mx ≤ 8 := mD
  have hk9 : tS (u.c4.getD mx v9) ≤ 8 := hk8
  have hml := hu.ml
  have hT := yO (u := u) (c := c) (m := mx) S i
  have hTl : (D9 u c mx S i).length = gI u c i := hT.1
  have hli : gI u c i ≤ 1664 := hsz
  have hlc : gI u c i = (c8 u (itI c i)).length := rfl
  refine .z ?_
  refine c23z ?_
  refine .ca rfl rfl (T5 u mx) ?_
  refine c38z ?_
  refine .c7 [2, 3, 4, 5, 6, 11] ?_
  refine c9.XS (t := 11) (γ := (h.length + 2)) (len := (kM u mx + 1)) t30 (by simp) (by omega) (mP (by decide) rfl) ?_
  rw [bI]; simp only [o7, List.set_cons_succ, List.set_cons_zero]
  generalize (⟨0, false, 3, 1, (List.replicate (kM u mx + 1) 0).map q9, kM u mx + 1⟩ : Blk) = Vb
  refine c23z ?_
  refine .ca rfl rfl (HU hu wc hmx hS hi (fun l0 => by rw [List.append_assoc]; exact hsv _)) ?_
  refine c122z ?_
  refine .cI (fun m st => ∃ (j : Nat), (m = gI u c i - j ∧ (j ≤ gI u c i)) ∧ st = ⟨mkS 55 [(4, AV.int .i64 ((i : Nat) : Int)), (5, AV.ptr h.length 0 0), (6, AV.ptr (h.length + 1) 0 0), (11, bR (S8 u c mx i (D9 u c mx S i) j)), (27, AV.vec (gI u c i) (s3 (D9 u c mx S i))), (28, AV.int .i64 ((gI u c i : Nat) : Int)), (29, AV.int .i64 ((j : Nat) : Int))], h ++ [⟨0, false, 30, 4, [.vec u.globals.length (g7 u.globals), .vec u.c4.length (g5 u.c4), .vec u.procs.length (j7 u.procs), .int .i64 u.main], 0⟩, ⟨0, false, 34, 3, [.vec c.insts.length (l5 c.insts), .vec c.calls.length (m6 c.calls), .vec c.roots.length (g7 c.roots)], 0⟩, Vb]⟩) _ (.v ⟨0, ⟨rfl, by omega⟩, rfl⟩ (hs := t22)) ?_
  rintro m sl h' ⟨j, ⟨hm, hj⟩, hst⟩
  obtain ⟨rfl, rfl⟩ := St.mk.inj hst
  have hop : (mG u c i j).op = ((c8 u (itI c i)).getD j g6).op := rfl
  refine c26z ?_
  refine u2z ?_ ?_
  ·intro e1 qe1
   refine c87z ?_
   refine c109z ?_
   refine u2z ?_ ?_
   ·intro e2 qe2
    refine .c7 [4, 5, 6, 11, 13, 27, 28, 29] ?_
    have hTj := hT.get (i := j) (by omega)
    have hEj := pR (u := u) (c := c) (m := mx) i (D9 u c mx S i) j
    refine .r ?_
    refine .e 2 ?_
    refine .ca rfl rfl (K4 _ _ (hTj.lt hk8) (hEj.lt hk8) (by have := hEj.1; omega) t179) ?_
    refine c25z ?_
    refine .rz ?_
    exact ⟨_, by omega, .v ⟨(j + 1), ⟨rfl, by omega⟩, rfl⟩ (hs := t22)⟩
   intro e2 qe2
   refine c5z ?_
   refine .c7 [4, 5, 6, 11, 27, 28, 29] ?_
   refine .rz ?_
   exact ⟨_, by omega, .v ⟨(j + 1), ⟨rfl, by omega⟩, rfl⟩ (hs := t22)⟩
  intro e1 qe1
  refine .exit ?_
  obtain rfl : j = gI u c i := by omega
  refine c224z ?_
  exact .ret (.ex (hq := by rfl))
theorem OO (hu : WU u) (wc : WC u c) (hmx : mx < u.c4.length) : CB 30 [.agg [.vec u.globals.length (g7 u.globals), .vec u.c4.length (g5 u.c4), .vec u.procs.length (j7 u.procs), .int .i64 u.main], .agg [.vec c.insts.length (l5 c.insts), .vec c.calls.length (m6 c.calls), .vec c.roots.length (g7 c.roots)], .int .i64 ((mx : Nat) : Int)] h (.vec c.insts.length (s3 (pQ u c mx))) := by
  refine .bz Tryz.f30 31 ?_
  have hwl := wc.len
  have hk8 : kM u mx ≤ 8 := mD
  have hk9 : tS (u.c4.getD mx v9) ≤ 8 := hk8
  have hml := hu.ml
  refine c154z ?_
  refine .c7 [2, 3, 7] ?_
  refine c24z ?_
  refine .z7 (fun m st => ∃ (i : Nat), (m = c.insts.length - i ∧ (i ≤ c.insts.length)) ∧ st = ⟨mkS 31 [(2, AV.int .i64 ((mx : Nat) : Int)), (3, AV.ptr h.length 0 0), (7, AV.own (h.length + 2) 0 0 c.insts.length), (14, AV.int .i64 ((c.insts.length : Nat) : Int)), (15, AV.int .i64 ((i : Nat) : Int))], h ++ [⟨0, false, 30, 4, [.vec u.globals.length (g7 u.globals), .vec u.c4.length (g5 u.c4), .vec u.procs.length (j7 u.procs), .int .i64 u.main], 0⟩, ⟨0, false, 34, 3, [.vec c.insts.length (l5 c.insts), .vec c.calls.length (m6 c.calls), .vec c.roots.length (g7 c.roots)], 0⟩, ⟨0, false, 22, 1, vX c.insts.length i (List.replicate (kM u mx + 1) 0), 0⟩]⟩) (.v ⟨0, ⟨rfl, by omega⟩, rfl⟩) ?_ (he := by (rw [oN]))
  rintro m sl h' ⟨i, ⟨hm, hi⟩, hst⟩
  obtain ⟨rfl, rfl⟩ := St.mk.inj hst; clear hst
  refine c26z ?_
  refine u2z ?_ ?_
  ·intro e1 qe1
   refine c87z ?_
   refine .r ?_
   refine .e 7 ?_
   refine .ca rfl rfl (T5 u mx) ?_
   refine c25z ?_
   refine .c7 [2, 3, 7, 14, 15] ?_
   refine c9.OJ (β := h.length + 2) (γ := h.length + 3) (A := s3 (List.replicate i (List.replicate (kM u mx + 1) 0))) (R := List.replicate (c.insts.length - (i + 1)) AV.j6) (zs := (List.replicate (kM u mx + 1) 0)) (len := kM u mx + 1) t30 t30 (by simp) (by omega) ?_
   refine c16z ?_
   exact ⟨_, by omega, .v ⟨(i + 1), ⟨rfl, by omega⟩, rfl⟩ (he := t87) (hk := t166)⟩
  intro e1 qe1
  refine .exit ?_
  obtain rfl : i = c.insts.length := by omega
  simp only [rV]
  change c9 ..
  refine c32z ?_
  exact ⟨_, _, rfl, HH t30 (by omega) (by simp), by rfl⟩
theorem OP (hu : WU u) (wc : WC u c) (hmx : mx < u.c4.length) : CH 30 [.agg [.vec u.globals.length (g7 u.globals), .vec u.c4.length (g5 u.c4), .vec u.procs.length (j7 u.procs), .int .i64 u.main], .agg [.vec c.insts.length (l5 c.insts), .vec c.calls.length (m6 c.calls), .vec c.roots.length (g7 c.roots)], .int .i64 ((mx : Nat) : Int)] h (.own (h.length + 2) 0 0 c.insts.length) (h ++ [⟨0, false, 30, 4, [.vec u.globals.length (g7 u.globals), .vec u.c4.length (g5 u.c4), .vec u.procs.length (j7 u.procs), .int .i64 u.main], 0⟩, ⟨0, false, 34, 3, [.vec c.insts.length (l5 c.insts), .vec c.calls.length (m6 c.calls), .vec c.roots.length (g7 c.roots)], 0⟩, ⟨0, false, 22, 1, s3 (pQ u c mx), 0⟩]) := by
  refine .wz Tryz.f30 31 ?_
  have hwl := wc.len
  have hk8 : kM u mx ≤ 8 := mD
  have hk9 : tS (u.c4.getD mx v9) ≤ 8 := hk8
  have hml := hu.ml
  refine c154z ?_
  refine .c7 [2, 3, 7] ?_
  refine c24z ?_
  refine .z7 (fun m st => ∃ (i : Nat), (m = c.insts.length - i ∧ (i ≤ c.insts.length)) ∧ st = ⟨mkS 31 [(2, AV.int .i64 ((mx : Nat) : Int)), (3, AV.ptr h.length 0 0), (7, AV.own (h.length + 2) 0 0 c.insts.length), (14, AV.int .i64 ((c.insts.length : Nat) : Int)), (15, AV.int .i64 ((i : Nat) : Int))], h ++ [⟨0, false, 30, 4, [.vec u.globals.length (g7 u.globals), .vec u.c4.length (g5 u.c4), .vec u.procs.length (j7 u.procs), .int .i64 u.main], 0⟩, ⟨0, false, 34, 3, [.vec c.insts.length (l5 c.insts), .vec c.calls.length (m6 c.calls), .vec c.roots.length (g7 c.roots)], 0⟩, ⟨0, false, 22, 1, vX c.insts.length i (List.replicate (kM u mx + 1) 0), 0⟩]⟩) (.v ⟨0, ⟨rfl, by omega⟩, rfl⟩) ?_ (he := by (rw [oN]))
  rintro m sl h' ⟨i, ⟨hm, hi⟩, hst⟩
  obtain ⟨rfl, rfl⟩ := St.mk.inj hst; clear hst
  refine c26z ?_
  refine u2z ?_ ?_
  ·intro e1 qe1
   refine c87z ?_
   refine .r ?_
   refine .e 7 ?_
   refine .ca rfl rfl (T5 u mx) ?_
   refine c25z ?_
   refine .c7 [2, 3, 7, 14, 15] ?_
   refine c9.OJ (β := h.length + 2) (γ := h.length + 3) (A := s3 (List.replicate i (List.replicate (kM u mx + 1) 0))) (R := List.replicate (c.insts.length - (i + 1)) AV.j6) (zs := (List.replicate (kM u mx + 1) 0)) (len := kM u mx + 1) t30 t30 (by simp) (by omega) ?_
   refine c16z ?_
   exact ⟨_, by omega, .v ⟨(i + 1), ⟨rfl, by omega⟩, rfl⟩ (he := t87) (hk := t166)⟩
  intro e1 qe1
  refine .exit ?_
  obtain rfl : i = c.insts.length := by omega
  simp only [rV]
  change c9 ..
  refine c32z ?_
  exact ⟨_, [], _, (List.append_nil _).symm, by simp, z5.new (fun b hb => by replace hb := s6z hb; rcases hb with rfl | rfl | rfl; exact plnU u; exact plnC c; exact OG _), frz_old (by simp), by exact ⟨rfl, rfl⟩⟩
theorem c_of (hu : WU u) (wc : WC u c) (hmx : mx < u.c4.length) : CB 13 [.agg [.vec u.globals.length (g7 u.globals), .vec u.c4.length (g5 u.c4), .vec u.procs.length (j7 u.procs), .int .i64 u.main], .agg [.vec c.insts.length (l5 c.insts), .vec c.calls.length (m6 c.calls), .vec c.roots.length (g7 c.roots)], .int .i64 ((mx : Nat) : Int)] h (.vec c.insts.length (s3 (qO u c mx))) := by
  refine .bz Tryz.f13 41 ?_
  have hwl := wc.len
  have hk8 : kM u mx ≤ 8 := mD
  have hk9 : tS (u.c4.getD mx v9) ≤ 8 := hk8
  have hml := hu.ml
  refine c222z ?_
  refine .ch rfl rfl (OP hu wc hmx) ?_
  refine c235z ?_
  refine .z7 (fun m st => ∃ (Sx : List (List Nat)) (ag : Bool), (m = RM c.insts.length Sx ag ∧ (Low u c mx Sx ∧ (ag = false → Sx = qO u c mx))) ∧ st = ⟨mkS 41 [(2, AV.int .i64 ((mx : Nat) : Int)), (3, AV.ptr h.length 0 0), (4, AV.ptr (h.length + 1) 0 0), (7, AV.own (h.length + 4) 0 0 c.insts.length), (8, AV.bool ag)], h ++ [⟨0, false, 30, 4, [.vec u.globals.length (g7 u.globals), .vec u.c4.length (g5 u.c4), .vec u.procs.length (j7 u.procs), .int .i64 u.main], 0⟩, ⟨0, false, 34, 3, [.vec c.insts.length (l5 c.insts), .vec c.calls.length (m6 c.calls), .vec c.roots.length (g7 c.roots)], 0⟩, ⟨0, false, 30, 4, [.vec u.globals.length (g7 u.globals), .vec u.c4.length (g5 u.c4), .vec u.procs.length (j7 u.procs), .int .i64 u.main], 0⟩, ⟨0, false, 34, 3, [.vec c.insts.length (l5 c.insts), .vec c.calls.length (m6 c.calls), .vec c.roots.length (g7 c.roots)], 0⟩, ⟨0, false, 22, 1, s3 Sx, 0⟩]⟩) (.v ⟨(pQ u c mx), true, ⟨rfl, ⟨Low.zero, fun h => by cases h⟩⟩, rfl⟩) ?_ (he := t163)
  rintro m sl h' ⟨Sx, ag, ⟨hm, ⟨hL, hdone⟩⟩, hst⟩
  obtain ⟨rfl, rfl⟩ := St.mk.inj hst; clear hst
  refine c0z ?_
  refine u2z ?_ ?_
  ·intro e1 qe1
   refine c171z ?_
   have hag : ag = true := by assumption
   subst hag
   refine c19z ?_
   refine .block ?_
   refine .z7 (fun m st => ∃ (S1 : List (List Nat)) (a1 : Bool) (i : Nat), (m = i ∧ (OfI u c mx Sx S1 a1 i ∧ i ≤ c.insts.length)) ∧ st = ⟨mkS 41 [(2, AV.int .i64 ((mx : Nat) : Int)), (3, AV.ptr h.length 0 0), (4, AV.ptr (h.length + 1) 0 0), (7, AV.own (h.length + 4) 0 0 c.insts.length), (8, AV.bool a1), (9, AV.int .i64 (((i : Nat) : Int) - 1))], h ++ [⟨0, false, 30, 4, [.vec u.globals.length (g7 u.globals), .vec u.c4.length (g5 u.c4), .vec u.procs.length (j7 u.procs), .int .i64 u.main], 0⟩, ⟨0, false, 34, 3, [.vec c.insts.length (l5 c.insts), .vec c.calls.length (m6 c.calls), .vec c.roots.length (g7 c.roots)], 0⟩, ⟨0, false, 30, 4, [.vec u.globals.length (g7 u.globals), .vec u.c4.length (g5 u.c4), .vec u.procs.length (j7 u.procs), .int .i64 u.main], 0⟩, ⟨0, false, 34, 3, [.vec c.insts.length (l5 c.insts), .vec c.calls.length (m6 c.calls), .vec c.roots.length (g7 c.roots)], 0⟩, ⟨0, false, 22, 1, s3 S1, 0⟩]⟩) (.v ⟨Sx, false, c.insts.length, ⟨rfl, ⟨OfI.start hL, Nat.le_refl _⟩⟩, rfl⟩) ?_
   rintro m sl h' ⟨S1, a1, i, ⟨hm, ⟨hO, hi⟩⟩, hst⟩
   obtain ⟨rfl, rfl⟩ := St.mk.inj hst; clear hst
   have hS1 : S1.length = c.insts.length := hO.low.tb.1
   refine c0z ?_
   refine u2z ?_ ?_
   ·intro e2 qe2
    refine c2z ?_
    obtain ⟨i, rfl⟩ : ∃ i', i = i' + 1 := ⟨i - 1, by omega⟩
    simp only [K5]
    refine c23z ?_
    refine .ca rfl rfl (c_exitO hu wc hmx hO.low.tb (show i < c.insts.length by omega) (fun l0 => AJ hu wc hmx hO.low.tb (show i < c.insts.length by omega) (β := h.length + 4) (g := 0) t30 l0)) ?_
    refine .n ?_
    refine .c7 [2, 3, 4, 7, 8, 9, 10] ?_
    refine c23z ?_
    refine .ca rfl rfl (ON _ _ (by have := (E0 (u := u) (c := c) (m := mx) S1 i).1; omega)) ?_
    refine .n ?_
    refine u2z ?_ ?_
    ·intro e3 qe3
     refine .c7 [2, 3, 4, 7, 9, 10] ?_
     refine c46z ?_
     exact ⟨_, by omega, .v ⟨(S1.set i (exT u c mx S1 i)), true, i, ⟨rfl, ⟨hO.set hu wc (by omega) (by assumption), by omega⟩⟩, rfl⟩ (hk := t96)⟩
    intro e3 qe3
    refine c5z ?_
    refine .c7 [2, 3, 4, 7, 8, 9] ?_
    refine .rz ?_
    exact ⟨_, by omega, .v ⟨S1, a1, i, ⟨rfl, ⟨hO.same (by assumption), by omega⟩⟩, rfl⟩ (hk := t96)⟩
   intro e2 qe2
   refine .exit ?_
   obtain rfl : i = 0 := by omega
   have hlt := mOf_lt hO
   exact ⟨_, by omega, .v ⟨S1, a1, ⟨rfl, ⟨hO.low, fun h => by subst h; exact hO.done hu wc⟩⟩, rfl⟩ (hk := t96)⟩
  intro e1 qe1
  refine c90z ?_
  exact ⟨_, _, rfl, HH t30 (by omega) hL.tb.1, by (rw [hdone (by assumption)])⟩
def jU (n : Int) : Nat := (min (max n 0) 100).toNat
def AK (n i : Nat) (T : List (List Nat)) : List AV := s3 (T.take i) ++ List.replicate (n - i) AV.j6
variable {T : List (List Nat)}
theorem HV : AK n 0 T = List.replicate n AV.j6 := by simp [AK, s3]
theorem HW (N : Nat) : ∀ x ∈ AK n i T, Refs N x := fun x hx => by
  rcases List.mem_append.1 hx with hx | hx
  · exact (OG _).refs _ x hx
  · rw [List.eq_of_mem_replicate hx]; exact .j6
theorem OQ (h : T.length = n) : AK n n T = s3 T := by
  rw [AK, List.take_of_length_le (by omega), Nat.sub_self]; simp
theorem HX {r : List Nat} (h : T.length = n) (hi : i < n) (hr : T.getD i [] = r) : s3 (T.take i) ++ AV.vec r.length (r.map q9) :: List.replicate (n - (i + 1)) AV.j6 = AK n (i + 1) T := by
  rw [AK, List.take_add_one, List.getElem?_eq_getElem (by omega)]
  have e : T[i] = r := by rw [← hr]; simp [List.getD, show i < T.length from by omega]
  rw [e]
  simp [s3, bR]
theorem overN {x : AV} (h : T.length = n) (hi : i < n) : List.take i (AK n i T) ++ x :: List.drop (i + 1) (AK n i T) = s3 (T.take i) ++ x :: List.replicate (n - (i + 1)) AV.j6 := by
  have hl : (s3 (T.take i)).length = i := by rw [z8, List.length_take]; omega
  rw [AK, List.take_append_of_le_length (by omega), List.take_of_length_le (by omega), List.drop_append, List.drop_of_length_le (by omega), hl, List.nil_append, List.drop_replicate, show n - i - (i + 1 - i) = n - (i + 1) from by omega]
theorem OR (h : T.length = n) (hi : i ≤ n) : (AK n i T).length = n := by
  rw [AK, List.length_append, z8, List.length_take, List.length_replicate]; omega
attribute [local go_sem] overN OR
theorem OS (hu : WU u) (wc : WC u c) (hmx : mx < u.c4.length) (n : Int) : CB 25 [.agg [.vec u.globals.length (g7 u.globals), .vec u.c4.length (g5 u.c4), .vec u.procs.length (j7 u.procs), .int .i64 u.main], .agg [.vec c.insts.length (l5 c.insts), .vec c.calls.length (m6 c.calls), .vec c.roots.length (g7 c.roots)], .int .i64 ((mx : Nat) : Int), .int .i64 n] h (.vec c.insts.length (s3 (yN u c mx (jU n)))) := by
  refine .bz Tryz.f25 42 ?_
  have hwl := wc.len
  have hk8 : kM u mx ≤ 8 := mD
  have hk9 : tS (u.c4.getD mx v9) ≤ 8 := hk8
  have hml := hu.ml
  obtain ⟨rn, hrn⟩ : ∃ rn, jU n = rn := ⟨_, rfl⟩
  have hrn2 : rn ≤ 100 := by rw [← hrn]; unfold jU; omega
  refine c222z ?_
  refine .ca rfl rfl (OO hu wc hmx) ?_
  refine c235z ?_
  rw [show (if (100 : Int) < (if (0 : Int) > n then 0 else n) then 100 else (if (0 : Int) > n then 0 else n)) = ((rn : Nat) : Int) from by rw [← hrn]; unfold jU; split <;> split <;> omega]
  refine .z7 (fun m st => ∃ (r : Nat), (m = rn - r ∧ (r ≤ rn)) ∧ st = ⟨mkS 42 [(2, AV.int .i64 ((mx : Nat) : Int)), (4, AV.ptr h.length 0 0), (5, AV.ptr (h.length + 1) 0 0), (9, AV.vec c.insts.length (s3 (yN u c mx r))), (18, AV.int .i64 ((rn : Nat) : Int)), (19, AV.int .i64 ((r : Nat) : Int))], h ++ [⟨0, false, 30, 4, [.vec u.globals.length (g7 u.globals), .vec u.c4.length (g5 u.c4), .vec u.procs.length (j7 u.procs), .int .i64 u.main], 0⟩, ⟨0, false, 34, 3, [.vec c.insts.length (l5 c.insts), .vec c.calls.length (m6 c.calls), .vec c.roots.length (g7 c.roots)], 0⟩]⟩) (.v ⟨0, ⟨rfl, by omega⟩, rfl⟩) ?_
  rintro m sl h' ⟨r, ⟨hm, hr⟩, hst⟩
  obtain ⟨rfl, rfl⟩ := St.mk.inj hst; clear hst
  have hRl : (uG u c mx (yN u c mx r)).length = c.insts.length := (fC _).1
  refine c26z ?_
  refine u2z ?_ ?_
  ·intro e1 qe1
   refine c2z ?_
   refine c53z ?_
   refine .z7 (fun m st => ∃ (i : Nat), (m = c.insts.length - i ∧ (i ≤ c.insts.length)) ∧ st = ⟨mkS 42 [(2, AV.int .i64 ((mx : Nat) : Int)), (4, AV.ptr h.length 0 0), (5, AV.ptr (h.length + 1) 0 0), (9, AV.vec c.insts.length (s3 (yN u c mx r))), (10, AV.own (h.length + 2) 0 0 c.insts.length), (18, AV.int .i64 ((rn : Nat) : Int)), (19, AV.int .i64 ((r : Nat) : Int)), (25, AV.int .i64 ((c.insts.length : Nat) : Int)), (26, AV.int .i64 ((i : Nat) : Int))], h ++ [⟨0, false, 30, 4, [.vec u.globals.length (g7 u.globals), .vec u.c4.length (g5 u.c4), .vec u.procs.length (j7 u.procs), .int .i64 u.main], 0⟩, ⟨0, false, 34, 3, [.vec c.insts.length (l5 c.insts), .vec c.calls.length (m6 c.calls), .vec c.roots.length (g7 c.roots)], 0⟩, ⟨0, false, 22, 1, AK c.insts.length i (uG u c mx (yN u c mx r)), 0⟩]⟩) (.v ⟨0, ⟨rfl, by omega⟩, rfl⟩) ?_ (he := by (rw [HV]))
   rintro m sl h' ⟨i, ⟨hm, hi⟩, hst⟩
   obtain ⟨rfl, rfl⟩ := St.mk.inj hst; clear hst
   refine c26z ?_
   refine u2z ?_ ?_
   ·intro e2 qe2
    refine c87z ?_
    refine .r ?_
    refine .e 7 ?_
    refine .ca rfl rfl (c_exitV hu wc hmx (oM r) (show i < c.insts.length by omega) (fun l0 => AH hu wc hmx (oM r) (show i < c.insts.length by omega) _)) ?_
    refine c25z ?_
    refine .c7 [2, 4, 5, 9, 10, 18, 19, 25, 26] ?_
    refine .rz ?_
    exact ⟨_, by omega, .v ⟨(i + 1), ⟨rfl, by omega⟩, rfl⟩ (he := by (rw [HX hRl (by omega) (oL (by omega))]; exact (List.append_nil _).symm)) (hk := by exact (z5.refl _).app rfl ⟨.inl rfl, .inl rfl, .inr (HW _), trivial⟩)⟩
   intro e2 qe2
   refine .exit ?_
   obtain rfl : i = c.insts.length := by omega
   rw [OQ hRl]
   refine c9.seenT (t := 10) (γ := (h.length + 2)) (len := c.insts.length) t30 hRl (by omega) (mP (by decide) rfl) ?_
   rw [bI]; simp only [o7, List.set_cons_succ, List.set_cons_zero]
   change c9 ..
   refine c46z ?_
   exact ⟨_, by omega, .v ⟨(r + 1), ⟨rfl, by omega⟩, rfl⟩ (he := t31)⟩
  intro e1 qe1
  refine .exit ?_
  obtain rfl : r = rn := by omega
  refine c224z ?_
  exact .ret (.ex (hq := by (rw [hrn])))
end Go.Proofs.YtfbjlfhjkojmkaaGreat
end
section
namespace Go.Proofs.YtfbjlfhjkojmkaaGreat
open Go.Ab Go.Un
variable {h : c6}
theorem K6 (u : Un) (mx : Nat) : CB 36 [.agg [.str (u.c4.getD mx v9).name, .bool (u.c4.getD mx v9).re, .int .i64 (u.c4.getD mx v9).size]] h (.int .i64 ((kM u mx : Nat) : Int)) := QZ _
theorem OT (k : Nat) (hk : k ≤ 8) : CB 41 [.int .i64 ((k : Nat) : Int), .int .i64 0] h (bR (dhN k 0)) :=
  (GI k 0 hk (by omega) (by omega)).mono fun y k hq => ⟨hq.1.trans (T4 _ _), hq.2⟩
variable {u : Un} {c : Clo} {mx i : Nat}
theorem c_relRN (hu : WU u) (wc : WC u c) (hmx : mx < u.c4.length) (hi : i < c.insts.length) {pc : Nat} (hp : pc < gI u c i) : CB 42 [.agg [.vec u.globals.length (g7 u.globals), .vec u.c4.length (g5 u.c4), .vec u.procs.length (j7 u.procs), .int .i64 u.main], .agg [.int .i64 (itI c i).proc, .vec (itI c i).j4.length (g7 (itI c i).j4)], .int .i64 ((pc : Nat) : Int), .int .i64 ((mx : Nat) : Int)] h (bR (dhN (kM u mx) (chI (itI c i) (mG u c i pc) mx))) :=
  (c_relR hu (gZ wc hi) hp hmx).mono fun y k hq => ⟨hq.1.trans (T4 _ _), hq.2⟩
theorem T6 (hu : WU u) {it : u4} (w : WIt u it) {pc : Nat} (hpc : pc < (c8 u it).length) : CB 44 [.agg [.vec u.globals.length (g7 u.globals), .vec u.c4.length (g5 u.c4), .vec u.procs.length (j7 u.procs), .int .i64 u.main], .agg [.int .i64 it.proc, .vec it.j4.length (g7 it.j4)], .int .i64 ((pc : Nat) : Int)] h (.vec (u0 ((c8 u it).getD pc g6) pc).length (g7 (u0 ((c8 u it).getD pc g6) pc))) := c_nextR hu w hpc
attribute [local go_sem] rd bR u7 aK s5 n5 l9 dO z8 Int.natCast_nonneg Int.natCast_inj dD jP gY jQ lC pS K2 vV jT vW AE lX tW tX pT List.length_set List.length_replicate Int.toNat_natCast_add_one kV wrap64 K5 List.length_map lE jS
theorem HY (hu : WU u) (wc : WC u c) (hmx : mx < u.c4.length) {S : List (List Nat)} (hS : Tb (kM u mx) c.insts.length S) (hi : i < c.insts.length) : CB 19 [.agg [.vec u.globals.length (g7 u.globals), .vec u.c4.length (g5 u.c4), .vec u.procs.length (j7 u.procs), .int .i64 u.main], .agg [.vec c.insts.length (l5 c.insts), .vec c.calls.length (m6 c.calls), .vec c.roots.length (g7 c.roots)], .int .i64 ((mx : Nat) : Int), .vec c.insts.length (s3 S), .int .i64 ((i : Nat) : Int)] h (.vec (gI u c i) (s3 (D9 u c mx S i))) := by
  refine .bz Tryz.f19 136 ?_
  have w := gZ wc hi
  have w1 := w.lo; have w2 := w.hi
  have hsz : (c8 u (itI c i)).length ≤ 1664 := r8 hu w
  have hwl := wc.len
  have hk8 : kM u mx ≤ 8 := mD
  have hk9 : tS (u.c4.getD mx v9) ≤ 8 := hk8
  have hml := hu.ml
  have p : Pro (kM u mx) (c8 u (itI c i)).length (nxI u c i) (stS u c mx S i) := XJ hu wc hS hi
  have hps := p.pos
  have hcl := wc.cl
  have hcll : (c.calls.getD i []).length = (c8 u (itI c i)).length := wc.cll i hi
  have hSl := hS.1
  have hcall : ∀ pc, pc < (c8 u (itI c i)).length → (mG u c i pc).op = 2 → 0 ≤ (c.calls.getD i []).getD pc 0 ∧ (c.calls.getD i []).getD pc 0 < c.insts.length := fun pc hp ho => by have := (wc.call i hi pc hp).1 (.inl ho); exact ⟨this.1, this.2.1⟩
  refine c19z ?_
  refine .c7 [2, 3, 4, 5, 6, 11] ?_
  refine c23z ?_
  refine .ca rfl rfl (K6 u mx) ?_
  refine .n ?_
  refine c72z ?_
  refine c38z ?_
  refine .c7 [2, 3, 4, 5, 6, 11, 12, 13] ?_
  refine c24z ?_
  refine .z7 (fun m st => ∃ (j : Nat), (m = (c8 u (itI c i)).length - j ∧ (j ≤ (c8 u (itI c i)).length)) ∧ st = ⟨mkS 136 [(2, AV.int .i64 ((mx : Nat) : Int)), (3, AV.vec c.insts.length (s3 S)), (4, AV.int .i64 ((i : Nat) : Int)), (5, AV.ptr h.length 0 0), (6, AV.ptr (h.length + 1) 0 0), (11, AV.ptr (h.length + 2) 0 0), (12, AV.int .i64 (((kM u mx) : Nat) : Int)), (13, AV.own (h.length + 3) 0 0 (c8 u (itI c i)).length), (14, AV.int .i64 ((j : Nat) : Int))], h ++ [⟨0, false, 30, 4, [.vec u.globals.length (g7 u.globals), .vec u.c4.length (g5 u.c4), .vec u.procs.length (j7 u.procs), .int .i64 u.main], 0⟩, ⟨0, false, 34, 3, [.vec c.insts.length (l5 c.insts), .vec c.calls.length (m6 c.calls), .vec c.roots.length (g7 c.roots)], 0⟩, ⟨0, false, 69, 2, [.int .i64 (itI c i).proc, .vec (itI c i).j4.length (g7 (itI c i).j4)], 0⟩, ⟨0, false, 22, 1, vX (c8 u (itI c i)).length j (List.replicate (kM u mx + 1) 0), 0⟩]⟩) (.v ⟨0, ⟨rfl, by omega⟩, rfl⟩) ?_ (he := by (rw [oN]))
  rintro m sl h' ⟨j, ⟨hm, hj⟩, hst⟩
  obtain ⟨rfl, rfl⟩ := St.mk.inj hst; clear hst
  refine c0z ?_
  refine u2z ?_ ?_
  ·intro e1 qe1
   refine c2z ?_
   refine c1z ?_
   refine .c7 [2, 3, 4, 5, 6, 11, 12, 13, 14] ?_
   refine c9.OJ (β := h.length + 3) (γ := h.length + 4) (A := s3 (List.replicate j (List.replicate (kM u mx + 1) 0))) (R := List.replicate ((c8 u (itI c i)).length - (j + 1)) AV.j6) (zs := (List.replicate (kM u mx + 1) 0)) (len := kM u mx + 1) t30 t30 (by simp) (by omega) ?_
   refine c16z ?_
   exact ⟨_, by omega, .v ⟨(j + 1), ⟨rfl, by omega⟩, rfl⟩ (he := t87) (hk := by exact (z5.refl _).app rfl ⟨.inl rfl, .inl rfl, .inl rfl, .inr (uL _), trivial⟩)⟩
  intro e1 qe1
  refine .exit ?_
  obtain rfl : j = (c8 u (itI c i)).length := by omega
  simp only [rV]
  change c9 ..
  refine c30z ?_
  refine .ca rfl rfl (OT _ hk8) ?_
  refine c38z ?_
  refine .c7 [2, 3, 4, 5, 6, 11, 13] ?_
  refine c24z ?_
  refine .z7 (fun m st => ∃ (T : List (List Nat)) (ag : Bool), (m = RM (c8 u (itI c i)).length T ag ∧ (Gro (kM u mx) (c8 u (itI c i)).length (nxI u c i) (stS u c mx S i) T ∧ (ag = false → T = dE (kM u mx) (c8 u (itI c i)).length (nxI u c i) (stS u c mx S i)))) ∧ st = ⟨mkS 136 [(2, AV.int .i64 ((mx : Nat) : Int)), (3, AV.vec c.insts.length (s3 S)), (4, AV.int .i64 ((i : Nat) : Int)), (5, AV.ptr h.length 0 0), (6, AV.ptr (h.length + 1) 0 0), (11, AV.ptr (h.length + 2) 0 0), (13, AV.own (h.length + 3) 0 0 (c8 u (itI c i)).length), (15, AV.bool ag)], h ++ [⟨0, false, 30, 4, [.vec u.globals.length (g7 u.globals), .vec u.c4.length (g5 u.c4), .vec u.procs.length (j7 u.procs), .int .i64 u.main], 0⟩, ⟨0, false, 34, 3, [.vec c.insts.length (l5 c.insts), .vec c.calls.length (m6 c.calls), .vec c.roots.length (g7 c.roots)], 0⟩, ⟨0, false, 69, 2, [.int .i64 (itI c i).proc, .vec (itI c i).j4.length (g7 (itI c i).j4)], 0⟩, ⟨0, false, 22, 1, s3 T, 0⟩]⟩) (.v ⟨((List.replicate (c8 u (itI c i)).length (List.replicate (kM u mx + 1) 0)).set 0 (dhN (kM u mx) 0)), true, ⟨rfl, ⟨Gro.start p, fun hf => by cases hf⟩⟩, rfl⟩) ?_
  rintro m sl h' ⟨T, ag, ⟨hm, ⟨hG, hdone⟩⟩, hst⟩
  obtain ⟨rfl, rfl⟩ := St.mk.inj hst; clear hst
  refine c0z ?_
  refine u2z ?_ ?_
  ·intro e2 qe2
   refine c171z ?_
   have hag : ag = true := by assumption
   subst hag
   refine c19z ?_
   refine .block ?_
   refine .z7 (fun m st => ∃ (T1 : List (List Nat)) (a1 : Bool) (pc : Nat), (m = (c8 u (itI c i)).length - pc ∧ (IU (kM u mx) (c8 u (itI c i)).length (nxI u c i) (stS u c mx S i) T T1 a1 pc ∧ pc ≤ (c8 u (itI c i)).length)) ∧ st = ⟨mkS 136 [(2, AV.int .i64 ((mx : Nat) : Int)), (3, AV.vec c.insts.length (s3 S)), (4, AV.int .i64 ((i : Nat) : Int)), (5, AV.ptr h.length 0 0), (6, AV.ptr (h.length + 1) 0 0), (11, AV.ptr (h.length + 2) 0 0), (13, AV.own (h.length + 3) 0 0 (c8 u (itI c i)).length), (15, AV.bool a1), (16, AV.int .i64 ((pc : Nat) : Int))], h ++ [⟨0, false, 30, 4, [.vec u.globals.length (g7 u.globals), .vec u.c4.length (g5 u.c4), .vec u.procs.length (j7 u.procs), .int .i64 u.main], 0⟩, ⟨0, false, 34, 3, [.vec c.insts.length (l5 c.insts), .vec c.calls.length (m6 c.calls), .vec c.roots.length (g7 c.roots)], 0⟩, ⟨0, false, 69, 2, [.int .i64 (itI c i).proc, .vec (itI c i).j4.length (g7 (itI c i).j4)], 0⟩, ⟨0, false, 22, 1, s3 T1, 0⟩]⟩) (.v ⟨T, false, 0, ⟨rfl, ⟨IU.start hG, by omega⟩⟩, rfl⟩) ?_
   rintro m sl h' ⟨T1, a1, pc, ⟨hm, ⟨hP, hpl⟩⟩, hst⟩
   obtain ⟨rfl, rfl⟩ := St.mk.inj hst; clear hst
   have hT1 : T1.length = (c8 u (itI c i)).length := hP.g.tb.1
   refine c0z ?_
   refine u2z ?_ ?_
   ·intro e3 qe3
    refine c2z ?_
    have hpc : pc < (c8 u (itI c i)).length := by omega
    have hop : mG u c i pc = (c8 u (itI c i)).getD pc g6 := rfl
    refine c31z ?_
    refine .ca rfl rfl (c_relRN hu wc hmx hi (show pc < gI u c i by show pc < (c8 u (itI c i)).length; omega)) ?_
    refine c38z ?_
    refine .c7 [2, 3, 4, 5, 6, 11, 13, 15, 16, 17] ?_
    refine c177z ?_
    refine u2z ?_ ?_
    ·intro e4 qe4
     refine .c7 [2, 3, 4, 5, 6, 11, 13, 15, 16] ?_
     obtain ⟨hc1, hc2⟩ := hcall pc hpc (by rw [hop]; omega)
     refine c127z ?_
     refine .c7 [2, 3, 4, 5, 6, 11, 13, 15, 16, 17] ?_
     have hst2 : S.getD ((c.calls.getD i []).getD pc 0).toNat [] = stS u c mx S i pc := by unfold stS; rw [if_pos (show (mG u c i pc).op = 2 from by rw [hop]; omega)]; first | done | rfl
     rw [hst2]
     have hst1 := p.st pc hpc
     have hTp := hP.g.tb.get hpc
     obtain ⟨hR, hle⟩ := hP.g.aft p hpc
     have hnl := tT (x := (c8 u (itI c i)).getD pc g6) (pc := pc)
     refine .ss s9 (mkP 12 [0, 0, 3, 7, 0, 31, 0, 0, 0, 511, 1023, 2047] []) ?_
     refine .k 5 [] ?_
     refine .ca rfl rfl (HI _ _ (hst1.lt hk8) (by have := hst1.1; omega) (hTp.lt hk8) (by have := hTp.1; omega)) ?_
     refine .k 3 [] ?_
     refine .ca rfl rfl (T6 hu w hpc) ?_
     refine .n [] ?_
     refine .c7 [2, 3, 4, 5, 6, 11, 13, 15, 16, 18, 19] ?_
     refine c24z ?_
     refine .z7 (fun m st => ∃ (T2 : List (List Nat)) (a2 : Bool) (j : Nat), (m = (u0 ((c8 u (itI c i)).getD pc g6) pc).length - j ∧ (HL (kM u mx) (c8 u (itI c i)).length (nxI u c i) (stS u c mx S i) T T2 a2 pc (T1.getD pc []) j ∧ j ≤ (u0 ((c8 u (itI c i)).getD pc g6) pc).length)) ∧ st = ⟨mkS 136 [(2, AV.int .i64 ((mx : Nat) : Int)), (3, AV.vec c.insts.length (s3 S)), (4, AV.int .i64 ((i : Nat) : Int)), (5, AV.ptr h.length 0 0), (6, AV.ptr (h.length + 1) 0 0), (11, AV.ptr (h.length + 2) 0 0), (13, AV.own (h.length + 3) 0 0 (c8 u (itI c i)).length), (15, AV.bool a2), (16, AV.int .i64 ((pc : Nat) : Int)), (18, bR (o4 (T1.getD pc []) (stS u c mx S i pc))), (19, AV.vec (u0 ((c8 u (itI c i)).getD pc g6) pc).length (g7 (u0 ((c8 u (itI c i)).getD pc g6) pc))), (20, AV.int .i64 ((j : Nat) : Int))], h ++ [⟨0, false, 30, 4, [.vec u.globals.length (g7 u.globals), .vec u.c4.length (g5 u.c4), .vec u.procs.length (j7 u.procs), .int .i64 u.main], 0⟩, ⟨0, false, 34, 3, [.vec c.insts.length (l5 c.insts), .vec c.calls.length (m6 c.calls), .vec c.roots.length (g7 c.roots)], 0⟩, ⟨0, false, 69, 2, [.int .i64 (itI c i).proc, .vec (itI c i).j4.length (g7 (itI c i).j4)], 0⟩, ⟨0, false, 22, 1, s3 T2, 0⟩]⟩) (.v ⟨T1, a1, 0, ⟨rfl, ⟨hP.go, by omega⟩⟩, rfl⟩) ?_
     rintro m sl h' ⟨T2, a2, j, ⟨hm, ⟨hQ, hj⟩⟩, hst⟩
     obtain ⟨rfl, rfl⟩ := St.mk.inj hst; clear hst
     have hT2 : T2.length = (c8 u (itI c i)).length := hQ.g.tb.1
     refine c0z ?_
     refine u2z ?_ ?_
     ·intro e5 qe5
      refine c2z ?_
      obtain ⟨hq1, hq2⟩ := p.nx pc hpc _ (l3 (d := 0) (show j < (nxI u c i pc).length from by show j < (u0 ((c8 u (itI c i)).getD pc g6) pc).length; omega))
      rw [show nxI u c i pc = (u0 ((c8 u (itI c i)).getD pc g6) pc) from rfl] at hq1 hq2
      have hjn : j < (nxI u c i pc).length := by show j < (u0 ((c8 u (itI c i)).getD pc g6) pc).length; omega
      have hq3 : ((u0 ((c8 u (itI c i)).getD pc g6) pc).getD j 0).toNat < (c8 u (itI c i)).length := by omega
      have hRq := hQ.g.tb.get hq3
      refine c72z ?_
      refine .ca rfl rfl (yQ _ _ (hR.lt hk8) (hRq.lt hk8) (by have := hRq.1; omega) t151) ?_
      refine .n ?_
      refine .c7 [2, 3, 4, 5, 6, 11, 13, 15, 16, 18, 19, 20, 21] ?_
      refine c72z ?_
      refine .ca rfl rfl (K3 _ _ (by rw [oG]; have := hRq.1; omega)) ?_
      refine .n ?_
      refine u2z ?_ ?_
      ·intro e6 qe6
       refine .c7 [2, 3, 4, 5, 6, 11, 13, 16, 18, 19, 20, 21] ?_
       refine c127z ?_
       refine c121z ?_
       exact ⟨_, by omega, .v ⟨(T2.set ((u0 ((c8 u (itI c i)).getD pc g6) pc).getD j 0).toNat (cD (T2.getD ((u0 ((c8 u (itI c i)).getD pc g6) pc).getD j 0).toNat []) (o4 (T1.getD pc []) (stS u c mx S i pc)))), true, (j + 1), ⟨rfl, ⟨hQ.grow p hpc hR hle hjn rfl (fun hs => absurd ((dP hRq hR).2 hs) (by assumption)), by omega⟩⟩, rfl⟩ (he := t31) (hk := t51)⟩
      intro e6 qe6
      refine c5z ?_
      refine c121z ?_
      exact ⟨_, by omega, .v ⟨T2, a2, (j + 1), ⟨rfl, ⟨hQ.skip ((dP hRq hR).1 (by assumption)), by omega⟩⟩, rfl⟩ (he := t31) (hk := t51)⟩
     intro e5 qe5
     refine .exit ?_
     obtain rfl : j = (u0 ((c8 u (itI c i)).getD pc g6) pc).length := by omega
     change c9 ..
     refine .rz ?_
     exact ⟨_, by omega, .v ⟨T2, a2, (pc + 1), ⟨rfl, ⟨hQ.fin, by omega⟩⟩, rfl⟩ (he := t31) (hk := t51)⟩
    intro e4 qe4
    refine .sk ?_
    refine .c7 [2, 3, 4, 5, 6, 11, 13, 15, 16, 17] ?_
    have hst2 : dhN (kM u mx) (chI (itI c i) (mG u c i pc) mx) = stS u c mx S i pc := by unfold stS; rw [if_neg (show ¬ (mG u c i pc).op = 2 from by rw [hop]; omega)]; first | done | rfl
    rw [hst2]
    have hst1 := p.st pc hpc
    have hTp := hP.g.tb.get hpc
    obtain ⟨hR, hle⟩ := hP.g.aft p hpc
    have hnl := tT (x := (c8 u (itI c i)).getD pc g6) (pc := pc)
    refine .ss s9 (mkP 12 [0, 0, 3, 7, 0, 31, 0, 0, 0, 511, 1023, 2047] []) ?_
    refine .k 5 [] ?_
    refine .ca rfl rfl (HI _ _ (hst1.lt hk8) (by have := hst1.1; omega) (hTp.lt hk8) (by have := hTp.1; omega)) ?_
    refine .k 3 [] ?_
    refine .ca rfl rfl (T6 hu w hpc) ?_
    refine .n [] ?_
    refine .c7 [2, 3, 4, 5, 6, 11, 13, 15, 16, 18, 19] ?_
    refine c24z ?_
    refine .z7 (fun m st => ∃ (T2 : List (List Nat)) (a2 : Bool) (j : Nat), (m = (u0 ((c8 u (itI c i)).getD pc g6) pc).length - j ∧ (HL (kM u mx) (c8 u (itI c i)).length (nxI u c i) (stS u c mx S i) T T2 a2 pc (T1.getD pc []) j ∧ j ≤ (u0 ((c8 u (itI c i)).getD pc g6) pc).length)) ∧ st = ⟨mkS 136 [(2, AV.int .i64 ((mx : Nat) : Int)), (3, AV.vec c.insts.length (s3 S)), (4, AV.int .i64 ((i : Nat) : Int)), (5, AV.ptr h.length 0 0), (6, AV.ptr (h.length + 1) 0 0), (11, AV.ptr (h.length + 2) 0 0), (13, AV.own (h.length + 3) 0 0 (c8 u (itI c i)).length), (15, AV.bool a2), (16, AV.int .i64 ((pc : Nat) : Int)), (18, bR (o4 (T1.getD pc []) (stS u c mx S i pc))), (19, AV.vec (u0 ((c8 u (itI c i)).getD pc g6) pc).length (g7 (u0 ((c8 u (itI c i)).getD pc g6) pc))), (20, AV.int .i64 ((j : Nat) : Int))], h ++ [⟨0, false, 30, 4, [.vec u.globals.length (g7 u.globals), .vec u.c4.length (g5 u.c4), .vec u.procs.length (j7 u.procs), .int .i64 u.main], 0⟩, ⟨0, false, 34, 3, [.vec c.insts.length (l5 c.insts), .vec c.calls.length (m6 c.calls), .vec c.roots.length (g7 c.roots)], 0⟩, ⟨0, false, 69, 2, [.int .i64 (itI c i).proc, .vec (itI c i).j4.length (g7 (itI c i).j4)], 0⟩, ⟨0, false, 22, 1, s3 T2, 0⟩]⟩) (.v ⟨T1, a1, 0, ⟨rfl, ⟨hP.go, by omega⟩⟩, rfl⟩) ?_
    rintro m sl h' ⟨T2, a2, j, ⟨hm, ⟨hQ, hj⟩⟩, hst⟩
    obtain ⟨rfl, rfl⟩ := St.mk.inj hst; clear hst
    have hT2 : T2.length = (c8 u (itI c i)).length := hQ.g.tb.1
    refine c0z ?_
    refine u2z ?_ ?_
    ·intro e7 qe7
     refine c2z ?_
     obtain ⟨hq1, hq2⟩ := p.nx pc hpc _ (l3 (d := 0) (show j < (nxI u c i pc).length from by show j < (u0 ((c8 u (itI c i)).getD pc g6) pc).length; omega))
     rw [show nxI u c i pc = (u0 ((c8 u (itI c i)).getD pc g6) pc) from rfl] at hq1 hq2
     have hjn : j < (nxI u c i pc).length := by show j < (u0 ((c8 u (itI c i)).getD pc g6) pc).length; omega
     have hq3 : ((u0 ((c8 u (itI c i)).getD pc g6) pc).getD j 0).toNat < (c8 u (itI c i)).length := by omega
     have hRq := hQ.g.tb.get hq3
     refine c72z ?_
     refine .ca rfl rfl (yQ _ _ (hR.lt hk8) (hRq.lt hk8) (by have := hRq.1; omega) t151) ?_
     refine .n ?_
     refine .c7 [2, 3, 4, 5, 6, 11, 13, 15, 16, 18, 19, 20, 21] ?_
     refine c72z ?_
     refine .ca rfl rfl (K3 _ _ (by rw [oG]; have := hRq.1; omega)) ?_
     refine .n ?_
     refine u2z ?_ ?_
     ·intro e8 qe8
      refine .c7 [2, 3, 4, 5, 6, 11, 13, 16, 18, 19, 20, 21] ?_
      refine c127z ?_
      refine c121z ?_
      exact ⟨_, by omega, .v ⟨(T2.set ((u0 ((c8 u (itI c i)).getD pc g6) pc).getD j 0).toNat (cD (T2.getD ((u0 ((c8 u (itI c i)).getD pc g6) pc).getD j 0).toNat []) (o4 (T1.getD pc []) (stS u c mx S i pc)))), true, (j + 1), ⟨rfl, ⟨hQ.grow p hpc hR hle hjn rfl (fun hs => absurd ((dP hRq hR).2 hs) (by assumption)), by omega⟩⟩, rfl⟩ (he := t31) (hk := t51)⟩
     intro e8 qe8
     refine c5z ?_
     refine c121z ?_
     exact ⟨_, by omega, .v ⟨T2, a2, (j + 1), ⟨rfl, ⟨hQ.skip ((dP hRq hR).1 (by assumption)), by omega⟩⟩, rfl⟩ (he := t31) (hk := t51)⟩
    intro e7 qe7
    refine .exit ?_
    obtain rfl : j = (u0 ((c8 u (itI c i)).getD pc g6) pc).length := by omega
    change c9 ..
    refine .rz ?_
    exact ⟨_, by omega, .v ⟨T2, a2, (pc + 1), ⟨rfl, ⟨hQ.fin, by omega⟩⟩, rfl⟩ (he := t31) (hk := t51)⟩
   intro e3 qe3
   refine .exit ?_
   obtain rfl : pc = (c8 u (itI c i)).length := by omega
   have hlt := mPas_lt hk8 hP
   exact ⟨_, by omega, .v ⟨T1, a1, ⟨rfl, ⟨hP.g, fun hf => by subst hf; exact hP.done p⟩⟩, rfl⟩ (he := t31) (hk := t51)⟩
  intro e2 qe2
  refine c9z ?_
  refine .c7 [13] ?_
  refine c32z ?_
  exact ⟨_, _, rfl, HH t30 (by omega) hG.tb.1, by (show _ = _; rw [hdone (by assumption)]; rfl)⟩
theorem OU (hu : WU u) (wc : WC u c) (hmx : mx < u.c4.length) {S : List (List Nat)} (hS : Tb (kM u mx) c.insts.length S) (hi : i < c.insts.length) : CB 23 [.agg [.vec u.globals.length (g7 u.globals), .vec u.c4.length (g5 u.c4), .vec u.procs.length (j7 u.procs), .int .i64 u.main], .agg [.vec c.insts.length (l5 c.insts), .vec c.calls.length (m6 c.calls), .vec c.roots.length (g7 c.roots)], .int .i64 ((mx : Nat) : Int), .vec c.insts.length (s3 S), .int .i64 ((i : Nat) : Int)] h (bR (exT u c mx S i)) := by
  refine .bz Tryz.f23 57 ?_
  have w := gZ wc hi
  have w1 := w.lo; have w2 := w.hi
  have hsz : (c8 u (itI c i)).length ≤ 1664 := r8 hu w
  have hwl := wc.len
  have hk8 : kM u mx ≤ 8 := mD
  have hk9 : tS (u.c4.getD mx v9) ≤ 8 := hk8
  have hml := hu.ml
  have hT := yO (u := u) (c := c) (m := mx) S i
  have hTl : (D9 u c mx S i).length = gI u c i := hT.1
  have hli : gI u c i ≤ 1664 := hsz
  have hlc : gI u c i = (c8 u (itI c i)).length := rfl
  refine .z ?_
  refine c23z ?_
  refine .ca rfl rfl ((HY hu wc hmx hS hi)) ?_
  refine .n ?_
  refine .c7 [2, 4, 5, 6, 11] ?_
  refine c23z ?_
  refine .ca rfl rfl (K6 u mx) ?_
  refine c38z ?_
  refine .c7 [4, 5, 6, 11, 12] ?_
  refine c9.XS (t := 12) (γ := (h.length + 2)) (len := (kM u mx + 1)) t30 (by simp) (by omega) (mP (by decide) rfl) ?_
  rw [bI]; simp only [o7, List.set_cons_succ, List.set_cons_zero]
  generalize (⟨0, false, 3, 1, (List.replicate (kM u mx + 1) 0).map q9, kM u mx + 1⟩ : Blk) = Vb
  refine c24z ?_
  refine .cI (fun m st => ∃ (j : Nat), (m = gI u c i - j ∧ (j ≤ gI u c i)) ∧ st = ⟨mkS 57 [(4, AV.int .i64 ((i : Nat) : Int)), (5, AV.ptr h.length 0 0), (6, AV.ptr (h.length + 1) 0 0), (11, AV.vec (gI u c i) (s3 (D9 u c mx S i))), (12, bR (S8 u c mx i (D9 u c mx S i) j)), (13, AV.int .i64 ((j : Nat) : Int))], h ++ [⟨0, false, 30, 4, [.vec u.globals.length (g7 u.globals), .vec u.c4.length (g5 u.c4), .vec u.procs.length (j7 u.procs), .int .i64 u.main], 0⟩, ⟨0, false, 34, 3, [.vec c.insts.length (l5 c.insts), .vec c.calls.length (m6 c.calls), .vec c.roots.length (g7 c.roots)], 0⟩, Vb]⟩) _ (.v ⟨0, ⟨rfl, by omega⟩, rfl⟩ (hs := t22)) ?_
  rintro m sl h' ⟨j, ⟨hm, hj⟩, hst⟩
  obtain ⟨rfl, rfl⟩ := St.mk.inj hst
  have hop : (mG u c i j).op = ((c8 u (itI c i)).getD j g6).op := rfl
  refine c0z ?_
  refine u2z ?_ ?_
  ·intro e1 qe1
   refine c2z ?_
   have hTj := hT.get (i := j) (by omega)
   have hEj := pR (u := u) (c := c) (m := mx) i (D9 u c mx S i) j
   refine c109z ?_
   refine u2z ?_ ?_
   ·intro e2 qe2
    refine .c7 [4, 5, 6, 11, 12, 13] ?_
    refine .r ?_
    refine .e 5 ?_
    refine .ca rfl rfl (yQ _ _ (hTj.lt hk8) (hEj.lt hk8) (by have := hEj.1; omega) t179) ?_
    refine c25z ?_
    refine .rz ?_
    exact ⟨_, by omega, .v ⟨(j + 1), ⟨rfl, by omega⟩, rfl⟩ (hs := t22)⟩
   intro e2 qe2
   refine c5z ?_
   refine .c7 [4, 5, 6, 11, 12, 13] ?_
   refine .rz ?_
   exact ⟨_, by omega, .v ⟨(j + 1), ⟨rfl, by omega⟩, rfl⟩ (hs := t22)⟩
  intro e1 qe1
  refine .exit ?_
  obtain rfl : j = gI u c i := by omega
  change c9 ..
  refine .c7 [12] ?_
  refine .z ?_
  exact .ret (.ex (hq := by rfl))
end Go.Proofs.YtfbjlfhjkojmkaaGreat
end
section
namespace Go.Proofs.YtfbjlfhjkojmkaaGreat
open Go.Ab Go.Un
variable {h : c6} {T : List (List Nat)} {g n : Nat}
theorem yR {l : c6} {b0 b1 : Blk} {r : List Nat} (hn : T.length = n) (hl : n < 100000) : j5 cfg 22 (h ++ (b0 :: b1 :: p4 22 1 g (s3 T) :: ⟨0, false, 22, 1, [.vec r.length (r.map q9)], 0⟩ :: l)) (.own (h.length + 2) g 0 n) (.own (h.length + 3) 0 0 1) = some (.own (h.length + 2) (g + 1) 0 (n + 1), h ++ (b0 :: b1 :: p4 22 1 (g + 1) (s3 (T ++ [r])) :: ⟨0, false, 22, 1, [.vec r.length (r.map q9)], 0⟩ :: l)) := by
  subst hn
  rw [z1 (C := cfg) (K := 1) (m := 1) (new := [.vec r.length (r.map q9)]) (zs := s3 T) t30 rfl (by omega) (by simp [s3]) rfl (by omega) t161 rfl (by decide) (by omega), o7, show s3 T ++ [AV.vec r.length (r.map q9)] = s3 (T ++ [r]) from by simp [s3, bR]]
  rfl
theorem yS {l : c6} {b0 b1 b3 : Blk} {k : Nat} (hn : T.length = n) (hl : n < 100000) : j5 cfg 22 (h ++ (b0 :: b1 :: p4 22 1 g (s3 T) :: b3 :: ⟨0, false, 22, 1, [.own (h.length + 3) 0 0 k], 0⟩ :: l)) (.own (h.length + 2) g 0 n) (.own (h.length + 4) 0 0 1) = some (.own (h.length + 2) (g + 1) 0 (n + 1), h ++ (b0 :: b1 :: ⟨g + 1, false, 22, 1, s3 T ++ [.own (h.length + 3) 0 0 k], 0⟩ :: b3 :: ⟨0, false, 22, 1, [.own (h.length + 3) 0 0 k], 0⟩ :: l)) := by
  subst hn
  rw [z1 (C := cfg) (K := 1) (m := 1) (new := [.own (h.length + 3) 0 0 k]) (zs := s3 T) t30 rfl (by omega) (by simp [s3]) rfl (by omega) t161 rfl (by decide) (by omega), o7, cU (zs := s3 T ++ [AV.own (h.length + 3) 0 0 k]) (by simp)]
  rfl
theorem c9.seenG {c : Code} {sl : List AV} {H : c6} {Q : Exit → St → Prop} {β γ len e e' g : Nat} {A R : List AV} {zs : List Nat} (hβ : H[β]? = some ⟨g, false, e, 1, A ++ .own γ 0 0 len :: R, 0⟩) (hγ : H[γ]? = some ⟨0, false, e', 1, zs.map q9, 0⟩) (hz : zs.length = len) (hne : β ≠ γ)
    (r : c9 Tryz.prog cfg c ⟨sl, (H.set γ ⟨0, false, e', 1, zs.map q9, len⟩).set β ⟨g, false, e, 1, A ++ .vec len (zs.map q9) :: R, 0⟩⟩ Q) : c9 Tryz.prog cfg c ⟨sl, H⟩ Q := by
  subst hz
  refine c9.A0 (γ := γ) (β := β) (k := A.length) (off := 0) (len := zs.length) (cs := zs.map q9) hγ rfl (by simp) ?_ hβ hne (by simp) ?_
  · show o2 nE (List.take (zs.length * 1) (List.drop 0 (zs.map q9))) = _
    rw [List.drop_zero, Nat.mul_one, List.take_of_length_le (by simp)]
    exact (plnN zs).PR
  · have e1 : cJ ⟨0, false, e', 1, zs.map q9, 0⟩ (0 + zs.length * 1) = ⟨0, false, e', 1, zs.map q9, zs.length⟩ := by
      simp only [cJ, Nat.zero_add, Nat.mul_one, Nat.zero_max]
    have e2 : (A ++ AV.own γ 0 0 zs.length :: R).set A.length (.vec zs.length (zs.map q9)) = A ++ .vec zs.length (zs.map q9) :: R := by simp
    show c9 Tryz.prog cfg c ⟨sl, (H.set γ (cJ ⟨0, false, e', 1, zs.map q9, 0⟩ (0 + zs.length * 1))).set β ⟨g, false, e, 1, (A ++ AV.own γ 0 0 zs.length :: R).set A.length (.vec zs.length (zs.map q9)), 0⟩⟩ Q
    rw [e1, e2]
    exact r
theorem OV {k : Nat} : (⟨g, false, 22, 1, s3 T ++ [AV.vec (k + 1) ((List.replicate (k + 1) 0).map q9)], 0⟩ : Blk) = p4 22 1 g (s3 (T ++ [List.replicate (k + 1) 0])) := by
  rw [cU (by simp [s3])]
  simp [s3, bR]
theorem frz_O {β len : Nat} {H : c6} {a : List (List Nat)} (hb : H[β]? = some (p4 22 1 g (s3 a))) (hn : n ≤ β) (hl : a.length = len) (hp : 0 < len) : gJ n H 6 (.own β g 0 len) = some (.vec len (s3 a)) := by
  rw [cU (by intro h0; have := congrArg List.length h0; rw [z8] at this; simp only [List.length_nil] at this; omega)] at hb
  exact HH hb hn hl
variable {u : Un} {c : Clo} {mx : Nat}
theorem OW {i : Nat} {S : List (List Nat)} (hi : i < c.insts.length) : (uG u c mx S).take i ++ [exT u c mx S i] = (uG u c mx S).take (i + 1) := by
  have hl : i < (uG u c mx S).length := by rw [(fC S).1]; exact hi
  rw [List.take_add_one, List.getElem?_eq_getElem hl]
  simp [uG]
theorem OX (h : T.length = n) : T.take n = T := List.take_of_length_le (by omega)
attribute [local go_sem] rd bR u7 aK s5 n5 l9 dO z8 Int.natCast_nonneg Int.natCast_inj dD jP gY jQ lC pS K2 vV jT vW AE lX tW tX pT List.length_set List.length_replicate Int.toNat_natCast_add_one kV wrap64 K5 List.length_map lE jS yR yS jT
theorem T7 (hu : WU u) (wc : WC u c) (hmx : mx < u.c4.length) : CB 33 [.agg [.vec u.globals.length (g7 u.globals), .vec u.c4.length (g5 u.c4), .vec u.procs.length (j7 u.procs), .int .i64 u.main], .agg [.vec c.insts.length (l5 c.insts), .vec c.calls.length (m6 c.calls), .vec c.roots.length (g7 c.roots)], .int .i64 ((mx : Nat) : Int)] h (.vec c.insts.length (s3 (pQ u c mx))) := by
  refine .bz Tryz.f33 28 ?_
  have hwl := wc.len
  have hk8 : kM u mx ≤ 8 := mD
  have hk9 : tS (u.c4.getD mx v9) ≤ 8 := hk8
  have hml := hu.ml
  refine c48z ?_
  refine c9.A5 7 rfl ?_
  refine .z7 (fun m st => ∃ (i : Nat), (m = c.insts.length - i ∧ (i ≤ c.insts.length)) ∧ st = ⟨mkS 28 [(2, AV.int .i64 ((mx : Nat) : Int)), (3, AV.ptr h.length 0 0), (4, AV.ptr (h.length + 1) 0 0), (7, AV.own (h.length + 2) i 0 i), (8, AV.int .i64 ((i : Nat) : Int))], h ++ [⟨0, false, 30, 4, [.vec u.globals.length (g7 u.globals), .vec u.c4.length (g5 u.c4), .vec u.procs.length (j7 u.procs), .int .i64 u.main], 0⟩, ⟨0, false, 34, 3, [.vec c.insts.length (l5 c.insts), .vec c.calls.length (m6 c.calls), .vec c.roots.length (g7 c.roots)], 0⟩, p4 22 1 i (s3 (List.replicate i (List.replicate (kM u mx + 1) 0)))]⟩) (.v ⟨0, ⟨rfl, by omega⟩, rfl⟩ (hs := t43)) ?_
  rintro m sl h' ⟨i, ⟨hm, hi⟩, hst⟩
  obtain ⟨rfl, rfl⟩ := St.mk.inj hst; clear hst
  have hrl : (List.replicate i (List.replicate (kM u mx + 1) 0)).length = i := List.length_replicate
  refine c0z ?_
  refine u2z ?_ ?_
  ·intro e1 qe1
   refine c2z ?_
   refine .r ?_
   refine .e 6 ?_
   refine .ca rfl rfl (K6 u mx) ?_
   refine c25z ?_
   refine .c7 [2, 3, 4, 7, 8] ?_
   refine c9.seenG (β := h.length + 2) (γ := h.length + 3) (g := i + 1) (A := s3 (List.replicate i (List.replicate (kM u mx + 1) 0))) (R := []) (zs := (List.replicate (kM u mx + 1) 0)) (len := kM u mx + 1) t30 t30 (by simp) (by omega) ?_
   refine c16z ?_
   exact ⟨_, by omega, .v ⟨(i + 1), ⟨rfl, by omega⟩, rfl⟩ (he := by (rw [OV, ← List.replicate_succ']; simp only [List.append_assoc, List.cons_append, List.nil_append]; rfl)) (hk := t139) (hs := t43)⟩
  intro e1 qe1
  refine .exit ?_
  obtain rfl : i = c.insts.length := by omega
  change c9 ..
  refine .c7 [7] ?_
  refine c32z ?_
  exact ⟨_, _, rfl, frz_O t30 (by omega) hrl (by omega), by rfl⟩
theorem T8 (hu : WU u) (wc : WC u c) (hmx : mx < u.c4.length) {S : List (List Nat)} (hS : Tb (kM u mx) c.insts.length S) : CB 34 [.agg [.vec u.globals.length (g7 u.globals), .vec u.c4.length (g5 u.c4), .vec u.procs.length (j7 u.procs), .int .i64 u.main], .agg [.vec c.insts.length (l5 c.insts), .vec c.calls.length (m6 c.calls), .vec c.roots.length (g7 c.roots)], .int .i64 ((mx : Nat) : Int), .vec c.insts.length (s3 S)] h (.vec c.insts.length (s3 (uG u c mx S))) := by
  refine .bz Tryz.f34 27 ?_
  have hwl := wc.len
  have hk8 : kM u mx ≤ 8 := mD
  have hk9 : tS (u.c4.getD mx v9) ≤ 8 := hk8
  have hml := hu.ml
  have hSl := hS.1
  refine c48z ?_
  refine c9.A5 9 rfl ?_
  refine .z7 (fun m st => ∃ (i : Nat), (m = c.insts.length - i ∧ (i ≤ c.insts.length)) ∧ st = ⟨mkS 27 [(2, AV.int .i64 ((mx : Nat) : Int)), (3, AV.vec c.insts.length (s3 S)), (4, AV.ptr h.length 0 0), (5, AV.ptr (h.length + 1) 0 0), (9, AV.own (h.length + 2) i 0 i), (10, AV.int .i64 ((i : Nat) : Int))], h ++ [⟨0, false, 30, 4, [.vec u.globals.length (g7 u.globals), .vec u.c4.length (g5 u.c4), .vec u.procs.length (j7 u.procs), .int .i64 u.main], 0⟩, ⟨0, false, 34, 3, [.vec c.insts.length (l5 c.insts), .vec c.calls.length (m6 c.calls), .vec c.roots.length (g7 c.roots)], 0⟩, p4 22 1 i (s3 ((uG u c mx S).take i))]⟩) (.v ⟨0, ⟨rfl, by omega⟩, rfl⟩ (hs := t43)) ?_
  rintro m sl h' ⟨i, ⟨hm, hi⟩, hst⟩
  obtain ⟨rfl, rfl⟩ := St.mk.inj hst; clear hst
  have hrl : ((uG u c mx S).take i).length = i := by rw [List.length_take, (fC S).1]; omega
  refine c0z ?_
  refine u2z ?_ ?_
  ·intro e1 qe1
   refine c2z ?_
   refine .r ?_
   refine .e 6 ?_
   refine .ca rfl rfl (OU hu wc hmx hS (show i < c.insts.length by omega)) ?_
   refine c25z ?_
   refine .c7 [2, 3, 4, 5, 9, 10] ?_
   refine .rz ?_
   exact ⟨_, by omega, .v ⟨(i + 1), ⟨rfl, by omega⟩, rfl⟩ (he := by (rw [OW (by omega)]; simp only [List.append_assoc, List.cons_append, List.nil_append]; rfl)) (hk := t139) (hs := t43)⟩
  intro e1 qe1
  refine .exit ?_
  obtain rfl : i = c.insts.length := by omega
  rw [OX (fC S).1]
  change c9 ..
  refine .c7 [9] ?_
  refine c32z ?_
  exact ⟨_, _, rfl, frz_O t30 (by omega) (fC S).1 (by omega), by rfl⟩
theorem T9 {m : Nat} {a b : List (List Nat)} (ha : a.length = n) (hb : b.length = m) (hl : n < 1000000) (hr : ∀ r ∈ a, r.length < 1000) : CB 12 [.vec n (s3 a), .vec m (s3 b)] h (.bool (decide (a = b))) := by
  subst ha hb
  exact c_sameT (n := 0) a b hl hr
theorem c_ofR (hu : WU u) (wc : WC u c) (hmx : mx < u.c4.length) : CB 14 [.agg [.vec u.globals.length (g7 u.globals), .vec u.c4.length (g5 u.c4), .vec u.procs.length (j7 u.procs), .int .i64 u.main], .agg [.vec c.insts.length (l5 c.insts), .vec c.calls.length (m6 c.calls), .vec c.roots.length (g7 c.roots)], .int .i64 ((mx : Nat) : Int)] h (.vec c.insts.length (s3 (qO u c mx))) := by
  refine .bz Tryz.f14 23 ?_
  have hwl := wc.len
  have hk8 : kM u mx ≤ 8 := mD
  have hk9 : tS (u.c4.getD mx v9) ≤ 8 := hk8
  have hml := hu.ml
  refine c222z ?_
  refine .ca rfl rfl (T7 hu wc hmx) ?_
  refine c122z ?_
  refine .cI (fun m st => ∃ (Sx : List (List Nat)), (m = 4608 * c.insts.length - tot Sx ∧ (Low u c mx Sx)) ∧ st = ⟨mkS 23 [(2, AV.int .i64 ((mx : Nat) : Int)), (3, AV.ptr h.length 0 0), (4, AV.ptr (h.length + 1) 0 0), (7, AV.vec c.insts.length (s3 Sx))], h ++ [⟨0, false, 30, 4, [.vec u.globals.length (g7 u.globals), .vec u.c4.length (g5 u.c4), .vec u.procs.length (j7 u.procs), .int .i64 u.main], 0⟩, ⟨0, false, 34, 3, [.vec c.insts.length (l5 c.insts), .vec c.calls.length (m6 c.calls), .vec c.roots.length (g7 c.roots)], 0⟩]⟩) _ (.v ⟨(pQ u c mx), ⟨rfl, Low.zero⟩, rfl⟩) ?_
  rintro m sl h' ⟨Sx, ⟨hm, hL⟩, hst⟩
  obtain ⟨rfl, rfl⟩ := St.mk.inj hst
  have hSl := hL.tb.1
  have hRl := (fC (u := u) (c := c) (m := mx) Sx).1
  refine .block ?_
  refine c31z ?_
  refine .ca rfl rfl (T8 hu wc hmx hL.tb) ?_
  refine c38z ?_
  refine c30z ?_
  refine .ca rfl rfl (T9 hSl hRl (by omega) (fun r hr => by have := (hL.tb.2 r hr).1; omega)) ?_
  refine .nil ?_
  refine u2z ?_ ?_
  ·intro e1 qe1
   refine .c7 [7] ?_
   refine .z ?_
   exact .ret (.ex (hq := by (rw [hL.done hu wc (Eq.symm (by assumption))])))
  intro e1 qe1
  refine .sk ?_
  refine .c7 [2, 3, 4, 8] ?_
  refine .rz ?_
  have hgr := hL.grow hu wc (by assumption)
  exact ⟨_, by omega, .v ⟨(uG u c mx Sx), ⟨rfl, (hL.round hu wc).1⟩, rfl⟩⟩
theorem HZ (hu : WU u) (wc : WC u c) (hmx : mx < u.c4.length) (n : Int) : CB 26 [.agg [.vec u.globals.length (g7 u.globals), .vec u.c4.length (g5 u.c4), .vec u.procs.length (j7 u.procs), .int .i64 u.main], .agg [.vec c.insts.length (l5 c.insts), .vec c.calls.length (m6 c.calls), .vec c.roots.length (g7 c.roots)], .int .i64 ((mx : Nat) : Int), .int .i64 n] h (.vec c.insts.length (s3 (yN u c mx (jU n)))) := by
  refine .bz Tryz.f26 27 ?_
  have hwl := wc.len
  have hk8 : kM u mx ≤ 8 := mD
  have hk9 : tS (u.c4.getD mx v9) ≤ 8 := hk8
  have hml := hu.ml
  refine c222z ?_
  refine .ca rfl rfl (T7 hu wc hmx) ?_
  refine c235z ?_
  refine .cI (fun m st => ∃ (r : Nat), (m = jU n - r ∧ (r ≤ jU n)) ∧ st = ⟨mkS 27 [(2, AV.int .i64 ((mx : Nat) : Int)), (3, AV.int .i64 n), (4, AV.ptr h.length 0 0), (5, AV.ptr (h.length + 1) 0 0), (9, AV.vec c.insts.length (s3 (yN u c mx r))), (10, AV.int .i64 ((r : Nat) : Int))], h ++ [⟨0, false, 30, 4, [.vec u.globals.length (g7 u.globals), .vec u.c4.length (g5 u.c4), .vec u.procs.length (j7 u.procs), .int .i64 u.main], 0⟩, ⟨0, false, 34, 3, [.vec c.insts.length (l5 c.insts), .vec c.calls.length (m6 c.calls), .vec c.roots.length (g7 c.roots)], 0⟩]⟩) _ (.v ⟨0, ⟨rfl, by omega⟩, rfl⟩) ?_
  rintro m sl h' ⟨r, ⟨hm, hr⟩, hst⟩
  obtain ⟨rfl, rfl⟩ := St.mk.inj hst
  have hrn : jU n = (min (max n 0) 100).toNat := rfl
  refine c0z ?_
  refine u2z ?_ ?_
  ·intro e1 qe1
   refine c2z ?_
   refine c138z ?_
   refine .ca rfl rfl (T8 hu wc hmx (oM r)) ?_
   refine c25z ?_
   refine .c7 [2, 3, 4, 5, 9, 10] ?_
   refine .rz ?_
   exact ⟨_, by omega, .v ⟨(r + 1), ⟨rfl, by omega⟩, rfl⟩⟩
  intro e1 qe1
  refine .exit ?_
  obtain rfl : r = jU n := by omega
  change c9 ..
  refine .c7 [9] ?_
  refine .z ?_
  exact .ret (.ex (hq := by rfl))
end Go.Proofs.YtfbjlfhjkojmkaaGreat
end
section
namespace Go.Proofs.YtfbjlfhjkojmkaaGreat
open Go.Ab Go.Un
attribute [local go_sem] l9 w9 n5 aA m8 Int.natCast_nonneg Int.natCast_inj List.length_map bK hB_1 hB_2 hB_5 UH UI UJ UK dX xY eC I6
variable {c : Core} {e : Frame} {left I : Int}
theorem RO {l : c6} (hc : OkC c) (hI : OkI c.L I) (hL : c.L.length < 4611686018427387904) (vars : List BA) (hN : vars.length < 1000) (f : Fu) (hp : f.params.length ≤ 2) : CH 75 [.ptr 5 0 0, .agg (dA f), .vec vars.length (w5 vars)] (hB c e I left ++ l) (.agg (O6 (r6 c f.params vars I).1)) (hB c e (r6 c f.params vars I).2 left ++ l) := c_ref (e := ⟨e.b0, e.b1, e.b2, e.z, e.m, e.g, e.rest ++ l⟩) hc hI hL vars hN f hp
variable {n : Nat}
theorem U0 {c : Core} {e : Frame} {I left : Int} {fb rb : Blk} {g : Nat} {zs : List AV} {x1 x2 x3 x4 x5 x6 x7 : AV} (hz : zs.length = n * 7) (hn : n < 1000) :
    j5 cfg 164 (hB c e I left ++ [fb, rb, p4 164 7 g zs, ⟨0, false, 164, 7, [x1, x2, x3, x4, x5, x6, x7], 0⟩]) (.own (e.n + 2) g 0 n) (.own (e.n + 3) 0 0 1) = some (.own (e.n + 2) (g + 1) 0 (n + 1), hB c e I left ++ [fb, rb, p4 164 7 (g + 1) (zs ++ [x1, x2, x3, x4, x5, x6, x7]), ⟨0, false, 164, 7, [x1, x2, x3, x4, x5, x6, x7], 0⟩]) := by
  have hb : (hB c e I left ++ [fb, rb, p4 164 7 g zs, ⟨0, false, 164, 7, [x1, x2, x3, x4, x5, x6, x7], 0⟩])[e.n + 2]? = some (p4 164 7 g zs) := dX
  rw [z1 (C := cfg) (K := 7) (m := 1) (new := [x1, x2, x3, x4, x5, x6, x7]) hb rfl (by omega) hz rfl (by omega) t127 rfl (by decide) (by omega), eC]
  rfl
theorem IA {c : Core} {e : Frame} {I left : Int} {fb rb : Blk} {g : Nat} {zs : List AV} {x1 x2 x3 : AV} {x : Ex} (hz : zs.length = n * 7) (hn : n < 1000) :
    j5 cfg 164 (hB c e I left ++ [fb, rb, p4 164 7 g zs, ⟨0, false, 164, 7, x1 :: x2 :: x3 :: p9 x, 0⟩]) (.own (e.n + 2) g 0 n) (.own (e.n + 3) 0 0 1) = some (.own (e.n + 2) (g + 1) 0 (n + 1), hB c e I left ++ [fb, rb, p4 164 7 (g + 1) (zs ++ x1 :: x2 :: x3 :: p9 x), ⟨0, false, 164, 7, x1 :: x2 :: x3 :: p9 x, 0⟩]) := by
  rw [aT]
  exact U0 hz hn
variable {ps l : List Pm} {vars : List BA} {j : Nat} {J : Int}
theorem args_t (h : j < l.length) (hm : (l.getD j fR).mu = true) : u9 c ps vars (l.drop j) J = (⟨true, (r6 c ps vars J).1, j9⟩ :: (u9 c ps vars (l.drop (j + 1)) (r6 c ps vars J).2).1, (u9 c ps vars (l.drop (j + 1)) (r6 c ps vars J).2).2) := by
  rw [List.drop_eq_getElem_cons h, u9, if_pos (by simpa [List.getD, h] using hm)]
theorem args_f (h : j < l.length) (hm : (l.getD j fR).mu = false) : u9 c ps vars (l.drop j) J = (⟨false, l7, (g8 c vars J).1⟩ :: (u9 c ps vars (l.drop (j + 1)) (g8 c vars J).2).1, (u9 c ps vars (l.drop (j + 1)) (g8 c vars J).2).2) := by
  rw [List.drop_eq_getElem_cons h, u9, if_neg (by rw [show l[j].mu = (l.getD j fR).mu from by simp [List.getD, h], hm]; decide)]
theorem vY {l : List Ar} {a : Ar} : aO (l ++ [a]) = aO l ++ AP a := by simp [aO]
theorem refs_A {l : List Ar} : ∀ x ∈ aO l, Refs n x := by
  intro x hx
  obtain ⟨a, _, hx⟩ := List.mem_flatMap.1 hx
  simp only [AP, aT, List.mem_cons, List.not_mem_nil, or_false] at hx
  rcases hx with rfl | rfl | rfl | rfl | rfl | rfl | rfl
  · exact .bool _
  · exact .str _
  · exact .vec _ _
  · exact .int _ _
  · exact .int _ _
  · exact .str _
  · exact .vec _ _
theorem E3 {J' : Int} {xs : List Ar} {a : Ar} (h : u9 c ps vars l I = (xs ++ (u9 c ps vars (l.drop j) J).1, (u9 c ps vars (l.drop j) J).2)) (hs : u9 c ps vars (l.drop j) J = (a :: (u9 c ps vars (l.drop (j + 1)) J').1, (u9 c ps vars (l.drop (j + 1)) J').2)) : u9 c ps vars l I = ((xs ++ [a]) ++ (u9 c ps vars (l.drop (j + 1)) J').1, (u9 c ps vars (l.drop (j + 1)) J').2) := by
  rw [h, hs]
  simp only [List.append_assoc, List.cons_append, List.nil_append]
section
attribute [local go_sem] eJ wrap64 dA O6 U0 IA jM B8 xO
theorem c_args (hc : OkC c) (hI : OkI c.L I) (hL : c.L.length < 4611686018427387904) (vars : List BA) (hN : vars.length < 1000) (f g : Fu) (hp : f.params.length ≤ 2) (hq : g.params.length ≤ 2) : CH 77 [.ptr 5 0 0, .agg (dA f), .agg (dA g), .vec vars.length (w5 vars)] (hB c e I left) (.vec (u9 c f.params vars g.params I).1.length (aO (u9 c f.params vars g.params I).1)) (hB c e (u9 c f.params vars g.params I).2 left) := by
  refine .wz Tryz.f77 40 ?_
  refine c48z ?_
  refine c9.A5 9 rfl ?_
  refine .z7 (fun m st => ∃ (j : Nat) (J : Int) (xs : List Ar), (m = g.params.length - j ∧ (j ≤ g.params.length ∧ OkI c.L J ∧ xs.length = j ∧ u9 c f.params vars g.params I = (xs ++ (u9 c f.params vars (g.params.drop j) J).1, (u9 c f.params vars (g.params.drop j) J).2))) ∧ st = ⟨mkS 40 [(0, AV.ptr 5 0 0), (3, AV.vec vars.length (w5 vars)), (5, AV.ptr e.n 0 0), (6, AV.ptr (e.n + 1) 0 0), (9, AV.own (e.n + 2) j 0 j), (10, AV.int .i64 ((j : Nat) : Int))], hB c e J left ++ [⟨0, false, 101, 3, [.str f.name, .vec f.params.length (s4 f.params), .vec f.body.len (n8 f.body)], 0⟩, ⟨0, false, 101, 3, [.str g.name, .vec g.params.length (s4 g.params), .vec g.body.len (n8 g.body)], 0⟩, p4 164 7 j (aO xs)]⟩) (.v ⟨0, I, [], ⟨rfl, ⟨by omega, hI, rfl, rfl⟩⟩, rfl⟩ (hs := t35) (hr := t1)) ?_
  rintro m sl h' ⟨j, J, xs, ⟨hm, ⟨hj, hJ, hal, hA⟩⟩, hst⟩
  obtain ⟨rfl, rfl⟩ := St.mk.inj hst; clear hst
  have hz7 : (aO xs).length = j * 7 := by rw [bQ, hal]; omega
  refine c0z ?_
  refine u2z ?_ ?_
  ·intro e1 qe1
   refine c87z ?_
   refine u2z ?_ ?_
   ·intro e2 qe2
    refine .c7 [0, 3, 5, 6, 9, 10] ?_
    refine c138z ?_
    refine .ch rfl rfl (RO hc hJ hL vars hN f hp) ?_
    refine c25z ?_
    refine .c7 [0, 3, 5, 6, 9, 10] ?_
    refine c9.nilsO (β := e.n + 2) (aO (xs ++ [(⟨true, (r6 c f.params vars J).1, j9⟩ : Ar)])) t64 (by rw [vY]; exact (mU.refl _).app MI) ?_
    simp only [eC, List.set_cons_succ, List.set_cons_zero]
    refine .rz ?_
    exact ⟨_, by omega, .v ⟨(j + 1), (r6 c f.params vars J).2, (xs ++ [(⟨true, (r6 c f.params vars J).1, j9⟩ : Ar)]), ⟨rfl, ⟨by omega, (nT hc hJ).2, by simp [hal], E3 hA (args_t (by omega) (by assumption))⟩⟩, rfl⟩ (he := t138) (hl := t25) (hk := t158) (hs := t35) (hr := t1)⟩
   intro e2 qe2
   refine .c7 [0, 3, 5, 6, 9, 10] ?_
   refine .r ?_
   refine .e 3 ?_
   refine .ch rfl rfl (Q7 hc hJ hL vars hN) ?_
   refine c25z ?_
   refine c9.nilsO (β := e.n + 2) (aO (xs ++ [(⟨false, l7, (g8 c vars J).1⟩ : Ar)])) t64 (by rw [vY]; exact (mU.refl _).app ER) ?_
   simp only [eC, List.set_cons_succ, List.set_cons_zero]
   refine .rz ?_
   exact ⟨_, by omega, .v ⟨(j + 1), (g8 c vars J).2, (xs ++ [(⟨false, l7, (g8 c vars J).1⟩ : Ar)]), ⟨rfl, ⟨by omega, (gT hJ).2, by simp [hal], E3 hA (args_f (by omega) (by assumption))⟩⟩, rfl⟩ (he := t138) (hl := t25) (hk := t158) (hs := t35) (hr := t1)⟩
  intro e1 qe1
  refine c9z ?_
  refine .c7 [9] ?_
  refine c32z ?_
  exact ⟨hB _ _ _ _, _, .vec xs.length (aO xs), rfl, t68, fA, by (show gJ _ (hB c e J left ++ _) 6 (.own (e.n + 2) j 0 j) = _; rw [bK, dT, if_neg (by omega), hal]; exact iK dX (by omega) (by rw [bQ, hal]; omega) (by omega) frz_A), by refine ⟨?_, ?_⟩ <;> (rw [hA, List.drop_of_length_le (by omega)]; simp only [u9, List.append_nil])⟩
end
end Go.Proofs.YtfbjlfhjkojmkaaGreat
end
section
namespace Go.Proofs.YtfbjlfhjkojmkaaGreat
open Go.Ab Go.Un
theorem c_argsA {c : Core} {e : Frame} {left I : Int} {l : c6} (hc : OkC c) (hI : OkI c.L I) (hL : c.L.length < 4611686018427387904) (vars : List BA) (hN : vars.length < 1000) (f g : Fu) (hp : f.params.length ≤ 2) (hq : g.params.length ≤ 2) : CH 77 [.ptr 5 0 0, .agg (dA f), .agg (dA g), .vec vars.length (w5 vars)] (hB c e I left ++ l) (.vec (u9 c f.params vars g.params I).1.length (aO (u9 c f.params vars g.params I).1)) (hB c e (u9 c f.params vars g.params I).2 left ++ l) := c_args (e := ⟨e.b0, e.b1, e.b2, e.z, e.m, e.g, e.rest ++ l⟩) hc hI hL vars hN f g hp hq
theorem sealC_n {l : List BA} : o2 nE (w5 l) = some (w5 l) := by
 induction l with
 | nil => rfl
 | cons x l ih =>
  have e : nE (.str x) = some (.str x) := rfl
  simp only [w5, List.map_cons, o2, e] at ih ⊢
  rw [ih]
variable {β : Nat}
theorem OY {H : c6} {b : Blk} (h : H[β]? = some b) : H.set β b = H := by
 obtain ⟨h1, h2⟩ := List.getElem?_eq_some_iff.1 h
 rw [← h2]
 exact List.set_getElem_self h1
variable {g : Nat}
theorem F9 {f : FuncId} {args args' : List AV} {H : c6} {Q : AV → c6 → Prop} {vs : List BA} (hb : H[β]? = some ⟨g, false, 9, 1, w5 vs, vs.length⟩) (ha : W2 β g 0 vs.length (w5 vs) args' args) (r : CallA Tryz.prog cfg f args' H Q) : CallA Tryz.prog cfg f args H Q := by
 have e : H.set β (cJ ⟨g, false, 9, 1, w5 vs, vs.length⟩ (0 + vs.length * 1)) = H := by
  rw [show cJ ⟨g, false, 9, 1, w5 vs, vs.length⟩ (0 + vs.length * 1) = ⟨g, false, 9, 1, w5 vs, vs.length⟩ from by simp [cJ]]
  exact OY hb
 refine CallA.CD (β := β) (off := 0) (len := vs.length) (cs := w5 vs) hb rfl (by simp [w9]) ?_ ha (by rw [e]; exact r)
 simp only [List.drop_zero, Nat.mul_one]
 rw [List.take_of_length_le t150]
 exact sealC_n
theorem raise {c : Code} {sl : List AV} {h : c6} {Q : Exit → St → Prop} {k : Nat} {b : Blk} (hb : h[β]? = some b) (hk : b.frz ≤ k) (r : c9 Tryz.prog cfg c ⟨sl, h.set β ⟨b.gen, b.bH, b.elem, b.esz, b.cells, k⟩⟩ Q) : c9 Tryz.prog cfg c ⟨sl, h⟩ Q := by
 refine c9.step _ (fun B φ w i => ?_) r
 have := nH k i hb
 have e : cJ b k = ⟨b.gen, b.bH, b.elem, b.esz, b.cells, k⟩ := by
  simp only [cJ, Nat.max_eq_right hk]
 rw [e] at this
 exact this
section
variable {c : Core} {e : Frame} {I left : Int} {l : c6} {fb : Blk} {gv : Nat} {vs : List BA}
theorem hB_v : (hB c e I left ++ (fb :: ⟨gv, false, 9, 1, w5 vs, vs.length⟩ :: l))[e.n + 1]? = some ⟨gv, false, 9, 1, w5 vs, vs.length⟩ := dX
theorem lY (hc : OkC c) (hI : OkI c.L I) (hL : c.L.length < 4611686018427387904) (hN : vs.length < 1000) : CH 76 [.ptr 5 0 0, .own (e.n + 1) gv 0 vs.length] (hB c e I left ++ (fb :: ⟨gv, false, 9, 1, w5 vs, vs.length⟩ :: l)) (.agg (p9 (g8 c vs I).1)) (hB c e (g8 c vs I).2 left ++ (fb :: ⟨gv, false, 9, 1, w5 vs, vs.length⟩ :: l)) :=
 F9 (args' := [.ptr 5 0 0, .vec vs.length (w5 vs)]) hB_v ⟨.inl rfl, .inr ⟨rfl, rfl⟩, trivial⟩ (Q7 hc hI hL vs hN)
theorem U1 (hc : OkC c) (hI : OkI c.L I) (hL : c.L.length < 4611686018427387904) (hN : vs.length < 1000) (f : Fu) (hp : f.params.length ≤ 2) : CH 75 [.ptr 5 0 0, .agg (dA f), .own (e.n + 1) gv 0 vs.length] (hB c e I left ++ (fb :: ⟨gv, false, 9, 1, w5 vs, vs.length⟩ :: l)) (.agg (O6 (r6 c f.params vs I).1)) (hB c e (r6 c f.params vs I).2 left ++ (fb :: ⟨gv, false, 9, 1, w5 vs, vs.length⟩ :: l)) :=
 F9 (args' := [.ptr 5 0 0, .agg (dA f), .vec vs.length (w5 vs)]) hB_v ⟨.inl rfl, .inl rfl, .inr ⟨rfl, rfl⟩, trivial⟩ (RO hc hI hL vs hN f hp)
theorem IB (hc : OkC c) (hI : OkI c.L I) (hL : c.L.length < 4611686018427387904) (hN : vs.length < 1000) (f g : Fu) (hp : f.params.length ≤ 2) (hq : g.params.length ≤ 2) : CH 77 [.ptr 5 0 0, .agg (dA f), .agg (dA g), .own (e.n + 1) gv 0 vs.length] (hB c e I left ++ (fb :: ⟨gv, false, 9, 1, w5 vs, vs.length⟩ :: l)) (.vec (u9 c f.params vs g.params I).1.length (aO (u9 c f.params vs g.params I).1)) (hB c e (u9 c f.params vs g.params I).2 left ++ (fb :: ⟨gv, false, 9, 1, w5 vs, vs.length⟩ :: l)) :=
 F9 (args' := [.ptr 5 0 0, .agg (dA f), .agg (dA g), .vec vs.length (w5 vs)]) hB_v ⟨.inl rfl, .inl rfl, .inl rfl, .inr ⟨rfl, rfl⟩, trivial⟩ (c_argsA hc hI hL vs hN f g hp hq)
def E4 (c : Core) (f : Fu) (fu : Nat) (left : Int) : Prop := ∀ {e : Frame} (I l' : Int) (vs all : List BA) (d m : Int), OkI c.L I → 0 ≤ l' → l' < left → 0 ≤ d → d ≤ 100 → 0 ≤ m → m ≤ 100 → (∀ x ∈ vs, x ∈ all) → Fr l'.toNat all → vs.length + l'.toNat ≤ 500 →
 CallA Tryz.prog cfg 48 [.ptr 5 0 0, .agg (dA f), .vec vs.length (w5 vs), .int .i64 d, .int .i64 m] (hB c e I l') (fun y' h' => y' = .vec (g0 c f.params fu vs d m I l').1.len (n8 (g0 c f.params fu vs d m I l').1) ∧ h' = hB c e (g0 c f.params fu vs d m I l').2.1 (g0 c f.params fu vs d m I l').2.2)
theorem E4.V {f : Fu} {fu : Nat} {left0 : Int} (h : E4 c f fu left0) (l' : Int) (all : List BA) (d m : Int) (hI : OkI c.L I) (h1 : 0 ≤ l') (h2 : l' < left0) (h3 : 0 ≤ d) (h4 : d ≤ 100) (h5 : 0 ≤ m) (h6 : m ≤ 100) (h7 : ∀ x ∈ vs, x ∈ all) (h8 : Fr l'.toNat all) (h9 : vs.length + l'.toNat ≤ 500) :
  CallA Tryz.prog cfg 48 [.ptr 5 0 0, .agg (dA f), .own (e.n + 1) gv 0 vs.length, .int .i64 d, .int .i64 m] (hB c e I l' ++ (fb :: ⟨gv, false, 9, 1, w5 vs, vs.length⟩ :: l)) (fun y' h' => y' = .vec (g0 c f.params fu vs d m I l').1.len (n8 (g0 c f.params fu vs d m I l').1) ∧ h' = hB c e (g0 c f.params fu vs d m I l').2.1 (g0 c f.params fu vs d m I l').2.2 ++ (fb :: ⟨gv, false, 9, 1, w5 vs, vs.length⟩ :: l)) :=
 F9 (args' := [.ptr 5 0 0, .agg (dA f), .vec vs.length (w5 vs), .int .i64 d, .int .i64 m]) hB_v ⟨.inl rfl, .inl rfl, .inr ⟨rfl, rfl⟩, .inl rfl, .inl rfl, trivial⟩ (h (e := ⟨e.b0, e.b1, e.b2, e.z, e.m, e.g, e.rest ++ (fb :: ⟨gv, false, 9, 1, w5 vs, vs.length⟩ :: l)⟩) I l' vs all d m hI h1 h2 h3 h4 h5 h6 h7 h8 h9)
def gO (g n : Nat) : Nat := if n = 0 then g else g + 1
theorem OZ (hn : vs.length < 1000) : j5 cfg 9 (hB c e I left ++ [fb, ⟨0, false, 9, 1, [], 0⟩]) (.own (e.n + 1) 0 0 0) (.vec vs.length (w5 vs)) = some (.own (e.n + 1) (gO 0 vs.length) 0 vs.length, hB c e I left ++ [fb, ⟨gO 0 vs.length, false, 9, 1, w5 vs, 0⟩]) := by
 have e1 : cfg.sz 9 = 1 := rfl
 have e2 : (cfg.ti 9).bytes = 16 := rfl
 have hm : vs.length ≤ maxLen := by
  have : (1000 : Nat) ≤ maxLen := by decide
  omega
 have hb : vs.length * 16 ≤ 140737488355328 := by omega
 cases vs with
 | nil => simp [j5, rd, lenOf, e1, e2, dX, gO, w5]
 | cons x vs =>
  have h0 : (w5 (x :: vs)).length = vs.length + 1 := by simp [w5]
  simp only [List.length_cons] at hm hb
  simp [j5, rd, lenOf, e1, e2, dX, gO, h0, hm, hb, eC]
variable {t : Blk}
theorem app_vs {O p : Blk} {x : BA} (hn : vs.length < 1000) : j5 cfg 9 (hB c e I left ++ [fb, ⟨gv, false, 9, 1, w5 vs, vs.length⟩, O, t, p, ⟨0, false, 9, 1, [.str x], 0⟩]) (.own (e.n + 1) gv 0 vs.length) (.own (e.n + 5) 0 0 1) = some (.own (e.n + 1) (gv + 1) 0 (vs.length + 1), hB c e I left ++ [fb, ⟨gv + 1, false, 9, 1, w5 (vs ++ [x]), vs.length⟩, O, t, p, ⟨0, false, 9, 1, [.str x], 0⟩]) := by
 have e1 : cfg.sz 9 = 1 := rfl
 have e2 : (cfg.ti 9).bytes = 16 := rfl
 have hm : vs.length + 1 ≤ maxLen := by
  have : (1001 : Nat) ≤ maxLen := by decide
  omega
 have hb : (vs.length + 1) * 16 ≤ 140737488355328 := by omega
 have ht : List.take vs.length (w5 vs) = w5 vs := List.take_of_length_le t150
 have hnl : ¬ vs.length + 1 ≤ vs.length := by omega
 simp [j5, rd, lenOf, e1, e2, dX, w9, hm, hb, eC, ht, hnl, iL]
variable {n : Nat} {zs : List AV}
theorem PA {vb t : Blk} {g : Nat} {x1 x2 x3 x4 x5 x6 x7 x8 x9 x10 x11 : AV} (hz : zs.length = n * 11) (hn : n < 1000) :
  j5 cfg 140 (hB c e I left ++ [fb, vb, p4 140 11 g zs, t, ⟨0, false, 140, 11, [x1, x2, x3, x4, x5, x6, x7, x8, x9, x10, x11], 0⟩]) (.own (e.n + 2) g 0 n) (.own (e.n + 4) 0 0 1) = some (.own (e.n + 2) (g + 1) 0 (n + 1), hB c e I left ++ [fb, vb, p4 140 11 (g + 1) (zs ++ [x1, x2, x3, x4, x5, x6, x7, x8, x9, x10, x11]), t, ⟨0, false, 140, 11, [x1, x2, x3, x4, x5, x6, x7, x8, x9, x10, x11], 0⟩]) := by
 have hb : (hB c e I left ++ [fb, vb, p4 140 11 g zs, t, ⟨0, false, 140, 11, [x1, x2, x3, x4, x5, x6, x7, x8, x9, x10, x11], 0⟩])[e.n + 2]? = some (p4 140 11 g zs) := dX
 rw [z1 (C := cfg) (K := 11) (m := 1) (new := [x1, x2, x3, x4, x5, x6, x7, x8, x9, x10, x11]) hb rfl (by omega) hz rfl (by omega) t127 rfl (by decide) (by omega), eC]
 rfl
theorem PB {vb t u : Blk} {g : Nat} {x1 x2 x3 x4 x5 x6 x7 x8 x9 x10 x11 : AV} (hz : zs.length = n * 11) (hn : n < 1000) :
  j5 cfg 140 (hB c e I left ++ [fb, vb, p4 140 11 g zs, t, u, ⟨0, false, 140, 11, [x1, x2, x3, x4, x5, x6, x7, x8, x9, x10, x11], 0⟩]) (.own (e.n + 2) g 0 n) (.own (e.n + 5) 0 0 1) = some (.own (e.n + 2) (g + 1) 0 (n + 1), hB c e I left ++ [fb, vb, p4 140 11 (g + 1) (zs ++ [x1, x2, x3, x4, x5, x6, x7, x8, x9, x10, x11]), t, u, ⟨0, false, 140, 11, [x1, x2, x3, x4, x5, x6, x7, x8, x9, x10, x11], 0⟩]) := by
 have hb : (hB c e I left ++ [fb, vb, p4 140 11 g zs, t, u, ⟨0, false, 140, 11, [x1, x2, x3, x4, x5, x6, x7, x8, x9, x10, x11], 0⟩])[e.n + 2]? = some (p4 140 11 g zs) := dX
 rw [z1 (C := cfg) (K := 11) (m := 1) (new := [x1, x2, x3, x4, x5, x6, x7, x8, x9, x10, x11]) hb rfl (by omega) hz rfl (by omega) t127 rfl (by decide) (by omega), eC]
 rfl
theorem U2 {vb t u v : Blk} {g : Nat} {x1 x2 x3 x4 x5 x6 x7 x8 x9 x10 x11 : AV} (hz : zs.length = n * 11) (hn : n < 1000) :
  j5 cfg 140 (hB c e I left ++ [fb, vb, p4 140 11 g zs, t, u, v, ⟨0, false, 140, 11, [x1, x2, x3, x4, x5, x6, x7, x8, x9, x10, x11], 0⟩]) (.own (e.n + 2) g 0 n) (.own (e.n + 6) 0 0 1) = some (.own (e.n + 2) (g + 1) 0 (n + 1), hB c e I left ++ [fb, vb, p4 140 11 (g + 1) (zs ++ [x1, x2, x3, x4, x5, x6, x7, x8, x9, x10, x11]), t, u, v, ⟨0, false, 140, 11, [x1, x2, x3, x4, x5, x6, x7, x8, x9, x10, x11], 0⟩]) := by
 have hb : (hB c e I left ++ [fb, vb, p4 140 11 g zs, t, u, v, ⟨0, false, 140, 11, [x1, x2, x3, x4, x5, x6, x7, x8, x9, x10, x11], 0⟩])[e.n + 2]? = some (p4 140 11 g zs) := dX
 rw [z1 (C := cfg) (K := 11) (m := 1) (new := [x1, x2, x3, x4, x5, x6, x7, x8, x9, x10, x11]) hb rfl (by omega) hz rfl (by omega) t127 rfl (by decide) (by omega), eC]
 rfl
variable {m : Nat} {cs : List AV}
theorem IC {vb t u s : Blk} {g : Nat} (hz : zs.length = n * 11) (hcs : cs.length = m * 11) (hn : n < 1000) (hm : m < 1000) :
  j5 cfg 140 (hB c e I left ++ [fb, vb, p4 140 11 g zs, t, u, s]) (.own (e.n + 2) g 0 n) (.vec m cs) = some (.own (e.n + 2) (gO g m) 0 (n + m), hB c e I left ++ [fb, vb, p4 140 11 (gO g m) (zs ++ cs), t, u, s]) := by
 have hb : (hB c e I left ++ [fb, vb, p4 140 11 g zs, t, u, s])[e.n + 2]? = some (p4 140 11 g zs) := dX
 by_cases h0 : m = 0
 ·subst h0
  obtain rfl : cs = [] := List.length_eq_zero_iff.1 (by simpa using hcs)
  have e1 : cfg.sz 140 = 11 := rfl
  have e2 : (cfg.ti 140).bytes = 192 := rfl
  have hmx : n ≤ maxLen := by
   have : (1000 : Nat) ≤ maxLen := by decide
   omega
  have hbd : n * 192 ≤ 140737488355328 := by omega
  simp [j5, rd, lenOf, e1, e2, hb, N5, gO, hmx, hbd]
 ·rw [z1 (C := cfg) (K := 11) (m := m) (new := cs) hb rfl (by omega) hz hcs (by omega) rfl rfl (by decide) (by omega), eC]
  simp only [gO, h0, if_false]
  rfl
theorem PC {vb t u s : Blk} {g : Nat} {y1 y2 y3 y4 y5 y6 y7 y8 y9 y10 y11 : AV} (hz : zs.length = n * 11) (hcs : cs.length = m * 11) (hn : n < 900) (hm : m < 1000) :
  j5 cfg 140 (hB c e I left ++ [fb, vb, p4 140 11 g (zs ++ [y1, y2, y3, y4, y5, y6, y7, y8, y9, y10, y11]), t, u, s]) (.own (e.n + 2) g 0 (n + 1)) (.vec m cs) = some (.own (e.n + 2) (gO g m) 0 (n + 1 + m), hB c e I left ++ [fb, vb, p4 140 11 (gO g m) ((zs ++ [y1, y2, y3, y4, y5, y6, y7, y8, y9, y10, y11]) ++ cs), t, u, s]) :=
 IC (by rw [List.length_append, hz]; simp; omega) hcs (by omega) hm
theorem PD {vb t u v : Blk} {g : Nat} {y1 y2 y3 y4 y5 y6 y7 y8 y9 y10 y11 x1 x2 x3 x4 x5 x6 x7 x8 x9 x10 x11 : AV} (hz : zs.length = n * 11) (hcs : cs.length = m * 11) (hn : n < 400) (hm : m < 400) :
  j5 cfg 140 (hB c e I left ++ [fb, vb, p4 140 11 g (zs ++ y1 :: y2 :: y3 :: y4 :: y5 :: y6 :: y7 :: y8 :: y9 :: y10 :: y11 :: cs), t, u, v, ⟨0, false, 140, 11, [x1, x2, x3, x4, x5, x6, x7, x8, x9, x10, x11], 0⟩]) (.own (e.n + 2) g 0 (n + 1 + m)) (.own (e.n + 6) 0 0 1) = some (.own (e.n + 2) (g + 1) 0 (n + 1 + m + 1), hB c e I left ++ [fb, vb, p4 140 11 (g + 1) ((zs ++ y1 :: y2 :: y3 :: y4 :: y5 :: y6 :: y7 :: y8 :: y9 :: y10 :: y11 :: cs) ++ [x1, x2, x3, x4, x5, x6, x7, x8, x9, x10, x11]), t, u, v, ⟨0, false, 140, 11, [x1, x2, x3, x4, x5, x6, x7, x8, x9, x10, x11], 0⟩]) :=
 U2 (by rw [List.length_append, hz]; simp only [List.length_cons, hcs]; omega) (by omega)
end
theorem RP {n : Nat} : ∀ (s : Sl), ∀ x ∈ n8 s, Refs n x
 | .nil, x, hx => by simp [n8] at hx
 | .cons k nm e r as' th el rest, x, hx => by
  simp only [n8, aT, List.cons_append, List.nil_append, List.mem_cons] at hx
  rcases hx with rfl | rfl | rfl | rfl | rfl | rfl | rfl | rfl | rfl | rfl | rfl | hx
  ·exact .int _ _
  ·exact .str _
  ·exact .int _ _
  ·exact .int _ _
  ·exact .str _
  ·exact .vec _ _
  ·exact .str _
  ·exact .vec _ _
  ·exact .vec _ _
  ·exact .vec _ _
  ·exact .vec _ _
  ·exact RP rest x hx
theorem frz_S {n d : Nat} {H : c6} : ∀ (s : Sl), o2 (jX n H (d + 1)) (n8 s) = some (n8 s)
 | .nil => rfl
 | .cons k nm e r as' th el rest => by
  have ih := frz_S (n := n) (d := d) (H := H) rest
  simp only [n8, aT, List.cons_append, List.nil_append, o2, qY, nO, lM, ih]
theorem aF {k : Int} {nm : BA} {x : Ex} {r : Rf} {xs : List Ar} {th el : Sl} {a b c d f : AV} (ha : a = .vec x.args.length (l8 x.args) ∨ (a = .j6 ∧ x.args = [])) (hb : b = .vec r.idx.length (l8 r.idx) ∨ (b = .j6 ∧ r.idx = [])) (hc : c = .vec xs.length (aO xs) ∨ (c = .j6 ∧ xs = []))
  (hd : d = .vec th.len (n8 th) ∨ (d = .j6 ∧ th = .nil)) (hf : f = .vec el.len (n8 el) ∨ (f = .j6 ∧ el = .nil)) :
  mU (n8 (row k nm x r xs th el)) [.int .i64 k, .str nm, .int .i64 x.op, .int .i64 x.num, .str x.name, a, .str r.name, b, c, d, f] := by
 simp only [row, n8, aT, List.cons_append, List.nil_append]
 refine ⟨.inl rfl, .inl rfl, .inl rfl, .inl rfl, .inl rfl, ?_, .inl rfl, ?_, ?_, ?_, ?_, trivial⟩
 ·rcases ha with rfl | ⟨rfl, h⟩
  ·exact .inl rfl
  ·rw [h]; exact .inr ⟨rfl, rfl⟩
 ·rcases hb with rfl | ⟨rfl, h⟩
  ·exact .inl rfl
  ·rw [h]; exact .inr ⟨rfl, rfl⟩
 ·rcases hc with rfl | ⟨rfl, h⟩
  ·exact .inl rfl
  ·rw [h]; exact .inr ⟨rfl, rfl⟩
 ·rcases hd with rfl | ⟨rfl, h⟩
  ·exact .inl rfl
  ·rw [h]; exact .inr ⟨rfl, rfl⟩
 ·rcases hf with rfl | ⟨rfl, h⟩
  ·exact .inl rfl
  ·rw [h]; exact .inr ⟨rfl, rfl⟩
theorem iR {k : Int} {nm : BA} {x : Ex} {r : Rf} {xs : List Ar} {th el : Sl} : n8 (row k nm x r xs th el) = [.int .i64 k, .str nm, .int .i64 x.op, .int .i64 x.num, .str x.name, .vec x.args.length (l8 x.args), .str r.name, .vec r.idx.length (l8 r.idx), .vec xs.length (aO xs), .vec th.len (n8 th), .vec el.len (n8 el)] := by
 simp only [row, n8, aT, List.cons_append, List.nil_append]
theorem wrap8 {n : Int} (h1 : 0 ≤ n) (h2 : n < 256) : IntKind.wrap .u8 n = n := by
 unfold IntKind.wrap
 have e1 : (2 : Int) ^ IntKind.bits .u8 = 256 := rfl
 have e3 : IntKind.signed .u8 = false := rfl
 simp only [e1, e3, Bool.false_and, Bool.false_eq_true, if_false]
 omega
theorem vnm_eq {l : Int} (h0 : 0 ≤ l) (h1 : l < 24) : (⟨#[118]⟩ : BA) ++ (⟨#[UInt8.ofNat (97 + l.tmod 26).toNat, UInt8.ofNat (97 + (l.tdiv 26).tmod 26).toNat]⟩ : BA) = vnm l.toNat := by
 obtain ⟨n, rfl⟩ := Int.eq_ofNat_of_zero_le h0
 have key : ∀ n : Fin 24, (⟨#[118]⟩ : BA) ++ (⟨#[UInt8.ofNat (97 + ((n.1 : Nat) : Int).tmod 26).toNat, UInt8.ofNat (97 + (((n.1 : Nat) : Int).tdiv 26).tmod 26).toNat]⟩ : BA) = vnm n.1 := by decide +kernel
 exact key ⟨n, by omega⟩
theorem tm26 {l : Int} (h0 : 0 ≤ l) : 0 ≤ l.tmod 26 ∧ l.tmod 26 < 26 := ⟨Int.tmod_nonneg _ h0, Int.tmod_lt_of_pos _ (by omega)⟩
theorem td26 {l : Int} (h0 : 0 ≤ l) (h1 : l < 24) : l.tdiv 26 = 0 := by
 obtain ⟨n, rfl⟩ := Int.eq_ofNat_of_zero_le h0
 have key : ∀ n : Fin 24, (((n.1 : Nat) : Int).tdiv 26) = 0 := by decide
 exact key ⟨n, by omega⟩
end Go.Proofs.YtfbjlfhjkojmkaaGreat
end
