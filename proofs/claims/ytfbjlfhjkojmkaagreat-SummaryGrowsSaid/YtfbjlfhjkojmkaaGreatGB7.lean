/- My own texts, put together by a program of mine. -/
import Derived.Test.YtfbjlfhjkojmkaaGreatGB6
set_option linter.unusedSimpArgs false
set_option linter.unusedVariables false
set_option maxRecDepth 100000
set_option maxHeartbeats 4000000
section
namespace Go.Proofs.YtfbjlfhjkojmkaaGreat
open Go.Ab Go.Un
variable {i : Nat}
theorem pW {l : List (List Int)} (h : i < l.length) : List.take 1 (List.drop i (n4 l)) = [.vec (l.getD i []).length (g9 (l.getD i []))] := by
  unfold n4
  rw [← List.map_drop, ← List.map_take, List.drop_eq_getElem_cons h, List.take_succ_cons, List.take_zero]
  simp [List.getD, h]
variable {k : Nat}
theorem L3 : (((k + 1 : Nat) : Int) - 1) = ((k : Nat) : Int) := by omega
theorem pX (n : Nat) : (List.replicate n [AV.j5]).flatten = List.replicate n AV.j5 := by
  induction n with
  | zero => rfl
  | succ n ih => rw [List.replicate_succ, List.flatten_cons, ih]; rfl
variable {r : List Nat}
theorem wB {T : List (List Nat)} (h : i < T.length) : List.take i (aK T) ++ AV.vec r.length (r.map s8) :: List.drop (i + 1) (aK T) = aK (T.set i r) := overT h
theorem kA : (1 ≤ maxLen) = True := eq_true (by decide)
theorem overT0 {T : List (List Nat)} (h : 0 < T.length) : cA r :: List.drop 1 (aK T) = aK (T.set 0 r) := overT (i := 0) h
variable {n : Nat} {Z : List Nat}
theorem wC (h : 0 < n) : AV.vec r.length (r.map s8) :: List.drop 1 (aK (List.replicate n Z)) = aK ((List.replicate n Z).set 0 r) := overT0 (by rw [List.length_replicate]; exact h)
variable {h : c6} {u : Un} {c : Clo} {mx pc : Nat}
theorem RD (hu : WU u) (wc : WC u c) (hmx : mx < u.c4.length) (hi : i < c.insts.length) (hp : pc < eQ u c i) : CB 39 [.agg [.vec u.globals.length (g9 u.globals), .vec u.c4.length (g5 u.c4), .vec u.procs.length (j9 u.procs), .int .i64 u.main], .agg [.int .i64 (itI c i).proc, .vec (itI c i).j7.length (g9 (itI c i).j7)], .int .i64 ((pc : Nat) : Int), .int .i64 ((mx : Nat) : Int)] h (cA (dhN (kM u mx) (chI (itI c i) (qL u c i pc) mx))) :=
  (c_rel hu (gP wc hi) hp hmx).mono fun y k hq => ⟨hq.1.trans (RA _ _), hq.2⟩
theorem c_idN (k : Nat) (hk : k ≤ 8) : CB 70 [.int .i64 ((k : Nat) : Int)] h (cA (dhN k 0)) :=
  (c_id k hk).mono fun y k hq => ⟨hq.1.trans (RA _ _), hq.2⟩
def yP (n i : Nat) (Z : List Nat) : List AV := aK (List.replicate i Z) ++ List.replicate (n - i) AV.j5
theorem mA (h : i ≤ n) : (yP n i Z).length = n := by simp [yP, z9]; omega
theorem uQ : yP n 0 Z = List.replicate n AV.j5 := by simp [yP, aK]
theorem yQ : yP n n Z = aK (List.replicate n Z) := by simp [yP]
theorem HE : List.take i (yP n i Z) = aK (List.replicate i Z) := by
  unfold yP
  rw [List.take_append_of_le_length (by simp [z9]), List.take_of_length_le (by simp [z9])]
theorem HF : List.drop (i + 1) (yP n i Z) = List.replicate (n - (i + 1)) AV.j5 := by
  unfold yP
  rw [List.drop_append, List.drop_of_length_le (by simp [z9]), z9, List.length_replicate, List.nil_append, List.drop_replicate]
  congr 1
  omega
theorem AJ {x : AV} : List.take i (yP n i Z) ++ x :: List.drop (i + 1) (yP n i Z) = aK (List.replicate i Z) ++ x :: List.replicate (n - (i + 1)) AV.j5 := by rw [HE, HF]
theorem HG : aK (List.replicate i Z) ++ cA Z :: List.replicate (n - (i + 1)) AV.j5 = yP n (i + 1) Z := by
  unfold yP
  rw [List.replicate_succ', aK, aK, List.map_append, List.append_assoc]
  rfl
theorem AK : aK (List.replicate i (List.replicate (k + 1) 0)) ++ AV.vec (k + 1) ((List.replicate (k + 1) 0).map s8) :: List.replicate (n - (i + 1)) AV.j5 = yP n (i + 1) (List.replicate (k + 1) 0) := by
  rw [← HG]
  simp [cA]
theorem E1 (N : Nat) : ∀ x ∈ yP n i Z, Refs N x := fun x hx => by
  rcases List.mem_append.1 hx with hx | hx
  · exact (IL _).refs _ x hx
  · rw [List.eq_of_mem_replicate hx]; exact .j5
theorem c8.XM {c : Code} {sl : List AV} {H : c6} {Q : Exit → St → Prop} {β γ len e e' : Nat} {A R : List AV} {zs : List Nat} (hβ : H[β]? = some ⟨0, false, e, 1, A ++ .own γ 0 0 len :: R, 0⟩) (hγ : H[γ]? = some ⟨0, false, e', 1, zs.map s8, 0⟩) (hz : zs.length = len) (hne : β ≠ γ)
    (r : c8 Tryz.prog cfg c ⟨sl, (H.set γ ⟨0, false, e', 1, zs.map s8, len⟩).set β ⟨0, false, e, 1, A ++ .vec len (zs.map s8) :: R, 0⟩⟩ Q) : c8 Tryz.prog cfg c ⟨sl, H⟩ Q := by
  subst hz
  refine c8.G3 (γ := γ) (β := β) (k := A.length) (off := 0) (len := zs.length) (cs := zs.map s8) hγ rfl (by simp) ?_ hβ hne (by simp) ?_
  · show o5 pB (List.take (zs.length * 1) (List.drop 0 (zs.map s8))) = _
    rw [List.drop_zero, Nat.mul_one, List.take_of_length_le (by simp)]
    exact (plnN zs).SD
  · have e1 : dL ⟨0, false, e', 1, zs.map s8, 0⟩ (0 + zs.length * 1) = ⟨0, false, e', 1, zs.map s8, zs.length⟩ := by
      simp only [dL, Nat.zero_add, Nat.mul_one, Nat.zero_max]
    have e2 : (A ++ AV.own γ 0 0 zs.length :: R).set A.length (.vec zs.length (zs.map s8)) = A ++ .vec zs.length (zs.map s8) :: R := by simp
    show c8 Tryz.prog cfg c ⟨sl, (H.set γ (dL ⟨0, false, e', 1, zs.map s8, 0⟩ (0 + zs.length * 1))).set β ⟨0, false, e, 1, (A ++ AV.own γ 0 0 zs.length :: R).set A.length (.vec zs.length (zs.map s8)), 0⟩⟩ Q
    rw [e1, e2]
    exact r
def E2 (W : List Nat) (l q : Nat) : List Nat := if l + 1 ≤ W.length then W.set l q else W.take l ++ [q]
def HH (W : List Nat) (g l : Nat) : Nat := if l + 1 ≤ W.length then g else g + 1
variable {W : List Nat} {q : Nat}
theorem AL {l : Nat} (h : l ≤ W.length) : (E2 W l q).take (l + 1) = W.take l ++ [q] := by
  unfold E2
  split
  · rename_i h1
    rw [List.take_add_one, List.take_set, List.set_eq_of_length_le t53, List.getElem?_set_self (by omega)]
    rfl
  · rw [List.take_of_length_le t53]
theorem HI {l : Nat} (h : l ≤ W.length) : l + 1 ≤ (E2 W l q).length := by
  unfold E2
  split
  · rw [List.length_set]; assumption
  · rw [List.length_append, List.length_take, List.length_singleton]; omega
theorem HJ (h : k + 1 ≤ W.length) : W.take (k + 1) = W.take k ++ [W.getD k 0] := by
  rw [List.take_add_one, List.getElem?_eq_getElem (by omega)]
  simp [List.getD, show k < W.length from by omega]
variable {g : Nat}
theorem OC {l : c6} {b0 b1 : Blk} (hn : n ≤ W.length) (hl : n < 1000000000) : j4 cfg 3 (h ++ (b0 :: b1 :: ⟨g, false, 3, 1, W.map s8, 0⟩ :: ⟨0, false, 3, 1, [.int .i64 ((q : Nat) : Int)], 0⟩ :: l)) (.own (h.length + 2) g 0 n) (.own (h.length + 3) 0 0 1) = some (.own (h.length + 2) (HH W g n) 0 (n + 1), h ++ (b0 :: b1 :: ⟨HH W g n, false, 3, 1, (E2 W n q).map s8, 0⟩ :: ⟨0, false, 3, 1, [.int .i64 ((q : Nat) : Int)], 0⟩ :: l)) := by
  have e1 : cfg.sz 3 = 1 := rfl
  have e2 : (cfg.ti 3).bytes = 8 := rfl
  have h1 : n + 1 ≤ maxLen := by
    have : (1000000001 : Nat) ≤ maxLen := by decide
    omega
  have h2 : (n + 1) * 8 ≤ 140737488355328 := by omega
  by_cases hc : n + 1 ≤ W.length
  · have e3 : List.take n (W.map s8) ++ AV.int .i64 ((q : Nat) : Int) :: List.drop (n + 1) (W.map s8) = (W.set n q).map s8 := QV (by omega)
    simp [j4, rd, lenOf, e1, e2, h1, h2, hc, hn, over, r7, p5, E2, HH]
    rw [e3]
    simp
  · have h3 : List.take n (W.map s8) = W.map s8 := List.take_of_length_le t53
    have h4 : List.take n W = W := List.take_of_length_le (by omega)
    simp [j4, rd, lenOf, e1, e2, h1, h2, hc, hn, r7, p5, E2, HH, h4, s8]
    exact h3
attribute [local go_sem] rd cA u5 aM s4 n7 m6 dS z9 Int.natCast_nonneg Int.natCast_inj lX dG lY jX iB jY lG pW L2 wB kA wC AJ mA uB uC pX List.length_set List.length_replicate Int.toNat_natCast_add_one lA wrap64 L3 List.length_map
variable {S : List (List Nat)}
theorem c_stepA (hu : WU u) (wc : WC u c) (hmx : mx < u.c4.length) (hS : Tb (kM u mx) c.insts.length S) (hi : i < c.insts.length) (hp : pc < eQ u c i) (l : c6) : CB 38 [.int .i64 ((pc : Nat) : Int), .ptr h.length 0 0, .ptr (h.length + 5) 0 0, .ptr (h.length + 3) 0 0, .ptr (h.length + 1) 0 0, .ptr (h.length + 4) 0 0, .ptr (h.length + 2) 0 0] (h ++ (⟨0, false, 30, 4, [.vec u.globals.length (g9 u.globals), .vec u.c4.length (g5 u.c4), .vec u.procs.length (j9 u.procs), .int .i64 u.main], 0⟩ :: ⟨0, false, 34, 3, [.vec c.insts.length (l7 c.insts), .vec c.calls.length (n4 c.calls), .vec c.roots.length (g9 c.roots)], 0⟩ :: ⟨0, false, 3, 1, [.int .i64 ((mx : Nat) : Int)], 0⟩ :: ⟨0, false, 32, 1, [.vec c.insts.length (aK S)], 0⟩ :: ⟨0, false, 3, 1, [.int .i64 ((i : Nat) : Int)], 0⟩ :: ⟨0, false, 69, 2, [.int .i64 (itI c i).proc, .vec (itI c i).j7.length (g9 (itI c i).j7)], 0⟩ :: l)) (cA (stS u c mx S i pc)) := by
  refine .bz Tryz.f38 37 ?_
  have w := gP wc hi
  have w1 := w.lo; have w2 := w.hi
  have hsz : (c9 u (itI c i)).length ≤ 1664 := u4 hu w
  have hcl := wc.cl
  have hcll : (c.calls.getD i []).length = (c9 u (itI c i)).length := wc.cll i hi
  have hp2 : pc < (c9 u (itI c i)).length := hp
  have hSl := hS.1
  have hwl := wc.len
  have hcall : (qL u c i pc).op = 2 → 0 ≤ (c.calls.getD i []).getD pc 0 ∧ (c.calls.getD i []).getD pc 0 < c.insts.length := fun ho => by have := (wc.call i hi pc hp).1 (.inl ho); exact ⟨this.1, this.2.1⟩
  have hop : qL u c i pc = (c9 u (itI c i)).getD pc j0 := rfl
  rw [hop] at hcall
  refine c18z ?_
  refine c208z ?_
  refine u2z ?_ ?_
  ·intro e1 qe1
   refine .c7 [0, 3, 4, 5] ?_
   obtain ⟨hc1, hc2⟩ := hcall (by omega)
   refine .ss r9 (mkP 12 [0, 0, 2, 0, 14, 30, 0, 126, 254, 511, 1023, 2047] []) ?_
   refine c57z ?_
   exact .ret (.ex (hq := t49))
  intro e1 qe1
  refine .sk ?_
  refine .c7 [0, 1, 2, 6] ?_
  refine c39z ?_
  refine .ca rfl rfl (RD hu wc hmx hi hp) ?_
  refine .n ?_
  exact .ret (.ex (hq := t49))
variable {A R : c6}
theorem HK {X : c6} {B : Blk} : (A ++ (B :: (R ++ X)))[A.length + 1 + R.length + k]? = X[k]? := by
  rw [List.getElem?_append_right (by omega), show A.length + 1 + R.length + k - A.length = (R.length + k) + 1 from by omega, List.getElem?_cons_succ, List.getElem?_append_right (by omega)]
  congr 1
  omega
theorem OD {X : c6} {B : Blk} : (A ++ (B :: (R ++ X)))[A.length + 1 + R.length]? = X[0]? := HK (k := 0)
section
attribute [local go_sem] HK OD
theorem OE (hu : WU u) (wc : WC u c) (hmx : mx < u.c4.length) (hS : Tb (kM u mx) c.insts.length S) (hi : i < c.insts.length) (hp : pc < eQ u c i) (l : c6) : CB 38 [.int .i64 ((pc : Nat) : Int), .ptr (A.length + 1 + R.length) 0 0, .ptr (A.length + 1 + R.length + 5) 0 0, .ptr (A.length + 1 + R.length + 3) 0 0, .ptr (A.length + 1 + R.length + 1) 0 0, .ptr (A.length + 1 + R.length + 4) 0 0, .ptr (A.length + 1 + R.length + 2) 0 0] (A ++ (⟨g, false, 22, 1, aK S, 0⟩ :: (R ++ (⟨0, false, 30, 4, [.vec u.globals.length (g9 u.globals), .vec u.c4.length (g5 u.c4), .vec u.procs.length (j9 u.procs), .int .i64 u.main], 0⟩ :: ⟨0, false, 34, 3, [.vec c.insts.length (l7 c.insts), .vec c.calls.length (n4 c.calls), .vec c.roots.length (g9 c.roots)], 0⟩ :: ⟨0, false, 3, 1, [.int .i64 ((mx : Nat) : Int)], 0⟩ :: ⟨0, false, 32, 1, [.own A.length g 0 c.insts.length], 0⟩ :: ⟨0, false, 3, 1, [.int .i64 ((i : Nat) : Int)], 0⟩ :: ⟨0, false, 69, 2, [.int .i64 (itI c i).proc, .vec (itI c i).j7.length (g9 (itI c i).j7)], 0⟩ :: l)))) (cA (stS u c mx S i pc)) := by
  refine .bz Tryz.f38 37 ?_
  have w := gP wc hi
  have w1 := w.lo; have w2 := w.hi
  have hsz : (c9 u (itI c i)).length ≤ 1664 := u4 hu w
  have hcl := wc.cl
  have hcll : (c.calls.getD i []).length = (c9 u (itI c i)).length := wc.cll i hi
  have hp2 : pc < (c9 u (itI c i)).length := hp
  have hSl := hS.1
  have hwl := wc.len
  have hcall : (qL u c i pc).op = 2 → 0 ≤ (c.calls.getD i []).getD pc 0 ∧ (c.calls.getD i []).getD pc 0 < c.insts.length := fun ho => by have := (wc.call i hi pc hp).1 (.inl ho); exact ⟨this.1, this.2.1⟩
  have hop : qL u c i pc = (c9 u (itI c i)).getD pc j0 := rfl
  rw [hop] at hcall
  refine c18z ?_
  refine c208z ?_
  refine u2z ?_ ?_
  ·intro e1 qe1
   refine .c7 [0, 3, 4, 5] ?_
   obtain ⟨hc1, hc2⟩ := hcall (by omega)
   refine .ss r9 (mkP 12 [0, 0, 2, 0, 14, 30, 0, 126, 254, 511, 1023, 2047] []) ?_
   refine c57z ?_
   exact .ret (.ex (hq := t49))
  intro e1 qe1
  refine .sk ?_
  refine .c7 [0, 1, 2, 6] ?_
  refine c39z ?_
  refine .ca rfl rfl (RD hu wc hmx hi hp) ?_
  refine .n ?_
  exact .ret (.ex (hq := t49))
end
def lH (u : Un) (c : Clo) (mx : Nat) (S : List (List Nat)) (i : Nat) (sv : AV) (h : c6) : Prop := ∀ pc, pc < eQ u c i → ∀ l, CallA Tryz.prog cfg 38 [.int .i64 ((pc : Nat) : Int), .ptr h.length 0 0, .ptr (h.length + 5) 0 0, .ptr (h.length + 3) 0 0, .ptr (h.length + 1) 0 0, .ptr (h.length + 4) 0 0, .ptr (h.length + 2) 0 0] (h ++ (⟨0, false, 30, 4, [.vec u.globals.length (g9 u.globals), .vec u.c4.length (g5 u.c4), .vec u.procs.length (j9 u.procs), .int .i64 u.main], 0⟩ :: ⟨0, false, 34, 3, [.vec c.insts.length (l7 c.insts), .vec c.calls.length (n4 c.calls), .vec c.roots.length (g9 c.roots)], 0⟩ :: ⟨0, false, 3, 1, [.int .i64 ((mx : Nat) : Int)], 0⟩ :: ⟨0, false, 32, 1, [sv], 0⟩ :: ⟨0, false, 3, 1, [.int .i64 ((i : Nat) : Int)], 0⟩ :: ⟨0, false, 69, 2, [.int .i64 (itI c i).proc, .vec (itI c i).j7.length (g9 (itI c i).j7)], 0⟩ :: l)) (fun y' h' => y' = cA (stS u c mx S i pc) ∧ h' = h ++ (⟨0, false, 30, 4, [.vec u.globals.length (g9 u.globals), .vec u.c4.length (g5 u.c4), .vec u.procs.length (j9 u.procs), .int .i64 u.main], 0⟩ :: ⟨0, false, 34, 3, [.vec c.insts.length (l7 c.insts), .vec c.calls.length (n4 c.calls), .vec c.roots.length (g9 c.roots)], 0⟩ :: ⟨0, false, 3, 1, [.int .i64 ((mx : Nat) : Int)], 0⟩ :: ⟨0, false, 32, 1, [sv], 0⟩ :: ⟨0, false, 3, 1, [.int .i64 ((i : Nat) : Int)], 0⟩ :: ⟨0, false, 69, 2, [.int .i64 (itI c i).proc, .vec (itI c i).j7.length (g9 (itI c i).j7)], 0⟩ :: l))
theorem mB (hu : WU u) (wc : WC u c) (hmx : mx < u.c4.length) (hS : Tb (kM u mx) c.insts.length S) (hi : i < c.insts.length) (h : c6) : lH u c mx S i (.vec c.insts.length (aK S)) h := fun pc hp l => c_stepA hu wc hmx hS hi hp l
variable {β : Nat}
theorem AM (hu : WU u) (wc : WC u c) (hmx : mx < u.c4.length) (hS : Tb (kM u mx) c.insts.length S) (hi : i < c.insts.length) (hb : h[β]? = some ⟨g, false, 22, 1, aK S, 0⟩) : lH u c mx S i (.own β g 0 c.insts.length) h := fun pc hp l => by
  obtain ⟨hlt, hget⟩ := List.getElem?_eq_some_iff.1 hb
  obtain ⟨A, R, rfl, rfl⟩ : ∃ A R, h = A ++ ⟨g, false, 22, 1, aK S, 0⟩ :: R ∧ A.length = β := ⟨h.take β, h.drop (β + 1), by rw [← hget, ← List.drop_eq_getElem_cons hlt, List.take_append_drop], by rw [List.length_take]; omega⟩
  have e : (A ++ ⟨g, false, 22, 1, aK S, 0⟩ :: R).length = A.length + 1 + R.length := by rw [List.length_append, List.length_cons]; omega
  rw [e, List.append_assoc, List.cons_append]
  exact OE hu wc hmx hS hi hp l
theorem AN (hu : WU u) (wc : WC u c) (hmx : mx < u.c4.length) (hS : Tb (kM u mx) c.insts.length S) (hi : i < c.insts.length) (hb : h[β]? = some ⟨g, false, 22, 1, aK S, 0⟩) (l : c6) : lH u c mx S i (.own β g 0 c.insts.length) (h ++ l) :=
  AM hu wc hmx hS hi (by rw [List.getElem?_append_left (List.getElem?_eq_some_iff.1 hb).1]; exact hb)
theorem lH.shift {sv : AV} (hs : ∀ l0, lH u c mx S i sv (h ++ l0)) (hp : pc < eQ u c i) {b : Blk} (l : c6) : CB 38 [.int .i64 ((pc : Nat) : Int), .ptr h.length 0 0, .ptr (h.length + 5) 0 0, .ptr (h.length + 3) 0 0, .ptr (h.length + 1) 0 0, .ptr (h.length + 4) 0 0, .ptr (h.length + 2) 0 0] ((h ++ [⟨0, false, 30, 4, [.vec u.globals.length (g9 u.globals), .vec u.c4.length (g5 u.c4), .vec u.procs.length (j9 u.procs), .int .i64 u.main], 0⟩, ⟨0, false, 34, 3, [.vec c.insts.length (l7 c.insts), .vec c.calls.length (n4 c.calls), .vec c.roots.length (g9 c.roots)], 0⟩, ⟨0, false, 3, 1, [.int .i64 ((mx : Nat) : Int)], 0⟩, ⟨0, false, 32, 1, [sv], 0⟩, ⟨0, false, 3, 1, [.int .i64 ((i : Nat) : Int)], 0⟩, ⟨0, false, 69, 2, [.int .i64 (itI c i).proc, .vec (itI c i).j7.length (g9 (itI c i).j7)], 0⟩, b]) ++ l) (cA (stS u c mx S i pc)) := by
  have := hs [] pc hp (b :: l)
  simpa only [List.append_nil, List.append_assoc, List.cons_append, List.nil_append] using this
theorem c_nextV (hu : WU u) {it : v7} (w : WIt u it) (hpc : pc < (c9 u it).length) : CB 72 [.agg [.vec u.globals.length (g9 u.globals), .vec u.c4.length (g5 u.c4), .vec u.procs.length (j9 u.procs), .int .i64 u.main], .agg [.int .i64 it.proc, .vec it.j7.length (g9 it.j7)], .int .i64 ((pc : Nat) : Int)] h (.vec (cX ((c9 u it).getD pc j0) pc).length (g9 (cX ((c9 u it).getD pc j0) pc))) := c_nextF hu w hpc
section
attribute [local go_sem] OC
theorem c_run (hu : WU u) {it : v7} (w : WIt u it) (hmx : mx < u.c4.length) (hk : D2 (u.c4.getD mx z6) = k) {sp : Nat → List Nat} {caps : List AV} (p : Pro k (c9 u it).length (fun pc => cX ((c9 u it).getD pc j0) pc) sp) (hst : ∀ pc, pc < (c9 u it).length → ∀ l, CB 38 (.int .i64 ((pc : Nat) : Int) :: caps) (h ++ l) (cA (sp pc))) : CB 40 [.agg [.vec u.globals.length (g9 u.globals), .vec u.c4.length (g5 u.c4), .vec u.procs.length (j9 u.procs), .int .i64 u.main, .int .i64 it.proc, .vec it.j7.length (g9 it.j7), .int .i64 ((mx : Nat) : Int), .fn (.func 38) [] caps]] h (.vec (c9 u it).length (aK (eG k (c9 u it).length (fun pc => cX ((c9 u it).getD pc j0) pc) sp))) := by
  refine .bz Tryz.f40 105 ?_
  have w1 := w.lo; have w2 := w.hi
  have hsz : (c9 u it).length ≤ 1664 := u4 hu w
  have hk8 : k ≤ 8 := by rw [← hk]; exact K4
  have hps := p.pos
  have hml := hu.ml
  have hcd := (jN hu w).1
  refine c61z ?_
  refine .e 7 ?_
  refine .ca rfl rfl (WR (u.c4.getD mx z6)) ?_
  refine .n ?_
  refine c78z ?_
  refine c112z ?_
  refine .c7 [1, 3, 4] ?_
  refine c21z ?_
  refine .aP (fun m st => ∃ (i : Nat), (m = (c9 u it).length - i ∧ (i ≤ (c9 u it).length)) ∧ st = ⟨mkS 105 [(1, AV.ptr h.length 0 0), (3, AV.int .i64 ((k : Nat) : Int)), (5, AV.own (h.length + 1) 0 0 (c9 u it).length), (33, AV.int .i64 (((c9 u it).length : Nat) : Int)), (34, AV.int .i64 ((i : Nat) : Int))], h ++ [⟨0, false, 84, 8, [.vec u.globals.length (g9 u.globals), .vec u.c4.length (g5 u.c4), .vec u.procs.length (j9 u.procs), .int .i64 u.main, .int .i64 it.proc, .vec it.j7.length (g9 it.j7), .int .i64 ((mx : Nat) : Int), .fn (.func 38) [] caps], 0⟩, ⟨0, false, 22, 1, yP (c9 u it).length i (List.replicate (k + 1) 0), 0⟩]⟩) (.v ⟨0, ⟨rfl, by omega⟩, rfl⟩) ?_ (he := by (rw [uQ]))
  rintro m sl h' ⟨i, ⟨hm, hi⟩, hst⟩
  obtain ⟨rfl, rfl⟩ := St.mk.inj hst; clear hst
  refine c18z ?_
  refine u2z ?_ ?_
  ·intro e1 qe1
   refine c86z ?_
   refine c1z ?_
   refine .c7 [1, 3, 5, 33, 34] ?_
   refine c8.XM (β := h.length + 1) (γ := h.length + 2) (A := aK (List.replicate i (List.replicate (k + 1) 0))) (R := List.replicate ((c9 u it).length - (i + 1)) AV.j5) (zs := (List.replicate (k + 1) 0)) (len := k + 1) t35 t35 (by simp) (by omega) ?_
   refine c43z ?_
   exact ⟨_, by omega, .v ⟨(i + 1), ⟨rfl, by omega⟩, rfl⟩ (he := t102) (hk := by exact (z5.refl _).app rfl ⟨.inl rfl, .inr (E1 _), trivial⟩)⟩
  intro e1 qe1
  refine .exit ?_
  obtain rfl : i = (c9 u it).length := by omega
  simp only [yQ]
  change c8 ..
  refine c38z ?_
  refine .ca rfl rfl (c_idN _ hk8) ?_
  refine .n ?_
  refine .c7 [1, 5] ?_
  refine .z ?_
  refine .sb ?_
  refine .aP (fun m st => ∃ (T : List (List Nat)) (W : List Nat) (l : Nat) (g : Nat), (m = RC (c9 u it).length T l ∧ (IM k (c9 u it).length (fun pc => cX ((c9 u it).getD pc j0) pc) sp T (W.take l) ∧ l ≤ W.length ∧ RC (c9 u it).length T l ≤ 20000000)) ∧ st = ⟨mkS 105 [(1, AV.ptr h.length 0 0), (5, AV.own (h.length + 1) 0 0 (c9 u it).length), (7, AV.own (h.length + 2) g 0 l)], h ++ [⟨0, false, 84, 8, [.vec u.globals.length (g9 u.globals), .vec u.c4.length (g5 u.c4), .vec u.procs.length (j9 u.procs), .int .i64 u.main, .int .i64 it.proc, .vec it.j7.length (g9 it.j7), .int .i64 ((mx : Nat) : Int), .fn (.func 38) [] caps], 0⟩, ⟨0, false, 22, 1, aK T, 0⟩, ⟨g, false, 3, 1, W.map s8, 0⟩]⟩) (.v ⟨((List.replicate (c9 u it).length (List.replicate (k + 1) 0)).set 0 (dhN k 0)), [0], 1, 0, ⟨rfl, ⟨IM.start p, by simp, by unfold RC; omega⟩⟩, rfl⟩) ?_
  rintro m sl h' ⟨T, W, l, g, ⟨hm, ⟨hI, hl, hlb⟩⟩, hst⟩
  obtain ⟨rfl, rfl⟩ := St.mk.inj hst; clear hst
  have hTl : T.length = (c9 u it).length := hI.g.tb.1
  have hlm : l ≤ RC (c9 u it).length T l := by unfold RC; omega
  refine c0z ?_
  refine u2z ?_ ?_
  ·intro e2 qe2
   refine c186z ?_
   obtain ⟨k1, rfl⟩ : ∃ k1, l = k1 + 1 := ⟨l - 1, by omega⟩
   refine .z ?_
   refine .c7 [1, 5, 7, 8] ?_
   refine .z ?_
   rw [HJ (by omega)] at hI
   generalize W.getD k1 0 = pc at hI ⊢
   obtain ⟨hpc, hJ0⟩ := hI.pop
   have hst1 := p.st pc hpc
   have hTp := hI.g.tb.get hpc
   obtain ⟨hR, hle⟩ := hI.g.aft p hpc
   refine .ss r9 (mkP 10 [0, 0, 3, 7, 0, 16, 0, 112, 255, 511] []) ?_
   refine .k 7 [] ?_
   refine gR.cq rfl (rfl) hb38 (hst pc hpc _) ?_
   refine .ca rfl rfl (c_comp _ _ (hst1.lt hk8) (by have := hst1.1; omega) (hTp.lt hk8) (by have := hTp.1; omega)) ?_
   refine .n [] ?_
   refine .c7 [1, 5, 7, 8, 9] ?_
   have hnl := FZ (x := (c9 u it).getD pc j0) (pc := pc)
   refine c22z ?_
   refine .ca rfl rfl (c_nextV hu w hpc) ?_
   refine c144z ?_
   refine .aP (fun m st => ∃ (T1 : List (List Nat)) (W1 : List Nat) (l1 : Nat) (g1 : Nat) (j : Nat), (m = (cX ((c9 u it).getD pc j0) pc).length - j ∧ (HD k (c9 u it).length (fun pc => cX ((c9 u it).getD pc j0) pc) sp pc (T.getD pc []) (tot T) (W.take k1).length T1 (W1.take l1) j ∧ l1 ≤ W1.length ∧ j ≤ (cX ((c9 u it).getD pc j0) pc).length ∧ l1 ≤ k1 + j)) ∧ st = ⟨mkS 105 [(1, AV.ptr h.length 0 0), (5, AV.own (h.length + 1) 0 0 (c9 u it).length), (7, AV.own (h.length + 2) g1 0 l1), (9, cA (z1 (T.getD pc []) (sp pc))), (77, AV.vec (cX ((c9 u it).getD pc j0) pc).length (g9 (cX ((c9 u it).getD pc j0) pc))), (78, AV.int .i64 (((cX ((c9 u it).getD pc j0) pc).length : Nat) : Int)), (79, AV.int .i64 ((j : Nat) : Int))], h ++ [⟨0, false, 84, 8, [.vec u.globals.length (g9 u.globals), .vec u.c4.length (g5 u.c4), .vec u.procs.length (j9 u.procs), .int .i64 u.main, .int .i64 it.proc, .vec it.j7.length (g9 it.j7), .int .i64 ((mx : Nat) : Int), .fn (.func 38) [] caps], 0⟩, ⟨0, false, 22, 1, aK T1, 0⟩, ⟨g1, false, 3, 1, W1.map s8, 0⟩]⟩) (.v ⟨T, W, k1, g, 0, ⟨rfl, ⟨hJ0, by omega, by omega, by omega⟩⟩, rfl⟩) ?_
   rintro m sl h' ⟨T1, W1, l1, g1, j, ⟨hm, ⟨hJ, hl1, hj, hlj⟩⟩, hst⟩
   obtain ⟨rfl, rfl⟩ := St.mk.inj hst; clear hst
   have hT1 : T1.length = (c9 u it).length := hJ.g.tb.1
   refine c18z ?_
   refine u2z ?_ ?_
   ·intro e3 qe3
    refine c86z ?_
    obtain ⟨hq1, hq2⟩ := p.nx pc hpc _ (l9 (d := 0) (show j < (cX ((c9 u it).getD pc j0) pc).length from by omega))
    obtain ⟨q, hqe⟩ : ∃ q : Nat, (cX ((c9 u it).getD pc j0) pc).getD j 0 = (q : Int) := ⟨((cX ((c9 u it).getD pc j0) pc).getD j 0).toNat, by omega⟩
    rw [hqe] at hq1 hq2 ⊢
    have hq3 : q < (c9 u it).length := by omega
    have hRq := hJ.g.tb.get hq3
    have hqt : ((cX ((c9 u it).getD pc j0) pc).getD j 0).toNat = q := by rw [hqe]; rfl
    refine c22z ?_
    refine .ca rfl rfl (D9 _ _ (by have := hR.1; omega) (by have := hR.1; have := hRq.1; omega)) ?_
    refine .n ?_
    refine u2z ?_ ?_
    ·intro e4 qe4
     refine .c7 [1, 5, 7, 9, 11, 77, 78, 79] ?_
     refine .s ?_
     refine .e 7 ?_
     refine .ca rfl rfl (HC _ _ (hR.lt hk8) (hRq.lt hk8) (by have := hRq.1; omega) (by have := hR.1; have := hRq.1; omega)) ?_
     refine .n ?_
     refine .c7 [1, 5, 7, 9, 11, 77, 78, 79] ?_
     refine c50z ?_
     exact ⟨_, by omega, .v ⟨(T1.set q (cR (T1.getD q []) (z1 (T.getD pc []) (sp pc)))), (E2 W1 l1 q), (l1 + 1), (HH W1 g1 l1), (j + 1), ⟨rfl, ⟨by rw [AL hl1]; exact hJ.grow p hpc hR hle (by omega) hqt (fun hs => absurd ((K7 hk8 hR hRq).2 hs) (by assumption)), HI hl1, by omega, by omega⟩⟩, rfl⟩ (he := t73) (hk := t94)⟩
    intro e4 qe4
    refine c7z ?_
    refine .c7 [1, 5, 7, 9, 77, 78, 79] ?_
    refine .rz ?_
    exact ⟨_, by omega, .v ⟨T1, W1, l1, g1, (j + 1), ⟨rfl, ⟨hJ.skip ((K7 hk8 hR (by rw [hqt]; exact hRq)).1 (by rw [hqt]; assumption)), hl1, by omega, by omega⟩⟩, rfl⟩ (he := t73) (hk := t94)⟩
   intro e3 qe3
   refine .exit ?_
   obtain rfl : j = (cX ((c9 u it).getD pc j0) pc).length := by omega
   have hmr := mRun_lt hk8 hJ hI.g
   rw [List.length_take, List.length_take, Nat.min_eq_left hl1, Nat.min_eq_left (show k1 ≤ W.length from by omega)] at hmr
   exact ⟨_, by omega, .v ⟨T1, W1, l1, g1, ⟨rfl, ⟨hJ.fin hpc, hl1, by omega⟩⟩, rfl⟩ (he := t73) (hk := t94)⟩
  intro e2 qe2
  refine .exit ?_
  obtain rfl : l = 0 := by omega
  have hT : T = (eG k (c9 u it).length (fun pc => cX ((c9 u it).getD pc j0) pc) sp) := IM.done p (by simpa using hI)
  change c8 ..
  refine c25z ?_
  exact ⟨_, _, rfl, XJ t35 (by omega) hTl, by (rw [hT])⟩
end
section
theorem oR (hu : WU u) (wc : WC u c) (hmx : mx < u.c4.length) (hS : Tb (kM u mx) c.insts.length S) (hi : i < c.insts.length) (hsv : ∀ l0, lH u c mx S i (.vec c.insts.length (aK S)) (h ++ l0)) : CB 18 [.agg [.vec u.globals.length (g9 u.globals), .vec u.c4.length (g5 u.c4), .vec u.procs.length (j9 u.procs), .int .i64 u.main], .agg [.vec c.insts.length (l7 c.insts), .vec c.calls.length (n4 c.calls), .vec c.roots.length (g9 c.roots)], .int .i64 ((mx : Nat) : Int), .vec c.insts.length (aK S), .int .i64 ((i : Nat) : Int)] h (.vec (eQ u c i) (aK (yY u c mx S i))) := by
  refine .bz Tryz.f18 25 ?_
  have w := gP wc hi
  have w1 := w.lo; have w2 := w.hi
  have hwl := wc.len
  refine c195z ?_
  refine .c7 [5, 6, 7, 8, 9, 11] ?_
  refine .z ?_
  refine .c7 [12] ?_
  refine c131z ?_
  refine .ca rfl rfl (c_run hu (gP wc hi) hmx rfl (QZ hu wc hS hi) (fun pc hp l => lH.shift hsv hp l)) ?_
  refine .n ?_
  exact .ret (.ex (hq := by rfl))
end
section
theorem HL (hu : WU u) (wc : WC u c) (hmx : mx < u.c4.length) (hS : Tb (kM u mx) c.insts.length S) (hi : i < c.insts.length) (hsv : ∀ l0, lH u c mx S i (.own β g 0 c.insts.length) (h ++ l0)) : CB 18 [.agg [.vec u.globals.length (g9 u.globals), .vec u.c4.length (g5 u.c4), .vec u.procs.length (j9 u.procs), .int .i64 u.main], .agg [.vec c.insts.length (l7 c.insts), .vec c.calls.length (n4 c.calls), .vec c.roots.length (g9 c.roots)], .int .i64 ((mx : Nat) : Int), .own β g 0 c.insts.length, .int .i64 ((i : Nat) : Int)] h (.vec (eQ u c i) (aK (yY u c mx S i))) := by
  refine .bz Tryz.f18 25 ?_
  have w := gP wc hi
  have w1 := w.lo; have w2 := w.hi
  have hwl := wc.len
  refine c195z ?_
  refine .c7 [5, 6, 7, 8, 9, 11] ?_
  refine .z ?_
  refine .c7 [12] ?_
  refine c131z ?_
  refine .ca rfl rfl (c_run hu (gP wc hi) hmx rfl (QZ hu wc hS hi) (fun pc hp l => lH.shift hsv hp l)) ?_
  refine .n ?_
  exact .ret (.ex (hq := by rfl))
end
end Go.Proofs.YtfbjlfhjkojmkaaGreat
end
section
namespace Go.Proofs.YtfbjlfhjkojmkaaGreat
open Go.Ab Go.Un
variable {c : Clo} {i : Nat}
theorem lI (h : i < c.insts.length) : List.take 1 (List.drop (i * 2) (l7 c.insts)) = [.int .i64 (itI c i).proc] := lX h
variable {h : c6}
theorem U3 (u : Un) (mx : Nat) : CB 56 [.agg [.str (u.c4.getD mx z6).name, .bool (u.c4.getD mx z6).re, .int .i64 (u.c4.getD mx z6).size]] h (.int .i64 ((kM u mx : Nat) : Int)) := WR _
variable {n : Nat}
theorem HM {β g len : Nat} {H : c6} (h : β < n) : iF n H 6 (.own β g 0 len) = some (.own β g 0 len) := by rw [dV, if_pos h]
theorem z5.new {l' : c6} (hk : ∀ b ∈ l', w6 b.cells) : z5 h (h ++ l') := fun β b hb => by
  by_cases hβ : β < h.length
  · left; rwa [List.getElem?_append_left hβ] at hb
  · right; rw [List.getElem?_append_right (by omega)] at hb; exact fun x hx => (hk b (List.mem_of_getElem? hb) x hx).rf _
theorem plnU (u : Un) : w6 [.vec u.globals.length (g9 u.globals), .vec u.c4.length (g5 u.c4), .vec u.procs.length (j9 u.procs), .int .i64 u.main] := w6.cons .vec (w6.cons .vec (w6.cons .vec (w6.cons .int .nil)))
theorem plnC (c : Clo) : w6 [.vec c.insts.length (l7 c.insts), .vec c.calls.length (n4 c.calls), .vec c.roots.length (g9 c.roots)] := w6.cons .vec (w6.cons .vec (w6.cons .vec .nil))
theorem c8.XP {c : Code} {H : c6} {Q : Exit → St → Prop} {γ t len n e : Nat} {l : List (Nat × AV)} {zs : List Nat} (hγ : H[γ]? = some ⟨0, false, e, 1, zs.map s8, 0⟩) (hz : zs.length = len) (hp : 0 < len) (hx : (mkS n l)[t]? = some (.own γ 0 0 len))
    (r : c8 Tryz.prog cfg c ⟨(mkS n l).set t (.vec len (zs.map s8)), H.set γ ⟨0, false, e, 1, zs.map s8, len⟩⟩ Q) : c8 Tryz.prog cfg c ⟨mkS n l, H⟩ Q := by
  subst hz
  have hne : zs.map s8 ≠ [] := fun h0 => by have := congrArg List.length h0; rw [List.length_map] at this; simp only [List.length_nil] at this; omega
  refine c8.A1 (t := t) (γ := γ) (len := zs.length) (e := e) (K := 1) (g := 0) (zs := zs.map s8) (by rw [hγ]; exact congrArg some (dW hne).symm) (by simp) (by omega) (plnN zs) hx ?_
  obtain ⟨z, zs', hzz⟩ := List.exists_cons_of_ne_nil hne
  have e1 : fV e 1 0 (zs.map s8) (zs.length * 1) = ⟨0, false, e, 1, zs.map s8, zs.length⟩ := by rw [hzz, Nat.mul_one]; rfl
  rw [e1]
  exact r
theorem c8.XQ {c : Code} {H : c6} {Q : Exit → St → Prop} {γ t len n g e : Nat} {l : List (Nat × AV)} {T : List (List Nat)} (hγ : H[γ]? = some ⟨g, false, e, 1, aK T, 0⟩) (hz : T.length = len) (hp : 0 < len) (hx : (mkS n l)[t]? = some (.own γ g 0 len))
    (r : c8 Tryz.prog cfg c ⟨(mkS n l).set t (.vec len (aK T)), H.set γ ⟨g, false, e, 1, aK T, len⟩⟩ Q) : c8 Tryz.prog cfg c ⟨mkS n l, H⟩ Q := by
  subst hz
  have hne : aK T ≠ [] := fun h0 => by have := congrArg List.length h0; rw [z9] at this; simp only [List.length_nil] at this; omega
  refine c8.A1 (t := t) (γ := γ) (len := T.length) (e := e) (K := 1) (g := g) (zs := aK T) (by rw [hγ]; exact congrArg some (dW hne).symm) (by simp [z9]) (by omega) (IL T) hx ?_
  obtain ⟨z, zs', hzz⟩ := List.exists_cons_of_ne_nil hne
  have e1 : fV e 1 g (aK T) (T.length * 1) = ⟨g, false, e, 1, aK T, T.length⟩ := by rw [hzz, Nat.mul_one]; rfl
  rw [e1]
  exact r
attribute [local go_sem] rd cA u5 aM s4 n7 m6 dS z9 Int.natCast_nonneg Int.natCast_inj dG lY jX iB jY lG pW L2 wB kA wC AJ mA uB uC pX List.length_set List.length_replicate Int.toNat_natCast_add_one lA wrap64 L3 List.length_map lI
theorem OF (a b : List Nat) (hl : a.length < 1000000) : CB 32 [cA a, cA b] h (.bool (decide (a = b))) := by
  refine .bz Tryz.f32 26 ?_
  refine c83z ?_
  refine u2z ?_ ?_
  ·intro e1 qe1
   refine c116z ?_
   exact ⟨[], _, (List.append_nil _).symm, t44, t72⟩
  intro e1 qe1
  refine .sk ?_
  refine c5z ?_
  refine .dK (fun m st => ∃ (i : Nat), (m = a.length - i ∧ ((∀ d, d < i → a.getD d 0 = b.getD d 0) ∧ i ≤ a.length)) ∧ st = ⟨mkS 26 [(0, cA a), (1, cA b), (12, AV.int .i64 ((a.length : Nat) : Int)), (13, AV.int .i64 ((i : Nat) : Int))], h⟩) _ (.v ⟨0, ⟨rfl, ⟨t106, by omega⟩⟩, rfl⟩) ?_
  rintro m sl h' ⟨i, ⟨hm, ⟨hI, hi⟩⟩, hst⟩
  obtain ⟨rfl, rfl⟩ := St.mk.inj hst
  refine c18z ?_
  refine u2z ?_ ?_
  ·intro e2 qe2
   refine c86z ?_
   refine .ss r9 (mkP 9 [0, 0, 3, 7, 0, 0, 48, 112, 255] []) ?_
   refine c57z ?_
   refine u2z ?_ ?_
   ·intro e3 qe3
    refine c116z ?_
    exact ⟨[], _, (List.append_nil _).symm, t44, t72⟩
   intro e3 qe3
   refine c7z ?_
   refine .c7 [0, 1, 12, 13] ?_
   refine .rz ?_
   exact ⟨_, by omega, .v ⟨(i + 1), ⟨rfl, ⟨(fun d hd => if e : d = i then by rw [e]; omega else hI d (by omega)), by omega⟩⟩, rfl⟩⟩
  intro e2 qe2
  refine c117z ?_
  exact ⟨[], _, (List.append_nil _).symm, t44, t72⟩
variable {u : Un} {mx : Nat}
theorem c_exitV (hu : WU u) (wc : WC u c) (hmx : mx < u.c4.length) {S : List (List Nat)} (hS : Tb (kM u mx) c.insts.length S) (hi : i < c.insts.length) (hsv : ∀ l0, lH u c mx S i (.vec c.insts.length (aK S)) (h ++ l0)) : CB 31 [.agg [.vec u.globals.length (g9 u.globals), .vec u.c4.length (g5 u.c4), .vec u.procs.length (j9 u.procs), .int .i64 u.main], .agg [.vec c.insts.length (l7 c.insts), .vec c.calls.length (n4 c.calls), .vec c.roots.length (g9 c.roots)], .int .i64 ((mx : Nat) : Int), .vec c.insts.length (aK S), .int .i64 ((i : Nat) : Int)] h (cA (exT u c mx S i)) := by
  refine .bz Tryz.f31 55 ?_
  have w := gP wc hi
  have w1 := w.lo; have w2 := w.hi
  have hsz : (c9 u (itI c i)).length ≤ 1664 := u4 hu w
  have hwl := wc.len
  have hk8 : kM u mx ≤ 8 := qV
  have hk9 : D2 (u.c4.getD mx z6) ≤ 8 := hk8
  have hml := hu.ml
  have hT := gQ (u := u) (c := c) (m := mx) S i
  have hTl : (yY u c mx S i).length = eQ u c i := hT.1
  have hli : eQ u c i ≤ 1664 := hsz
  have hlc : eQ u c i = (c9 u (itI c i)).length := rfl
  refine .z ?_
  refine c22z ?_
  refine .ca rfl rfl (U3 u mx) ?_
  refine c44z ?_
  refine .c7 [2, 3, 4, 5, 6, 11] ?_
  refine c8.XP (t := 11) (γ := (h.length + 2)) (len := (kM u mx + 1)) t35 (by simp) (by omega) (jH (by decide) rfl) ?_
  rw [bB]; simp only [p5, List.set_cons_succ, List.set_cons_zero]
  generalize (⟨0, false, 3, 1, (List.replicate (kM u mx + 1) 0).map s8, kM u mx + 1⟩ : Blk) = Vb
  refine c22z ?_
  refine .ca rfl rfl (oR hu wc hmx hS hi (fun l0 => by rw [List.append_assoc]; exact hsv _)) ?_
  refine c144z ?_
  refine .dK (fun m st => ∃ (j : Nat), (m = eQ u c i - j ∧ (j ≤ eQ u c i)) ∧ st = ⟨mkS 55 [(4, AV.int .i64 ((i : Nat) : Int)), (5, AV.ptr h.length 0 0), (6, AV.ptr (h.length + 1) 0 0), (11, cA (F0 u c mx i (yY u c mx S i) j)), (27, AV.vec (eQ u c i) (aK (yY u c mx S i))), (28, AV.int .i64 ((eQ u c i : Nat) : Int)), (29, AV.int .i64 ((j : Nat) : Int))], h ++ [⟨0, false, 30, 4, [.vec u.globals.length (g9 u.globals), .vec u.c4.length (g5 u.c4), .vec u.procs.length (j9 u.procs), .int .i64 u.main], 0⟩, ⟨0, false, 34, 3, [.vec c.insts.length (l7 c.insts), .vec c.calls.length (n4 c.calls), .vec c.roots.length (g9 c.roots)], 0⟩, Vb]⟩) _ (.v ⟨0, ⟨rfl, by omega⟩, rfl⟩ (hs := t21)) ?_
  rintro m sl h' ⟨j, ⟨hm, hj⟩, hst⟩
  obtain ⟨rfl, rfl⟩ := St.mk.inj hst
  have hop : (qL u c i j).op = ((c9 u (itI c i)).getD j j0).op := rfl
  refine c18z ?_
  refine u2z ?_ ?_
  ·intro e1 qe1
   refine c86z ?_
   refine .ss r9 (mkP 16 [0, 1, 0, 4, 0, 28, 60, 124, 255, 511, 1023, 0, 4095, 8191, 16383, 32767] []) ?_
   refine c57z ?_
   refine u2z ?_ ?_
   ·intro e2 qe2
    refine .c7 [4, 5, 6, 11, 13, 27, 28, 29] ?_
    have hTj := hT.get (i := j) (by omega)
    have hEj := mW (u := u) (c := c) (m := mx) i (yY u c mx S i) j
    refine .r ?_
    refine .e 2 ?_
    refine c115z ?_
    refine .rz ?_
    exact ⟨_, by omega, .v ⟨(j + 1), ⟨rfl, by omega⟩, rfl⟩ (hs := t21)⟩
   intro e2 qe2
   refine c7z ?_
   refine .c7 [4, 5, 6, 11, 27, 28, 29] ?_
   refine .rz ?_
   exact ⟨_, by omega, .v ⟨(j + 1), ⟨rfl, by omega⟩, rfl⟩ (hs := t21)⟩
  intro e1 qe1
  refine .exit ?_
  obtain rfl : j = eQ u c i := by omega
  refine c218z ?_
  exact .ret (.ex (hq := by rfl))
theorem c_exitO (hu : WU u) (wc : WC u c) (hmx : mx < u.c4.length) {S : List (List Nat)} (hS : Tb (kM u mx) c.insts.length S) (hi : i < c.insts.length) {β g : Nat} (hsv : ∀ l0, lH u c mx S i (.own β g 0 c.insts.length) (h ++ l0)) : CB 31 [.agg [.vec u.globals.length (g9 u.globals), .vec u.c4.length (g5 u.c4), .vec u.procs.length (j9 u.procs), .int .i64 u.main], .agg [.vec c.insts.length (l7 c.insts), .vec c.calls.length (n4 c.calls), .vec c.roots.length (g9 c.roots)], .int .i64 ((mx : Nat) : Int), .own β g 0 c.insts.length, .int .i64 ((i : Nat) : Int)] h (cA (exT u c mx S i)) := by
  refine .bz Tryz.f31 55 ?_
  have w := gP wc hi
  have w1 := w.lo; have w2 := w.hi
  have hsz : (c9 u (itI c i)).length ≤ 1664 := u4 hu w
  have hwl := wc.len
  have hk8 : kM u mx ≤ 8 := qV
  have hk9 : D2 (u.c4.getD mx z6) ≤ 8 := hk8
  have hml := hu.ml
  have hT := gQ (u := u) (c := c) (m := mx) S i
  have hTl : (yY u c mx S i).length = eQ u c i := hT.1
  have hli : eQ u c i ≤ 1664 := hsz
  have hlc : eQ u c i = (c9 u (itI c i)).length := rfl
  refine .z ?_
  refine c22z ?_
  refine .ca rfl rfl (U3 u mx) ?_
  refine c44z ?_
  refine .c7 [2, 3, 4, 5, 6, 11] ?_
  refine c8.XP (t := 11) (γ := (h.length + 2)) (len := (kM u mx + 1)) t35 (by simp) (by omega) (jH (by decide) rfl) ?_
  rw [bB]; simp only [p5, List.set_cons_succ, List.set_cons_zero]
  generalize (⟨0, false, 3, 1, (List.replicate (kM u mx + 1) 0).map s8, kM u mx + 1⟩ : Blk) = Vb
  refine c22z ?_
  refine .ca rfl rfl (HL hu wc hmx hS hi (fun l0 => by rw [List.append_assoc]; exact hsv _)) ?_
  refine c144z ?_
  refine .dK (fun m st => ∃ (j : Nat), (m = eQ u c i - j ∧ (j ≤ eQ u c i)) ∧ st = ⟨mkS 55 [(4, AV.int .i64 ((i : Nat) : Int)), (5, AV.ptr h.length 0 0), (6, AV.ptr (h.length + 1) 0 0), (11, cA (F0 u c mx i (yY u c mx S i) j)), (27, AV.vec (eQ u c i) (aK (yY u c mx S i))), (28, AV.int .i64 ((eQ u c i : Nat) : Int)), (29, AV.int .i64 ((j : Nat) : Int))], h ++ [⟨0, false, 30, 4, [.vec u.globals.length (g9 u.globals), .vec u.c4.length (g5 u.c4), .vec u.procs.length (j9 u.procs), .int .i64 u.main], 0⟩, ⟨0, false, 34, 3, [.vec c.insts.length (l7 c.insts), .vec c.calls.length (n4 c.calls), .vec c.roots.length (g9 c.roots)], 0⟩, Vb]⟩) _ (.v ⟨0, ⟨rfl, by omega⟩, rfl⟩ (hs := t21)) ?_
  rintro m sl h' ⟨j, ⟨hm, hj⟩, hst⟩
  obtain ⟨rfl, rfl⟩ := St.mk.inj hst
  have hop : (qL u c i j).op = ((c9 u (itI c i)).getD j j0).op := rfl
  refine c18z ?_
  refine u2z ?_ ?_
  ·intro e1 qe1
   refine c86z ?_
   refine .ss r9 (mkP 16 [0, 1, 0, 4, 0, 28, 60, 124, 255, 511, 1023, 0, 4095, 8191, 16383, 32767] []) ?_
   refine c57z ?_
   refine u2z ?_ ?_
   ·intro e2 qe2
    refine .c7 [4, 5, 6, 11, 13, 27, 28, 29] ?_
    have hTj := hT.get (i := j) (by omega)
    have hEj := mW (u := u) (c := c) (m := mx) i (yY u c mx S i) j
    refine .r ?_
    refine .e 2 ?_
    refine c115z ?_
    refine .rz ?_
    exact ⟨_, by omega, .v ⟨(j + 1), ⟨rfl, by omega⟩, rfl⟩ (hs := t21)⟩
   intro e2 qe2
   refine c7z ?_
   refine .c7 [4, 5, 6, 11, 27, 28, 29] ?_
   refine .rz ?_
   exact ⟨_, by omega, .v ⟨(j + 1), ⟨rfl, by omega⟩, rfl⟩ (hs := t21)⟩
  intro e1 qe1
  refine .exit ?_
  obtain rfl : j = eQ u c i := by omega
  refine c218z ?_
  exact .ret (.ex (hq := by rfl))
theorem OG (hu : WU u) (wc : WC u c) (hmx : mx < u.c4.length) : CB 30 [.agg [.vec u.globals.length (g9 u.globals), .vec u.c4.length (g5 u.c4), .vec u.procs.length (j9 u.procs), .int .i64 u.main], .agg [.vec c.insts.length (l7 c.insts), .vec c.calls.length (n4 c.calls), .vec c.roots.length (g9 c.roots)], .int .i64 ((mx : Nat) : Int)] h (.vec c.insts.length (aK (uK u c mx))) := by
  refine .bz Tryz.f30 31 ?_
  have hwl := wc.len
  have hk8 : kM u mx ≤ 8 := qV
  have hk9 : D2 (u.c4.getD mx z6) ≤ 8 := hk8
  have hml := hu.ml
  refine c145z ?_
  refine .c7 [2, 3, 7] ?_
  refine c23z ?_
  refine .aP (fun m st => ∃ (i : Nat), (m = c.insts.length - i ∧ (i ≤ c.insts.length)) ∧ st = ⟨mkS 31 [(2, AV.int .i64 ((mx : Nat) : Int)), (3, AV.ptr h.length 0 0), (7, AV.own (h.length + 2) 0 0 c.insts.length), (14, AV.int .i64 ((c.insts.length : Nat) : Int)), (15, AV.int .i64 ((i : Nat) : Int))], h ++ [⟨0, false, 30, 4, [.vec u.globals.length (g9 u.globals), .vec u.c4.length (g5 u.c4), .vec u.procs.length (j9 u.procs), .int .i64 u.main], 0⟩, ⟨0, false, 34, 3, [.vec c.insts.length (l7 c.insts), .vec c.calls.length (n4 c.calls), .vec c.roots.length (g9 c.roots)], 0⟩, ⟨0, false, 22, 1, yP c.insts.length i (List.replicate (kM u mx + 1) 0), 0⟩]⟩) (.v ⟨0, ⟨rfl, by omega⟩, rfl⟩) ?_ (he := by (rw [uQ]))
  rintro m sl h' ⟨i, ⟨hm, hi⟩, hst⟩
  obtain ⟨rfl, rfl⟩ := St.mk.inj hst; clear hst
  refine c18z ?_
  refine u2z ?_ ?_
  ·intro e1 qe1
   refine c86z ?_
   refine .r ?_
   refine .e 7 ?_
   refine .ca rfl rfl (U3 u mx) ?_
   refine c28z ?_
   refine .c7 [2, 3, 7, 14, 15] ?_
   refine c8.XM (β := h.length + 2) (γ := h.length + 3) (A := aK (List.replicate i (List.replicate (kM u mx + 1) 0))) (R := List.replicate (c.insts.length - (i + 1)) AV.j5) (zs := (List.replicate (kM u mx + 1) 0)) (len := kM u mx + 1) t35 t35 (by simp) (by omega) ?_
   refine c43z ?_
   exact ⟨_, by omega, .v ⟨(i + 1), ⟨rfl, by omega⟩, rfl⟩ (he := t102) (hk := t160)⟩
  intro e1 qe1
  refine .exit ?_
  obtain rfl : i = c.insts.length := by omega
  simp only [yQ]
  change c8 ..
  refine c25z ?_
  exact ⟨_, _, rfl, XJ t35 (by omega) (by simp), by rfl⟩
theorem OH (hu : WU u) (wc : WC u c) (hmx : mx < u.c4.length) : CH 30 [.agg [.vec u.globals.length (g9 u.globals), .vec u.c4.length (g5 u.c4), .vec u.procs.length (j9 u.procs), .int .i64 u.main], .agg [.vec c.insts.length (l7 c.insts), .vec c.calls.length (n4 c.calls), .vec c.roots.length (g9 c.roots)], .int .i64 ((mx : Nat) : Int)] h (.own (h.length + 2) 0 0 c.insts.length) (h ++ [⟨0, false, 30, 4, [.vec u.globals.length (g9 u.globals), .vec u.c4.length (g5 u.c4), .vec u.procs.length (j9 u.procs), .int .i64 u.main], 0⟩, ⟨0, false, 34, 3, [.vec c.insts.length (l7 c.insts), .vec c.calls.length (n4 c.calls), .vec c.roots.length (g9 c.roots)], 0⟩, ⟨0, false, 22, 1, aK (uK u c mx), 0⟩]) := by
  refine .wz Tryz.f30 31 ?_
  have hwl := wc.len
  have hk8 : kM u mx ≤ 8 := qV
  have hk9 : D2 (u.c4.getD mx z6) ≤ 8 := hk8
  have hml := hu.ml
  refine c145z ?_
  refine .c7 [2, 3, 7] ?_
  refine c23z ?_
  refine .aP (fun m st => ∃ (i : Nat), (m = c.insts.length - i ∧ (i ≤ c.insts.length)) ∧ st = ⟨mkS 31 [(2, AV.int .i64 ((mx : Nat) : Int)), (3, AV.ptr h.length 0 0), (7, AV.own (h.length + 2) 0 0 c.insts.length), (14, AV.int .i64 ((c.insts.length : Nat) : Int)), (15, AV.int .i64 ((i : Nat) : Int))], h ++ [⟨0, false, 30, 4, [.vec u.globals.length (g9 u.globals), .vec u.c4.length (g5 u.c4), .vec u.procs.length (j9 u.procs), .int .i64 u.main], 0⟩, ⟨0, false, 34, 3, [.vec c.insts.length (l7 c.insts), .vec c.calls.length (n4 c.calls), .vec c.roots.length (g9 c.roots)], 0⟩, ⟨0, false, 22, 1, yP c.insts.length i (List.replicate (kM u mx + 1) 0), 0⟩]⟩) (.v ⟨0, ⟨rfl, by omega⟩, rfl⟩) ?_ (he := by (rw [uQ]))
  rintro m sl h' ⟨i, ⟨hm, hi⟩, hst⟩
  obtain ⟨rfl, rfl⟩ := St.mk.inj hst; clear hst
  refine c18z ?_
  refine u2z ?_ ?_
  ·intro e1 qe1
   refine c86z ?_
   refine .r ?_
   refine .e 7 ?_
   refine .ca rfl rfl (U3 u mx) ?_
   refine c28z ?_
   refine .c7 [2, 3, 7, 14, 15] ?_
   refine c8.XM (β := h.length + 2) (γ := h.length + 3) (A := aK (List.replicate i (List.replicate (kM u mx + 1) 0))) (R := List.replicate (c.insts.length - (i + 1)) AV.j5) (zs := (List.replicate (kM u mx + 1) 0)) (len := kM u mx + 1) t35 t35 (by simp) (by omega) ?_
   refine c43z ?_
   exact ⟨_, by omega, .v ⟨(i + 1), ⟨rfl, by omega⟩, rfl⟩ (he := t102) (hk := t160)⟩
  intro e1 qe1
  refine .exit ?_
  obtain rfl : i = c.insts.length := by omega
  simp only [yQ]
  change c8 ..
  refine c25z ?_
  exact ⟨_, [], _, (List.append_nil _).symm, by simp, z5.new (fun b hb => by replace hb := s6z hb; rcases hb with rfl | rfl | rfl; exact plnU u; exact plnC c; exact IL _), HM (by simp), by exact ⟨rfl, rfl⟩⟩
theorem c_of (hu : WU u) (wc : WC u c) (hmx : mx < u.c4.length) : CB 13 [.agg [.vec u.globals.length (g9 u.globals), .vec u.c4.length (g5 u.c4), .vec u.procs.length (j9 u.procs), .int .i64 u.main], .agg [.vec c.insts.length (l7 c.insts), .vec c.calls.length (n4 c.calls), .vec c.roots.length (g9 c.roots)], .int .i64 ((mx : Nat) : Int)] h (.vec c.insts.length (aK (oQ u c mx))) := by
  refine .bz Tryz.f13 41 ?_
  have hwl := wc.len
  have hk8 : kM u mx ≤ 8 := qV
  have hk9 : D2 (u.c4.getD mx z6) ≤ 8 := hk8
  have hml := hu.ml
  refine .z ?_
  refine c19z ?_
  refine .ch rfl rfl (OH hu wc hmx) ?_
  refine .n ?_
  refine c5z ?_
  refine .aP (fun m st => ∃ (Sx : List (List Nat)) (ag : Bool), (m = mPas c.insts.length Sx ag ∧ (Low u c mx Sx ∧ (ag = false → Sx = oQ u c mx))) ∧ st = ⟨mkS 41 [(2, AV.int .i64 ((mx : Nat) : Int)), (3, AV.ptr h.length 0 0), (4, AV.ptr (h.length + 1) 0 0), (7, AV.own (h.length + 4) 0 0 c.insts.length), (8, AV.bool ag)], h ++ [⟨0, false, 30, 4, [.vec u.globals.length (g9 u.globals), .vec u.c4.length (g5 u.c4), .vec u.procs.length (j9 u.procs), .int .i64 u.main], 0⟩, ⟨0, false, 34, 3, [.vec c.insts.length (l7 c.insts), .vec c.calls.length (n4 c.calls), .vec c.roots.length (g9 c.roots)], 0⟩, ⟨0, false, 30, 4, [.vec u.globals.length (g9 u.globals), .vec u.c4.length (g5 u.c4), .vec u.procs.length (j9 u.procs), .int .i64 u.main], 0⟩, ⟨0, false, 34, 3, [.vec c.insts.length (l7 c.insts), .vec c.calls.length (n4 c.calls), .vec c.roots.length (g9 c.roots)], 0⟩, ⟨0, false, 22, 1, aK Sx, 0⟩]⟩) (.v ⟨(uK u c mx), true, ⟨rfl, ⟨Low.zero, fun h => by cases h⟩⟩, rfl⟩) ?_ (he := t157)
  rintro m sl h' ⟨Sx, ag, ⟨hm, ⟨hL, hdone⟩⟩, hst⟩
  obtain ⟨rfl, rfl⟩ := St.mk.inj hst; clear hst
  refine c0z ?_
  refine u2z ?_ ?_
  ·intro e1 qe1
   refine c186z ?_
   have hag : ag = true := by assumption
   subst hag
   refine .z ?_
   refine c23z ?_
   refine .aP (fun m st => ∃ (S1 : List (List Nat)) (a1 : Bool) (i : Nat), (m = i ∧ (OfI u c mx Sx S1 a1 i ∧ i ≤ c.insts.length)) ∧ st = ⟨mkS 41 [(2, AV.int .i64 ((mx : Nat) : Int)), (3, AV.ptr h.length 0 0), (4, AV.ptr (h.length + 1) 0 0), (7, AV.own (h.length + 4) 0 0 c.insts.length), (8, AV.bool a1), (9, AV.int .i64 (((i : Nat) : Int) - 1))], h ++ [⟨0, false, 30, 4, [.vec u.globals.length (g9 u.globals), .vec u.c4.length (g5 u.c4), .vec u.procs.length (j9 u.procs), .int .i64 u.main], 0⟩, ⟨0, false, 34, 3, [.vec c.insts.length (l7 c.insts), .vec c.calls.length (n4 c.calls), .vec c.roots.length (g9 c.roots)], 0⟩, ⟨0, false, 30, 4, [.vec u.globals.length (g9 u.globals), .vec u.c4.length (g5 u.c4), .vec u.procs.length (j9 u.procs), .int .i64 u.main], 0⟩, ⟨0, false, 34, 3, [.vec c.insts.length (l7 c.insts), .vec c.calls.length (n4 c.calls), .vec c.roots.length (g9 c.roots)], 0⟩, ⟨0, false, 22, 1, aK S1, 0⟩]⟩) (.v ⟨Sx, false, c.insts.length, ⟨rfl, ⟨OfI.start hL, Nat.le_refl _⟩⟩, rfl⟩) ?_
   rintro m sl h' ⟨S1, a1, i, ⟨hm, ⟨hO, hi⟩⟩, hst⟩
   obtain ⟨rfl, rfl⟩ := St.mk.inj hst; clear hst
   have hS1 : S1.length = c.insts.length := hO.low.tb.1
   refine c0z ?_
   refine u2z ?_ ?_
   ·intro e2 qe2
    refine c2z ?_
    obtain ⟨i, rfl⟩ : ∃ i', i = i' + 1 := ⟨i - 1, by omega⟩
    simp only [L3]
    refine c22z ?_
    refine .ca rfl rfl (c_exitO hu wc hmx hO.low.tb (show i < c.insts.length by omega) (fun l0 => AN hu wc hmx hO.low.tb (show i < c.insts.length by omega) (β := h.length + 4) (g := 0) t35 l0)) ?_
    refine .n ?_
    refine .c7 [2, 3, 4, 7, 8, 9, 10] ?_
    refine c22z ?_
    refine .ca rfl rfl (OF _ _ (by have := (D6 (u := u) (c := c) (m := mx) S1 i).1; omega)) ?_
    refine .n ?_
    refine u2z ?_ ?_
    ·intro e3 qe3
     refine .c7 [2, 3, 4, 7, 9, 10] ?_
     refine c50z ?_
     exact ⟨_, by omega, .v ⟨(S1.set i (exT u c mx S1 i)), true, i, ⟨rfl, ⟨hO.set hu wc (by omega) (by assumption), by omega⟩⟩, rfl⟩ (hk := t91)⟩
    intro e3 qe3
    refine c7z ?_
    refine .c7 [2, 3, 4, 7, 8, 9] ?_
    refine .rz ?_
    exact ⟨_, by omega, .v ⟨S1, a1, i, ⟨rfl, ⟨hO.same (by assumption), by omega⟩⟩, rfl⟩ (hk := t91)⟩
   intro e2 qe2
   refine .exit ?_
   obtain rfl : i = 0 := by omega
   have hlt := mOf_lt hO
   exact ⟨_, by omega, .v ⟨S1, a1, ⟨rfl, ⟨hO.low, fun h => by subst h; exact hO.done hu wc⟩⟩, rfl⟩ (hk := t91)⟩
  intro e1 qe1
  refine c117z ?_
  exact ⟨_, _, rfl, XJ t35 (by omega) hL.tb.1, by (rw [hdone (by assumption)])⟩
def pY (n : Int) : Nat := (min (max n 0) 100).toNat
def AO (n i : Nat) (T : List (List Nat)) : List AV := aK (T.take i) ++ List.replicate (n - i) AV.j5
variable {T : List (List Nat)}
theorem HN : AO n 0 T = List.replicate n AV.j5 := by simp [AO, aK]
theorem HO (N : Nat) : ∀ x ∈ AO n i T, Refs N x := fun x hx => by
  rcases List.mem_append.1 hx with hx | hx
  · exact (IL _).refs _ x hx
  · rw [List.eq_of_mem_replicate hx]; exact .j5
theorem OI (h : T.length = n) : AO n n T = aK T := by
  rw [AO, List.take_of_length_le (by omega), Nat.sub_self]; simp
theorem HP {r : List Nat} (h : T.length = n) (hi : i < n) (hr : T.getD i [] = r) : aK (T.take i) ++ AV.vec r.length (r.map s8) :: List.replicate (n - (i + 1)) AV.j5 = AO n (i + 1) T := by
  rw [AO, List.take_add_one, List.getElem?_eq_getElem (by omega)]
  have e : T[i] = r := by rw [← hr]; simp [List.getD, show i < T.length from by omega]
  rw [e]
  simp [aK, cA]
theorem overN {x : AV} (h : T.length = n) (hi : i < n) : List.take i (AO n i T) ++ x :: List.drop (i + 1) (AO n i T) = aK (T.take i) ++ x :: List.replicate (n - (i + 1)) AV.j5 := by
  have hl : (aK (T.take i)).length = i := by rw [z9, List.length_take]; omega
  rw [AO, List.take_append_of_le_length (by omega), List.take_of_length_le (by omega), List.drop_append, List.drop_of_length_le (by omega), hl, List.nil_append, List.drop_replicate, show n - i - (i + 1 - i) = n - (i + 1) from by omega]
theorem OJ (h : T.length = n) (hi : i ≤ n) : (AO n i T).length = n := by
  rw [AO, List.length_append, z9, List.length_take, List.length_replicate]; omega
attribute [local go_sem] overN OJ
theorem OK (hu : WU u) (wc : WC u c) (hmx : mx < u.c4.length) (n : Int) : CB 25 [.agg [.vec u.globals.length (g9 u.globals), .vec u.c4.length (g5 u.c4), .vec u.procs.length (j9 u.procs), .int .i64 u.main], .agg [.vec c.insts.length (l7 c.insts), .vec c.calls.length (n4 c.calls), .vec c.roots.length (g9 c.roots)], .int .i64 ((mx : Nat) : Int), .int .i64 n] h (.vec c.insts.length (aK (oP u c mx (pY n)))) := by
  refine .bz Tryz.f25 42 ?_
  have hwl := wc.len
  have hk8 : kM u mx ≤ 8 := qV
  have hk9 : D2 (u.c4.getD mx z6) ≤ 8 := hk8
  have hml := hu.ml
  obtain ⟨rn, hrn⟩ : ∃ rn, pY n = rn := ⟨_, rfl⟩
  have hrn2 : rn ≤ 100 := by rw [← hrn]; unfold pY; omega
  refine .z ?_
  refine c19z ?_
  refine .ca rfl rfl (OG hu wc hmx) ?_
  refine .n ?_
  refine c5z ?_
  rw [show (if (100 : Int) < (if (0 : Int) > n then 0 else n) then 100 else (if (0 : Int) > n then 0 else n)) = ((rn : Nat) : Int) from by rw [← hrn]; unfold pY; split <;> split <;> omega]
  refine .aP (fun m st => ∃ (r : Nat), (m = rn - r ∧ (r ≤ rn)) ∧ st = ⟨mkS 42 [(2, AV.int .i64 ((mx : Nat) : Int)), (4, AV.ptr h.length 0 0), (5, AV.ptr (h.length + 1) 0 0), (9, AV.vec c.insts.length (aK (oP u c mx r))), (18, AV.int .i64 ((rn : Nat) : Int)), (19, AV.int .i64 ((r : Nat) : Int))], h ++ [⟨0, false, 30, 4, [.vec u.globals.length (g9 u.globals), .vec u.c4.length (g5 u.c4), .vec u.procs.length (j9 u.procs), .int .i64 u.main], 0⟩, ⟨0, false, 34, 3, [.vec c.insts.length (l7 c.insts), .vec c.calls.length (n4 c.calls), .vec c.roots.length (g9 c.roots)], 0⟩]⟩) (.v ⟨0, ⟨rfl, by omega⟩, rfl⟩) ?_
  rintro m sl h' ⟨r, ⟨hm, hr⟩, hst⟩
  obtain ⟨rfl, rfl⟩ := St.mk.inj hst; clear hst
  have hRl : (IK u c mx (oP u c mx r)).length = c.insts.length := (yO _).1
  refine c18z ?_
  refine u2z ?_ ?_
  ·intro e1 qe1
   refine c2z ?_
   refine c21z ?_
   refine .aP (fun m st => ∃ (i : Nat), (m = c.insts.length - i ∧ (i ≤ c.insts.length)) ∧ st = ⟨mkS 42 [(2, AV.int .i64 ((mx : Nat) : Int)), (4, AV.ptr h.length 0 0), (5, AV.ptr (h.length + 1) 0 0), (9, AV.vec c.insts.length (aK (oP u c mx r))), (10, AV.own (h.length + 2) 0 0 c.insts.length), (18, AV.int .i64 ((rn : Nat) : Int)), (19, AV.int .i64 ((r : Nat) : Int)), (25, AV.int .i64 ((c.insts.length : Nat) : Int)), (26, AV.int .i64 ((i : Nat) : Int))], h ++ [⟨0, false, 30, 4, [.vec u.globals.length (g9 u.globals), .vec u.c4.length (g5 u.c4), .vec u.procs.length (j9 u.procs), .int .i64 u.main], 0⟩, ⟨0, false, 34, 3, [.vec c.insts.length (l7 c.insts), .vec c.calls.length (n4 c.calls), .vec c.roots.length (g9 c.roots)], 0⟩, ⟨0, false, 22, 1, AO c.insts.length i (IK u c mx (oP u c mx r)), 0⟩]⟩) (.v ⟨0, ⟨rfl, by omega⟩, rfl⟩) ?_ (he := by (rw [HN]))
   rintro m sl h' ⟨i, ⟨hm, hi⟩, hst⟩
   obtain ⟨rfl, rfl⟩ := St.mk.inj hst; clear hst
   refine c18z ?_
   refine u2z ?_ ?_
   ·intro e2 qe2
    refine c86z ?_
    refine .r ?_
    refine .e 7 ?_
    refine .ca rfl rfl (c_exitV hu wc hmx (gA r) (show i < c.insts.length by omega) (fun l0 => mB hu wc hmx (gA r) (show i < c.insts.length by omega) _)) ?_
    refine c28z ?_
    refine .c7 [2, 4, 5, 9, 10, 18, 19, 25, 26] ?_
    refine .rz ?_
    exact ⟨_, by omega, .v ⟨(i + 1), ⟨rfl, by omega⟩, rfl⟩ (he := by (rw [HP hRl (by omega) (sB (by omega))]; exact (List.append_nil _).symm)) (hk := by exact (z5.refl _).app rfl ⟨.inl rfl, .inl rfl, .inr (HO _), trivial⟩)⟩
   intro e2 qe2
   refine .exit ?_
   obtain rfl : i = c.insts.length := by omega
   rw [OI hRl]
   refine c8.XQ (t := 10) (γ := (h.length + 2)) (len := c.insts.length) t35 hRl (by omega) (jH (by decide) rfl) ?_
   rw [bB]; simp only [p5, List.set_cons_succ, List.set_cons_zero]
   change c8 ..
   refine c50z ?_
   exact ⟨_, by omega, .v ⟨(r + 1), ⟨rfl, by omega⟩, rfl⟩ (he := t73)⟩
  intro e1 qe1
  refine .exit ?_
  obtain rfl : r = rn := by omega
  refine c218z ?_
  exact .ret (.ex (hq := by (rw [hrn])))
end Go.Proofs.YtfbjlfhjkojmkaaGreat
end
section
namespace Go.Proofs.YtfbjlfhjkojmkaaGreat
open Go.Ab Go.Un
theorem HQ {h : c6} (u : Un) (mx : Nat) : CB 36 [.agg [.str (u.c4.getD mx z6).name, .bool (u.c4.getD mx z6).re, .int .i64 (u.c4.getD mx z6).size]] h (.int .i64 ((kM u mx : Nat) : Int)) := c_capR _
attribute [local go_sem] rd cA u5 aM s4 n7 m6 dS z9 Int.natCast_nonneg Int.natCast_inj dG jX iB jY lG pW L2 wB kA wC AJ mA uB uC pX List.length_set List.length_replicate Int.toNat_natCast_add_one lA wrap64 L3 List.length_map lI
end Go.Proofs.YtfbjlfhjkojmkaaGreat
end
section
namespace Go.Proofs.YtfbjlfhjkojmkaaGreat
open Go.Ab Go.Un
theorem yR {h l : c6} {b0 b1 : Blk} {T : List (List Nat)} {r : List Nat} {g n : Nat} (hn : T.length = n) (hl : n < 100000) : j4 cfg 22 (h ++ (b0 :: b1 :: p6 22 1 g (aK T) :: ⟨0, false, 22, 1, [.vec r.length (r.map s8)], 0⟩ :: l)) (.own (h.length + 2) g 0 n) (.own (h.length + 3) 0 0 1) = some (.own (h.length + 2) (g + 1) 0 (n + 1), h ++ (b0 :: b1 :: p6 22 1 (g + 1) (aK (T ++ [r])) :: ⟨0, false, 22, 1, [.vec r.length (r.map s8)], 0⟩ :: l)) := by
 subst hn
 rw [z8 (C := cfg) (K := 1) (m := 1) (new := [.vec r.length (r.map s8)]) (zs := aK T) t35 rfl (by omega) (by simp [aK]) rfl (by omega) t169 rfl (by decide) (by omega), p5, show aK T ++ [AV.vec r.length (r.map s8)] = aK (T ++ [r]) from by simp [aK, cA]]
 rfl
variable {l : List Int}
theorem L4 {a : Nat} : List.take (l.length - a) (List.drop a (g9 l)) = g9 (l.drop a) := by
 unfold g9
 rw [← List.map_drop, List.take_of_length_le (by simp)]
def E3 (u : Un) (c : Clo) (mx : Nat) (l : List Int) : List (List Nat) := (List.range c.insts.length).map fun i => AW (l.drop (min l.length (i * (kM u mx + 1)))) (kM u mx)
theorem fJ {u : Un} {c : Clo} {mx : Nat} : Tb (kM u mx) c.insts.length (E3 u c mx l) := by
 refine ⟨by simp [E3], fun r hr => ?_⟩
 obtain ⟨i, _, rfl⟩ := List.mem_map.1 hr
 refine ⟨GG _ _, fun x hx => ?_⟩
 obtain ⟨d, _, rfl⟩ := List.mem_map.1 hx
 exact relV_lt _ _ _
theorem OL {u : Un} {c : Clo} {mx i : Nat} (hi : i < c.insts.length) : (E3 u c mx l).take i ++ [AW (l.drop (min l.length (i * (kM u mx + 1)))) (kM u mx)] = (E3 u c mx l).take (i + 1) := by
 have hl : i < (E3 u c mx l).length := by rw [fJ.1]; exact hi
 rw [List.take_add_one, List.getElem?_eq_getElem hl]
 simp [E3]
theorem OM {T : List (List Nat)} {n : Nat} (h : T.length = n) : T.take n = T := List.take_of_length_le (by omega)
attribute [local go_sem] rd cA u5 aM s4 n7 m6 dS z9 Int.natCast_nonneg Int.natCast_inj dG jX iB jY lG pW L2 wB kA wC AJ mA uB uC pX List.length_set List.length_replicate Int.toNat_natCast_add_one lA wrap64 L3 List.length_map lI yR L4 kA
end Go.Proofs.YtfbjlfhjkojmkaaGreat
end
section
namespace Go.Proofs.YtfbjlfhjkojmkaaGreat
open Go.Ab Go.Un
attribute [local go_sem] m6 w9 n7 aB m8 Int.natCast_nonneg Int.natCast_inj List.length_map bN hB_1 hB_2 hB_5 TZ UA UB UC eA yB eF J2
variable {c : Core} {e : Frame} {left I : Int}
theorem RE {l : c6} (hc : OkC c) (hI : OkI c.L I) (hL : c.L.length < 4611686018427387904) (vars : List BA) (hN : vars.length < 1000) (f : Fu) (hp : f.params.length ≤ 2) : CH 75 [.ptr 5 0 0, .agg (dD f), .vec vars.length (w5 vars)] (hB c e I left ++ l) (.agg (P4 (r6 c f.params vars I).1)) (hB c e (r6 c f.params vars I).2 left ++ l) := c_ref (e := ⟨e.b0, e.b1, e.b2, e.z, e.m, e.g, e.rest ++ l⟩) hc hI hL vars hN f hp
variable {n : Nat}
theorem U4 {c : Core} {e : Frame} {I left : Int} {fb rb : Blk} {g : Nat} {zs : List AV} {x1 x2 x3 x4 x5 x6 x7 : AV} (hz : zs.length = n * 7) (hn : n < 1000) :
    j4 cfg 164 (hB c e I left ++ [fb, rb, p6 164 7 g zs, ⟨0, false, 164, 7, [x1, x2, x3, x4, x5, x6, x7], 0⟩]) (.own (e.n + 2) g 0 n) (.own (e.n + 3) 0 0 1) = some (.own (e.n + 2) (g + 1) 0 (n + 1), hB c e I left ++ [fb, rb, p6 164 7 (g + 1) (zs ++ [x1, x2, x3, x4, x5, x6, x7]), ⟨0, false, 164, 7, [x1, x2, x3, x4, x5, x6, x7], 0⟩]) := by
  have hb : (hB c e I left ++ [fb, rb, p6 164 7 g zs, ⟨0, false, 164, 7, [x1, x2, x3, x4, x5, x6, x7], 0⟩])[e.n + 2]? = some (p6 164 7 g zs) := eA
  rw [z8 (C := cfg) (K := 7) (m := 1) (new := [x1, x2, x3, x4, x5, x6, x7]) hb rfl (by omega) hz rfl (by omega) t123 rfl (by decide) (by omega), eF]
  rfl
theorem HR {c : Core} {e : Frame} {I left : Int} {fb rb : Blk} {g : Nat} {zs : List AV} {x1 x2 x3 : AV} {x : Ex} (hz : zs.length = n * 7) (hn : n < 1000) :
    j4 cfg 164 (hB c e I left ++ [fb, rb, p6 164 7 g zs, ⟨0, false, 164, 7, x1 :: x2 :: x3 :: q9 x, 0⟩]) (.own (e.n + 2) g 0 n) (.own (e.n + 3) 0 0 1) = some (.own (e.n + 2) (g + 1) 0 (n + 1), hB c e I left ++ [fb, rb, p6 164 7 (g + 1) (zs ++ x1 :: x2 :: x3 :: q9 x), ⟨0, false, 164, 7, x1 :: x2 :: x3 :: q9 x, 0⟩]) := by
  rw [aW]
  exact U4 hz hn
variable {ps l : List Pm} {vars : List BA} {j : Nat} {J : Int}
theorem args_t (h : j < l.length) (hm : (l.getD j fW).mu = true) : u6 c ps vars (l.drop j) J = (⟨true, (r6 c ps vars J).1, j8⟩ :: (u6 c ps vars (l.drop (j + 1)) (r6 c ps vars J).2).1, (u6 c ps vars (l.drop (j + 1)) (r6 c ps vars J).2).2) := by
  rw [List.drop_eq_getElem_cons h, u6, if_pos (by simpa [List.getD, h] using hm)]
theorem args_f (h : j < l.length) (hm : (l.getD j fW).mu = false) : u6 c ps vars (l.drop j) J = (⟨false, l6, (g6 c vars J).1⟩ :: (u6 c ps vars (l.drop (j + 1)) (g6 c vars J).2).1, (u6 c ps vars (l.drop (j + 1)) (g6 c vars J).2).2) := by
  rw [List.drop_eq_getElem_cons h, u6, if_neg (by rw [show l[j].mu = (l.getD j fW).mu from by simp [List.getD, h], hm]; decide)]
theorem wD {l : List Ar} {a : Ar} : aR (l ++ [a]) = aR l ++ AU a := by simp [aR]
theorem refs_A {l : List Ar} : ∀ x ∈ aR l, Refs n x := by
  intro x hx
  obtain ⟨a, _, hx⟩ := List.mem_flatMap.1 hx
  simp only [AU, aW, List.mem_cons, List.not_mem_nil, or_false] at hx
  rcases hx with rfl | rfl | rfl | rfl | rfl | rfl | rfl
  · exact .bool _
  · exact .str _
  · exact .vec _ _
  · exact .int _ _
  · exact .int _ _
  · exact .str _
  · exact .vec _ _
theorem E4 {J' : Int} {xs : List Ar} {a : Ar} (h : u6 c ps vars l I = (xs ++ (u6 c ps vars (l.drop j) J).1, (u6 c ps vars (l.drop j) J).2)) (hs : u6 c ps vars (l.drop j) J = (a :: (u6 c ps vars (l.drop (j + 1)) J').1, (u6 c ps vars (l.drop (j + 1)) J').2)) : u6 c ps vars l I = ((xs ++ [a]) ++ (u6 c ps vars (l.drop (j + 1)) J').1, (u6 c ps vars (l.drop (j + 1)) J').2) := by
  rw [h, hs]
  simp only [List.append_assoc, List.cons_append, List.nil_append]
section
attribute [local go_sem] eN wrap64 dD P4 U4 HR jU B5 xR
theorem c_args (hc : OkC c) (hI : OkI c.L I) (hL : c.L.length < 4611686018427387904) (vars : List BA) (hN : vars.length < 1000) (f g : Fu) (hp : f.params.length ≤ 2) (hq : g.params.length ≤ 2) : CH 77 [.ptr 5 0 0, .agg (dD f), .agg (dD g), .vec vars.length (w5 vars)] (hB c e I left) (.vec (u6 c f.params vars g.params I).1.length (aR (u6 c f.params vars g.params I).1)) (hB c e (u6 c f.params vars g.params I).2 left) := by
  refine .wz Tryz.f77 40 ?_
  refine c62z ?_
  refine c8.G6 9 rfl ?_
  refine .aP (fun m st => ∃ (j : Nat) (J : Int) (xs : List Ar), (m = g.params.length - j ∧ (j ≤ g.params.length ∧ OkI c.L J ∧ xs.length = j ∧ u6 c f.params vars g.params I = (xs ++ (u6 c f.params vars (g.params.drop j) J).1, (u6 c f.params vars (g.params.drop j) J).2))) ∧ st = ⟨mkS 40 [(0, AV.ptr 5 0 0), (3, AV.vec vars.length (w5 vars)), (5, AV.ptr e.n 0 0), (6, AV.ptr (e.n + 1) 0 0), (9, AV.own (e.n + 2) j 0 j), (10, AV.int .i64 ((j : Nat) : Int))], hB c e J left ++ [⟨0, false, 101, 3, [.str f.name, .vec f.params.length (s3 f.params), .vec f.body.len (n9 f.body)], 0⟩, ⟨0, false, 101, 3, [.str g.name, .vec g.params.length (s3 g.params), .vec g.body.len (n9 g.body)], 0⟩, p6 164 7 j (aR xs)]⟩) (.v ⟨0, I, [], ⟨rfl, ⟨by omega, hI, rfl, rfl⟩⟩, rfl⟩ (hs := t33) (hr := t1)) ?_
  rintro m sl h' ⟨j, J, xs, ⟨hm, ⟨hj, hJ, hal, hA⟩⟩, hst⟩
  obtain ⟨rfl, rfl⟩ := St.mk.inj hst; clear hst
  have hz7 : (aR xs).length = j * 7 := by rw [bS, hal]; omega
  refine c0z ?_
  refine u2z ?_ ?_
  ·intro e1 qe1
   refine c86z ?_
   refine u2z ?_ ?_
   ·intro e2 qe2
    refine .c7 [0, 3, 5, 6, 9, 10] ?_
    refine c147z ?_
    refine .ch rfl rfl (RE hc hJ hL vars hN f hp) ?_
    refine c28z ?_
    refine .c7 [0, 3, 5, 6, 9, 10] ?_
    refine c8.nilsO (β := e.n + 2) (aR (xs ++ [(⟨true, (r6 c f.params vars J).1, j8⟩ : Ar)])) t59 (by rw [wD]; exact (mY.refl _).app MC) ?_
    simp only [eF, List.set_cons_succ, List.set_cons_zero]
    refine .rz ?_
    exact ⟨_, by omega, .v ⟨(j + 1), (r6 c f.params vars J).2, (xs ++ [(⟨true, (r6 c f.params vars J).1, j8⟩ : Ar)]), ⟨rfl, ⟨by omega, (nX hc hJ).2, by simp [hal], E4 hA (args_t (by omega) (by assumption))⟩⟩, rfl⟩ (he := t134) (hl := t24) (hk := t153) (hs := t33) (hr := t1)⟩
   intro e2 qe2
   refine .c7 [0, 3, 5, 6, 9, 10] ?_
   refine .r ?_
   refine .e 3 ?_
   refine .ch rfl rfl (R7 hc hJ hL vars hN) ?_
   refine c28z ?_
   refine c8.nilsO (β := e.n + 2) (aR (xs ++ [(⟨false, l6, (g6 c vars J).1⟩ : Ar)])) t59 (by rw [wD]; exact (mY.refl _).app EU) ?_
   simp only [eF, List.set_cons_succ, List.set_cons_zero]
   refine .rz ?_
   exact ⟨_, by omega, .v ⟨(j + 1), (g6 c vars J).2, (xs ++ [(⟨false, l6, (g6 c vars J).1⟩ : Ar)]), ⟨rfl, ⟨by omega, (hC hJ).2, by simp [hal], E4 hA (args_f (by omega) (by assumption))⟩⟩, rfl⟩ (he := t134) (hl := t24) (hk := t153) (hs := t33) (hr := t1)⟩
  intro e1 qe1
  refine c10z ?_
  refine .c7 [9] ?_
  refine c25z ?_
  exact ⟨hB _ _ _ _, _, .vec xs.length (aR xs), rfl, t63, fG, by (show iF _ (hB c e J left ++ _) 6 (.own (e.n + 2) j 0 j) = _; rw [bN, dV, if_neg (by omega), hal]; exact iQ eA (by omega) (by rw [bS, hal]; omega) (by omega) frz_A), by refine ⟨?_, ?_⟩ <;> (rw [hA, List.drop_of_length_le (by omega)]; simp only [u6, List.append_nil])⟩
end
end Go.Proofs.YtfbjlfhjkojmkaaGreat
end
section
namespace Go.Proofs.YtfbjlfhjkojmkaaGreat
open Go.Ab Go.Un
theorem c_argsA {c : Core} {e : Frame} {left I : Int} {l : c6} (hc : OkC c) (hI : OkI c.L I) (hL : c.L.length < 4611686018427387904) (vars : List BA) (hN : vars.length < 1000) (f g : Fu) (hp : f.params.length ≤ 2) (hq : g.params.length ≤ 2) : CH 77 [.ptr 5 0 0, .agg (dD f), .agg (dD g), .vec vars.length (w5 vars)] (hB c e I left ++ l) (.vec (u6 c f.params vars g.params I).1.length (aR (u6 c f.params vars g.params I).1)) (hB c e (u6 c f.params vars g.params I).2 left ++ l) := c_args (e := ⟨e.b0, e.b1, e.b2, e.z, e.m, e.g, e.rest ++ l⟩) hc hI hL vars hN f g hp hq
theorem sealC_n {l : List BA} : o5 pB (w5 l) = some (w5 l) := by
 induction l with
 | nil => rfl
 | cons x l ih =>
  have e : pB (.str x) = some (.str x) := rfl
  simp only [w5, List.map_cons, o5, e] at ih ⊢
  rw [ih]
variable {β : Nat}
theorem ON {H : c6} {b : Blk} (h : H[β]? = some b) : H.set β b = H := by
 obtain ⟨h1, h2⟩ := List.getElem?_eq_some_iff.1 h
 rw [← h2]
 exact List.set_getElem_self h1
variable {g : Nat}
theorem G4 {f : FuncId} {args args' : List AV} {H : c6} {Q : AV → c6 → Prop} {vs : List BA} (hb : H[β]? = some ⟨g, false, 9, 1, w5 vs, vs.length⟩) (ha : W4 β g 0 vs.length (w5 vs) args' args) (r : CallA Tryz.prog cfg f args' H Q) : CallA Tryz.prog cfg f args H Q := by
 have e : H.set β (dL ⟨g, false, 9, 1, w5 vs, vs.length⟩ (0 + vs.length * 1)) = H := by
  rw [show dL ⟨g, false, 9, 1, w5 vs, vs.length⟩ (0 + vs.length * 1) = ⟨g, false, 9, 1, w5 vs, vs.length⟩ from by simp [dL]]
  exact ON hb
 refine CallA.viewArg (β := β) (off := 0) (len := vs.length) (cs := w5 vs) hb rfl (by simp [w9]) ?_ ha (by rw [e]; exact r)
 simp only [List.drop_zero, Nat.mul_one]
 rw [List.take_of_length_le t146]
 exact sealC_n
theorem raise {c : Code} {sl : List AV} {h : c6} {Q : Exit → St → Prop} {k : Nat} {b : Blk} (hb : h[β]? = some b) (hk : b.frz ≤ k) (r : c8 Tryz.prog cfg c ⟨sl, h.set β ⟨b.gen, b.bL, b.elem, b.esz, b.cells, k⟩⟩ Q) : c8 Tryz.prog cfg c ⟨sl, h⟩ Q := by
 refine c8.step _ (fun B φ w i => ?_) r
 have := nK k i hb
 have e : dL b k = ⟨b.gen, b.bL, b.elem, b.esz, b.cells, k⟩ := by
  simp only [dL, Nat.max_eq_right hk]
 rw [e] at this
 exact this
section
variable {c : Core} {e : Frame} {I left : Int} {l : c6} {fb : Blk} {gv : Nat} {vs : List BA}
theorem hB_v : (hB c e I left ++ (fb :: ⟨gv, false, 9, 1, w5 vs, vs.length⟩ :: l))[e.n + 1]? = some ⟨gv, false, 9, 1, w5 vs, vs.length⟩ := eA
theorem mC (hc : OkC c) (hI : OkI c.L I) (hL : c.L.length < 4611686018427387904) (hN : vs.length < 1000) : CH 76 [.ptr 5 0 0, .own (e.n + 1) gv 0 vs.length] (hB c e I left ++ (fb :: ⟨gv, false, 9, 1, w5 vs, vs.length⟩ :: l)) (.agg (q9 (g6 c vs I).1)) (hB c e (g6 c vs I).2 left ++ (fb :: ⟨gv, false, 9, 1, w5 vs, vs.length⟩ :: l)) :=
 G4 (args' := [.ptr 5 0 0, .vec vs.length (w5 vs)]) hB_v ⟨.inl rfl, .inr ⟨rfl, rfl⟩, trivial⟩ (R7 hc hI hL vs hN)
theorem U5 (hc : OkC c) (hI : OkI c.L I) (hL : c.L.length < 4611686018427387904) (hN : vs.length < 1000) (f : Fu) (hp : f.params.length ≤ 2) : CH 75 [.ptr 5 0 0, .agg (dD f), .own (e.n + 1) gv 0 vs.length] (hB c e I left ++ (fb :: ⟨gv, false, 9, 1, w5 vs, vs.length⟩ :: l)) (.agg (P4 (r6 c f.params vs I).1)) (hB c e (r6 c f.params vs I).2 left ++ (fb :: ⟨gv, false, 9, 1, w5 vs, vs.length⟩ :: l)) :=
 G4 (args' := [.ptr 5 0 0, .agg (dD f), .vec vs.length (w5 vs)]) hB_v ⟨.inl rfl, .inl rfl, .inr ⟨rfl, rfl⟩, trivial⟩ (RE hc hI hL vs hN f hp)
theorem HS (hc : OkC c) (hI : OkI c.L I) (hL : c.L.length < 4611686018427387904) (hN : vs.length < 1000) (f g : Fu) (hp : f.params.length ≤ 2) (hq : g.params.length ≤ 2) : CH 77 [.ptr 5 0 0, .agg (dD f), .agg (dD g), .own (e.n + 1) gv 0 vs.length] (hB c e I left ++ (fb :: ⟨gv, false, 9, 1, w5 vs, vs.length⟩ :: l)) (.vec (u6 c f.params vs g.params I).1.length (aR (u6 c f.params vs g.params I).1)) (hB c e (u6 c f.params vs g.params I).2 left ++ (fb :: ⟨gv, false, 9, 1, w5 vs, vs.length⟩ :: l)) :=
 G4 (args' := [.ptr 5 0 0, .agg (dD f), .agg (dD g), .vec vs.length (w5 vs)]) hB_v ⟨.inl rfl, .inl rfl, .inl rfl, .inr ⟨rfl, rfl⟩, trivial⟩ (c_argsA hc hI hL vs hN f g hp hq)
def E5 (c : Core) (f : Fu) (fu : Nat) (left : Int) : Prop := ∀ {e : Frame} (I l' : Int) (vs all : List BA) (d m : Int), OkI c.L I → 0 ≤ l' → l' < left → 0 ≤ d → d ≤ 100 → 0 ≤ m → m ≤ 100 → (∀ x ∈ vs, x ∈ all) → Fr l'.toNat all → vs.length + l'.toNat ≤ 500 →
 CallA Tryz.prog cfg 48 [.ptr 5 0 0, .agg (dD f), .vec vs.length (w5 vs), .int .i64 d, .int .i64 m] (hB c e I l') (fun y' h' => y' = .vec (g0 c f.params fu vs d m I l').1.len (n9 (g0 c f.params fu vs d m I l').1) ∧ h' = hB c e (g0 c f.params fu vs d m I l').2.1 (g0 c f.params fu vs d m I l').2.2)
theorem E5.V {f : Fu} {fu : Nat} {left0 : Int} (h : E5 c f fu left0) (l' : Int) (all : List BA) (d m : Int) (hI : OkI c.L I) (h1 : 0 ≤ l') (h2 : l' < left0) (h3 : 0 ≤ d) (h4 : d ≤ 100) (h5 : 0 ≤ m) (h6 : m ≤ 100) (h7 : ∀ x ∈ vs, x ∈ all) (h8 : Fr l'.toNat all) (h9 : vs.length + l'.toNat ≤ 500) :
  CallA Tryz.prog cfg 48 [.ptr 5 0 0, .agg (dD f), .own (e.n + 1) gv 0 vs.length, .int .i64 d, .int .i64 m] (hB c e I l' ++ (fb :: ⟨gv, false, 9, 1, w5 vs, vs.length⟩ :: l)) (fun y' h' => y' = .vec (g0 c f.params fu vs d m I l').1.len (n9 (g0 c f.params fu vs d m I l').1) ∧ h' = hB c e (g0 c f.params fu vs d m I l').2.1 (g0 c f.params fu vs d m I l').2.2 ++ (fb :: ⟨gv, false, 9, 1, w5 vs, vs.length⟩ :: l)) :=
 G4 (args' := [.ptr 5 0 0, .agg (dD f), .vec vs.length (w5 vs), .int .i64 d, .int .i64 m]) hB_v ⟨.inl rfl, .inl rfl, .inr ⟨rfl, rfl⟩, .inl rfl, .inl rfl, trivial⟩ (h (e := ⟨e.b0, e.b1, e.b2, e.z, e.m, e.g, e.rest ++ (fb :: ⟨gv, false, 9, 1, w5 vs, vs.length⟩ :: l)⟩) I l' vs all d m hI h1 h2 h3 h4 h5 h6 h7 h8 h9)
def gO (g n : Nat) : Nat := if n = 0 then g else g + 1
theorem OO (hn : vs.length < 1000) : j4 cfg 9 (hB c e I left ++ [fb, ⟨0, false, 9, 1, [], 0⟩]) (.own (e.n + 1) 0 0 0) (.vec vs.length (w5 vs)) = some (.own (e.n + 1) (gO 0 vs.length) 0 vs.length, hB c e I left ++ [fb, ⟨gO 0 vs.length, false, 9, 1, w5 vs, 0⟩]) := by
 have e1 : cfg.sz 9 = 1 := rfl
 have e2 : (cfg.ti 9).bytes = 16 := rfl
 have hm : vs.length ≤ maxLen := by
  have : (1000 : Nat) ≤ maxLen := by decide
  omega
 have hb : vs.length * 16 ≤ 140737488355328 := by omega
 cases vs with
 | nil => simp [j4, rd, lenOf, e1, e2, eA, gO, w5]
 | cons x vs =>
  have h0 : (w5 (x :: vs)).length = vs.length + 1 := by simp [w5]
  simp only [List.length_cons] at hm hb
  simp [j4, rd, lenOf, e1, e2, eA, gO, h0, hm, hb, eF]
variable {t : Blk}
theorem app_vs {O p : Blk} {x : BA} (hn : vs.length < 1000) : j4 cfg 9 (hB c e I left ++ [fb, ⟨gv, false, 9, 1, w5 vs, vs.length⟩, O, t, p, ⟨0, false, 9, 1, [.str x], 0⟩]) (.own (e.n + 1) gv 0 vs.length) (.own (e.n + 5) 0 0 1) = some (.own (e.n + 1) (gv + 1) 0 (vs.length + 1), hB c e I left ++ [fb, ⟨gv + 1, false, 9, 1, w5 (vs ++ [x]), vs.length⟩, O, t, p, ⟨0, false, 9, 1, [.str x], 0⟩]) := by
 have e1 : cfg.sz 9 = 1 := rfl
 have e2 : (cfg.ti 9).bytes = 16 := rfl
 have hm : vs.length + 1 ≤ maxLen := by
  have : (1001 : Nat) ≤ maxLen := by decide
  omega
 have hb : (vs.length + 1) * 16 ≤ 140737488355328 := by omega
 have ht : List.take vs.length (w5 vs) = w5 vs := List.take_of_length_le t146
 have hnl : ¬ vs.length + 1 ≤ vs.length := by omega
 simp [j4, rd, lenOf, e1, e2, eA, w9, hm, hb, eF, ht, hnl, iR]
variable {n : Nat} {zs : List AV}
theorem OP {vb t : Blk} {g : Nat} {x1 x2 x3 x4 x5 x6 x7 x8 x9 x10 x11 : AV} (hz : zs.length = n * 11) (hn : n < 1000) :
  j4 cfg 140 (hB c e I left ++ [fb, vb, p6 140 11 g zs, t, ⟨0, false, 140, 11, [x1, x2, x3, x4, x5, x6, x7, x8, x9, x10, x11], 0⟩]) (.own (e.n + 2) g 0 n) (.own (e.n + 4) 0 0 1) = some (.own (e.n + 2) (g + 1) 0 (n + 1), hB c e I left ++ [fb, vb, p6 140 11 (g + 1) (zs ++ [x1, x2, x3, x4, x5, x6, x7, x8, x9, x10, x11]), t, ⟨0, false, 140, 11, [x1, x2, x3, x4, x5, x6, x7, x8, x9, x10, x11], 0⟩]) := by
 have hb : (hB c e I left ++ [fb, vb, p6 140 11 g zs, t, ⟨0, false, 140, 11, [x1, x2, x3, x4, x5, x6, x7, x8, x9, x10, x11], 0⟩])[e.n + 2]? = some (p6 140 11 g zs) := eA
 rw [z8 (C := cfg) (K := 11) (m := 1) (new := [x1, x2, x3, x4, x5, x6, x7, x8, x9, x10, x11]) hb rfl (by omega) hz rfl (by omega) t123 rfl (by decide) (by omega), eF]
 rfl
theorem OQ {vb t u : Blk} {g : Nat} {x1 x2 x3 x4 x5 x6 x7 x8 x9 x10 x11 : AV} (hz : zs.length = n * 11) (hn : n < 1000) :
  j4 cfg 140 (hB c e I left ++ [fb, vb, p6 140 11 g zs, t, u, ⟨0, false, 140, 11, [x1, x2, x3, x4, x5, x6, x7, x8, x9, x10, x11], 0⟩]) (.own (e.n + 2) g 0 n) (.own (e.n + 5) 0 0 1) = some (.own (e.n + 2) (g + 1) 0 (n + 1), hB c e I left ++ [fb, vb, p6 140 11 (g + 1) (zs ++ [x1, x2, x3, x4, x5, x6, x7, x8, x9, x10, x11]), t, u, ⟨0, false, 140, 11, [x1, x2, x3, x4, x5, x6, x7, x8, x9, x10, x11], 0⟩]) := by
 have hb : (hB c e I left ++ [fb, vb, p6 140 11 g zs, t, u, ⟨0, false, 140, 11, [x1, x2, x3, x4, x5, x6, x7, x8, x9, x10, x11], 0⟩])[e.n + 2]? = some (p6 140 11 g zs) := eA
 rw [z8 (C := cfg) (K := 11) (m := 1) (new := [x1, x2, x3, x4, x5, x6, x7, x8, x9, x10, x11]) hb rfl (by omega) hz rfl (by omega) t123 rfl (by decide) (by omega), eF]
 rfl
theorem U6 {vb t u v : Blk} {g : Nat} {x1 x2 x3 x4 x5 x6 x7 x8 x9 x10 x11 : AV} (hz : zs.length = n * 11) (hn : n < 1000) :
  j4 cfg 140 (hB c e I left ++ [fb, vb, p6 140 11 g zs, t, u, v, ⟨0, false, 140, 11, [x1, x2, x3, x4, x5, x6, x7, x8, x9, x10, x11], 0⟩]) (.own (e.n + 2) g 0 n) (.own (e.n + 6) 0 0 1) = some (.own (e.n + 2) (g + 1) 0 (n + 1), hB c e I left ++ [fb, vb, p6 140 11 (g + 1) (zs ++ [x1, x2, x3, x4, x5, x6, x7, x8, x9, x10, x11]), t, u, v, ⟨0, false, 140, 11, [x1, x2, x3, x4, x5, x6, x7, x8, x9, x10, x11], 0⟩]) := by
 have hb : (hB c e I left ++ [fb, vb, p6 140 11 g zs, t, u, v, ⟨0, false, 140, 11, [x1, x2, x3, x4, x5, x6, x7, x8, x9, x10, x11], 0⟩])[e.n + 2]? = some (p6 140 11 g zs) := eA
 rw [z8 (C := cfg) (K := 11) (m := 1) (new := [x1, x2, x3, x4, x5, x6, x7, x8, x9, x10, x11]) hb rfl (by omega) hz rfl (by omega) t123 rfl (by decide) (by omega), eF]
 rfl
variable {m : Nat} {cs : List AV}
theorem HT {vb t u s : Blk} {g : Nat} (hz : zs.length = n * 11) (hcs : cs.length = m * 11) (hn : n < 1000) (hm : m < 1000) :
  j4 cfg 140 (hB c e I left ++ [fb, vb, p6 140 11 g zs, t, u, s]) (.own (e.n + 2) g 0 n) (.vec m cs) = some (.own (e.n + 2) (gO g m) 0 (n + m), hB c e I left ++ [fb, vb, p6 140 11 (gO g m) (zs ++ cs), t, u, s]) := by
 have hb : (hB c e I left ++ [fb, vb, p6 140 11 g zs, t, u, s])[e.n + 2]? = some (p6 140 11 g zs) := eA
 by_cases h0 : m = 0
 ·subst h0
  obtain rfl : cs = [] := List.length_eq_zero_iff.1 (by simpa using hcs)
  have e1 : cfg.sz 140 = 11 := rfl
  have e2 : (cfg.ti 140).bytes = 192 := rfl
  have hmx : n ≤ maxLen := by
   have : (1000 : Nat) ≤ maxLen := by decide
   omega
  have hbd : n * 192 ≤ 140737488355328 := by omega
  simp [j4, rd, lenOf, e1, e2, hb, O3, gO, hmx, hbd]
 ·rw [z8 (C := cfg) (K := 11) (m := m) (new := cs) hb rfl (by omega) hz hcs (by omega) rfl rfl (by decide) (by omega), eF]
  simp only [gO, h0, if_false]
  rfl
theorem OR {vb t u s : Blk} {g : Nat} {y1 y2 y3 y4 y5 y6 y7 y8 y9 y10 y11 : AV} (hz : zs.length = n * 11) (hcs : cs.length = m * 11) (hn : n < 900) (hm : m < 1000) :
  j4 cfg 140 (hB c e I left ++ [fb, vb, p6 140 11 g (zs ++ [y1, y2, y3, y4, y5, y6, y7, y8, y9, y10, y11]), t, u, s]) (.own (e.n + 2) g 0 (n + 1)) (.vec m cs) = some (.own (e.n + 2) (gO g m) 0 (n + 1 + m), hB c e I left ++ [fb, vb, p6 140 11 (gO g m) ((zs ++ [y1, y2, y3, y4, y5, y6, y7, y8, y9, y10, y11]) ++ cs), t, u, s]) :=
 HT (by rw [List.length_append, hz]; simp; omega) hcs (by omega) hm
theorem OS {vb t u v : Blk} {g : Nat} {y1 y2 y3 y4 y5 y6 y7 y8 y9 y10 y11 x1 x2 x3 x4 x5 x6 x7 x8 x9 x10 x11 : AV} (hz : zs.length = n * 11) (hcs : cs.length = m * 11) (hn : n < 400) (hm : m < 400) :
  j4 cfg 140 (hB c e I left ++ [fb, vb, p6 140 11 g (zs ++ y1 :: y2 :: y3 :: y4 :: y5 :: y6 :: y7 :: y8 :: y9 :: y10 :: y11 :: cs), t, u, v, ⟨0, false, 140, 11, [x1, x2, x3, x4, x5, x6, x7, x8, x9, x10, x11], 0⟩]) (.own (e.n + 2) g 0 (n + 1 + m)) (.own (e.n + 6) 0 0 1) = some (.own (e.n + 2) (g + 1) 0 (n + 1 + m + 1), hB c e I left ++ [fb, vb, p6 140 11 (g + 1) ((zs ++ y1 :: y2 :: y3 :: y4 :: y5 :: y6 :: y7 :: y8 :: y9 :: y10 :: y11 :: cs) ++ [x1, x2, x3, x4, x5, x6, x7, x8, x9, x10, x11]), t, u, v, ⟨0, false, 140, 11, [x1, x2, x3, x4, x5, x6, x7, x8, x9, x10, x11], 0⟩]) :=
 U6 (by rw [List.length_append, hz]; simp only [List.length_cons, hcs]; omega) (by omega)
end
theorem RF {n : Nat} : ∀ (s : Sl), ∀ x ∈ n9 s, Refs n x
 | .nil, x, hx => by simp [n9] at hx
 | .cons k nm e r as' th el rest, x, hx => by
  simp only [n9, aW, List.cons_append, List.nil_append, List.mem_cons] at hx
  rcases hx with rfl | rfl | rfl | rfl | rfl | rfl | rfl | rfl | rfl | rfl | rfl | hx
  ·exact .int _ _
  ·exact .str _
  ·exact .int _ _
  ·exact .int _ _
  ·exact .str _
  ·exact .vec _ _
  ·exact .str _
  ·exact .vec _ _
  ·exact .vec _ _
  ·exact .vec _ _
  ·exact .vec _ _
  ·exact RF rest x hx
theorem frz_S {n d : Nat} {H : c6} : ∀ (s : Sl), o5 (kD n H (d + 1)) (n9 s) = some (n9 s)
 | .nil => rfl
 | .cons k nm e r as' th el rest => by
  have ih := frz_S (n := n) (d := d) (H := H) rest
  simp only [n9, aW, List.cons_append, List.nil_append, o5, rF, nR, lQ, ih]
theorem aG {k : Int} {nm : BA} {x : Ex} {r : Rf} {xs : List Ar} {th el : Sl} {a b c d f : AV} (ha : a = .vec x.args.length (l8 x.args) ∨ (a = .j5 ∧ x.args = [])) (hb : b = .vec r.idx.length (l8 r.idx) ∨ (b = .j5 ∧ r.idx = [])) (hc : c = .vec xs.length (aR xs) ∨ (c = .j5 ∧ xs = []))
  (hd : d = .vec th.len (n9 th) ∨ (d = .j5 ∧ th = .nil)) (hf : f = .vec el.len (n9 el) ∨ (f = .j5 ∧ el = .nil)) :
  mY (n9 (row k nm x r xs th el)) [.int .i64 k, .str nm, .int .i64 x.op, .int .i64 x.num, .str x.name, a, .str r.name, b, c, d, f] := by
 simp only [row, n9, aW, List.cons_append, List.nil_append]
 refine ⟨.inl rfl, .inl rfl, .inl rfl, .inl rfl, .inl rfl, ?_, .inl rfl, ?_, ?_, ?_, ?_, trivial⟩
 ·rcases ha with rfl | ⟨rfl, h⟩
  ·exact .inl rfl
  ·rw [h]; exact .inr ⟨rfl, rfl⟩
 ·rcases hb with rfl | ⟨rfl, h⟩
  ·exact .inl rfl
  ·rw [h]; exact .inr ⟨rfl, rfl⟩
 ·rcases hc with rfl | ⟨rfl, h⟩
  ·exact .inl rfl
  ·rw [h]; exact .inr ⟨rfl, rfl⟩
 ·rcases hd with rfl | ⟨rfl, h⟩
  ·exact .inl rfl
  ·rw [h]; exact .inr ⟨rfl, rfl⟩
 ·rcases hf with rfl | ⟨rfl, h⟩
  ·exact .inl rfl
  ·rw [h]; exact .inr ⟨rfl, rfl⟩
theorem iX {k : Int} {nm : BA} {x : Ex} {r : Rf} {xs : List Ar} {th el : Sl} : n9 (row k nm x r xs th el) = [.int .i64 k, .str nm, .int .i64 x.op, .int .i64 x.num, .str x.name, .vec x.args.length (l8 x.args), .str r.name, .vec r.idx.length (l8 r.idx), .vec xs.length (aR xs), .vec th.len (n9 th), .vec el.len (n9 el)] := by
 simp only [row, n9, aW, List.cons_append, List.nil_append]
theorem wrap8 {n : Int} (h1 : 0 ≤ n) (h2 : n < 256) : IntKind.wrap .u8 n = n := by
 unfold IntKind.wrap
 have e1 : (2 : Int) ^ IntKind.bits .u8 = 256 := rfl
 have e3 : IntKind.signed .u8 = false := rfl
 simp only [e1, e3, Bool.false_and, Bool.false_eq_true, if_false]
 omega
theorem vnm_eq {l : Int} (h0 : 0 ≤ l) (h1 : l < 24) : (⟨#[118]⟩ : BA) ++ (⟨#[UInt8.ofNat (97 + l.tmod 26).toNat, UInt8.ofNat (97 + (l.tdiv 26).tmod 26).toNat]⟩ : BA) = vnm l.toNat := by
 obtain ⟨n, rfl⟩ := Int.eq_ofNat_of_zero_le h0
 have key : ∀ n : Fin 24, (⟨#[118]⟩ : BA) ++ (⟨#[UInt8.ofNat (97 + ((n.1 : Nat) : Int).tmod 26).toNat, UInt8.ofNat (97 + (((n.1 : Nat) : Int).tdiv 26).tmod 26).toNat]⟩ : BA) = vnm n.1 := by decide +kernel
 exact key ⟨n, by omega⟩
theorem tm26 {l : Int} (h0 : 0 ≤ l) : 0 ≤ l.tmod 26 ∧ l.tmod 26 < 26 := ⟨Int.tmod_nonneg _ h0, Int.tmod_lt_of_pos _ (by omega)⟩
theorem td26 {l : Int} (h0 : 0 ≤ l) (h1 : l < 24) : l.tdiv 26 = 0 := by
 obtain ⟨n, rfl⟩ := Int.eq_ofNat_of_zero_le h0
 have key : ∀ n : Fin 24, (((n.1 : Nat) : Int).tdiv 26) = 0 := by decide
 exact key ⟨n, by omega⟩
end Go.Proofs.YtfbjlfhjkojmkaaGreat
end
