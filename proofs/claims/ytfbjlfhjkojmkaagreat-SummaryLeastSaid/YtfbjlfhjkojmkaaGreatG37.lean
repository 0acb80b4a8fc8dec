/- My own texts, put together by a program of mine. -/
import Derived.Test.YtfbjlfhjkojmkaaGreatG36
set_option linter.unusedSimpArgs false
set_option linter.unusedVariables false
set_option maxRecDepth 100000
set_option maxHeartbeats 4000000
section
namespace Go.Proofs.YtfbjlfhjkojmkaaGreat
open Go.Ab Go.Un
variable {i : Nat}
theorem pP {l : List (List Int)} (h : i < l.length) : List.take 1 (List.drop i (m7 l)) = [.vec (l.getD i []).length (g7 (l.getD i []))] := by
  unfold m7
  rw [← List.map_drop, ← List.map_take, List.drop_eq_getElem_cons h, List.take_succ_cons, List.take_zero]
  simp [List.getD, h]
variable {c : Clo}
theorem jU (h : i < c.insts.length) : List.take 2 (List.drop (i * 2) (l6 c.insts)) = [.int .i64 (itI c i).proc, .vec (itI c i).j4.length (g7 (itI c i).j4)] := CL h
variable {k : Nat}
theorem K1 : (((k + 1 : Nat) : Int) - 1) = ((k : Nat) : Int) := by omega
theorem pQ (n : Nat) : (List.replicate n [AV.j6]).flatten = List.replicate n AV.j6 := by
  induction n with
  | zero => rfl
  | succ n ih => rw [List.replicate_succ, List.flatten_cons, ih]; rfl
variable {r : List Nat}
theorem vU {T : List (List Nat)} (h : i < T.length) : List.take i (u6 T) ++ AV.vec r.length (r.map s9) :: List.drop (i + 1) (u6 T) = u6 (T.set i r) := overT h
theorem jV : (1 ≤ maxLen) = True := eq_true (by decide)
theorem overT0 {T : List (List Nat)} (h : 0 < T.length) : bE r :: List.drop 1 (u6 T) = u6 (T.set 0 r) := overT (i := 0) h
variable {n : Nat} {Z : List Nat}
theorem vV (h : 0 < n) : AV.vec r.length (r.map s9) :: List.drop 1 (u6 (List.replicate n Z)) = u6 ((List.replicate n Z).set 0 r) := overT0 (by rw [List.length_replicate]; exact h)
variable {h : c6} {u : Un} {mx pc : Nat}
theorem RE (hu : WU u) (wc : WC u c) (hmx : mx < u.c4.length) (hi : i < c.insts.length) (hp : pc < fW u c i) : CB 39 [.agg [.vec u.globals.length (g7 u.globals), .vec u.c4.length (g5 u.c4), .vec u.procs.length (j8 u.procs), .int .i64 u.main], .agg [.int .i64 (itI c i).proc, .vec (itI c i).j4.length (g7 (itI c i).j4)], .int .i64 ((pc : Nat) : Int), .int .i64 ((mx : Nat) : Int)] h (bE (dhN (kM u mx) (chI (itI c i) (mG u c i pc) mx))) :=
  (c_rel hu (gZ wc hi) hp hmx).mono fun y k hq => ⟨hq.1.trans (S8 _ _), hq.2⟩
theorem c_idN (k : Nat) (hk : k ≤ 8) : CB 70 [.int .i64 ((k : Nat) : Int)] h (bE (dhN k 0)) :=
  (c_id k hk).mono fun y k hq => ⟨hq.1.trans (S8 _ _), hq.2⟩
def yO (n i : Nat) (Z : List Nat) : List AV := u6 (List.replicate i Z) ++ List.replicate (n - i) AV.j6
theorem lY (h : i ≤ n) : (yO n i Z).length = n := by simp [yO, aT]; omega
theorem uF : yO n 0 Z = List.replicate n AV.j6 := by simp [yO, u6]
theorem yP : yO n n Z = u6 (List.replicate n Z) := by simp [yO]
theorem HC : List.take i (yO n i Z) = u6 (List.replicate i Z) := by
  unfold yO
  rw [List.take_append_of_le_length (by simp [aT]), List.take_of_length_le (by simp [aT])]
theorem HD : List.drop (i + 1) (yO n i Z) = List.replicate (n - (i + 1)) AV.j6 := by
  unfold yO
  rw [List.drop_append, List.drop_of_length_le (by simp [aT]), aT, List.length_replicate, List.nil_append, List.drop_replicate]
  congr 1
  omega
theorem Z5 {x : AV} : List.take i (yO n i Z) ++ x :: List.drop (i + 1) (yO n i Z) = u6 (List.replicate i Z) ++ x :: List.replicate (n - (i + 1)) AV.j6 := by rw [HC, HD]
theorem HE : u6 (List.replicate i Z) ++ bE Z :: List.replicate (n - (i + 1)) AV.j6 = yO n (i + 1) Z := by
  unfold yO
  rw [List.replicate_succ', u6, u6, List.map_append, List.append_assoc]
  rfl
theorem Z6 : u6 (List.replicate i (List.replicate (k + 1) 0)) ++ AV.vec (k + 1) ((List.replicate (k + 1) 0).map s9) :: List.replicate (n - (i + 1)) AV.j6 = yO n (i + 1) (List.replicate (k + 1) 0) := by
  rw [← HE]
  simp [bE]
theorem uG (N : Nat) : ∀ x ∈ yO n i Z, Refs N x := fun x hx => by
  rcases List.mem_append.1 hx with hx | hx
  · exact (IL _).refs _ x hx
  · rw [List.eq_of_mem_replicate hx]; exact .j6
theorem c9.XI {c : Code} {sl : List AV} {H : c6} {Q : Exit → St → Prop} {β γ len e e' : Nat} {A R : List AV} {zs : List Nat} (hβ : H[β]? = some ⟨0, false, e, 1, A ++ .own γ 0 0 len :: R, 0⟩) (hγ : H[γ]? = some ⟨0, false, e', 1, zs.map s9, 0⟩) (hz : zs.length = len) (hne : β ≠ γ)
    (r : c9 Tryz.prog cfg c ⟨sl, (H.set γ ⟨0, false, e', 1, zs.map s9, len⟩).set β ⟨0, false, e, 1, A ++ .vec len (zs.map s9) :: R, 0⟩⟩ Q) : c9 Tryz.prog cfg c ⟨sl, H⟩ Q := by
  subst hz
  refine c9.F2 (γ := γ) (β := β) (k := A.length) (off := 0) (len := zs.length) (cs := zs.map s9) hγ rfl (by simp) ?_ hβ hne (by simp) ?_
  · show o6 oV (List.take (zs.length * 1) (List.drop 0 (zs.map s9))) = _
    rw [List.drop_zero, Nat.mul_one, List.take_of_length_le (by simp)]
    exact (plnN zs).SE
  · have e1 : dI ⟨0, false, e', 1, zs.map s9, 0⟩ (0 + zs.length * 1) = ⟨0, false, e', 1, zs.map s9, zs.length⟩ := by
      simp only [dI, Nat.zero_add, Nat.mul_one, Nat.zero_max]
    have e2 : (A ++ AV.own γ 0 0 zs.length :: R).set A.length (.vec zs.length (zs.map s9)) = A ++ .vec zs.length (zs.map s9) :: R := by simp
    show c9 Tryz.prog cfg c ⟨sl, (H.set γ (dI ⟨0, false, e', 1, zs.map s9, 0⟩ (0 + zs.length * 1))).set β ⟨0, false, e, 1, (A ++ AV.own γ 0 0 zs.length :: R).set A.length (.vec zs.length (zs.map s9)), 0⟩⟩ Q
    rw [e1, e2]
    exact r
def D5 (W : List Nat) (l q : Nat) : List Nat := if l + 1 ≤ W.length then W.set l q else W.take l ++ [q]
def HF (W : List Nat) (g l : Nat) : Nat := if l + 1 ≤ W.length then g else g + 1
variable {W : List Nat} {q : Nat}
theorem Z7 {l : Nat} (h : l ≤ W.length) : (D5 W l q).take (l + 1) = W.take l ++ [q] := by
  unfold D5
  split
  · rename_i h1
    rw [List.take_add_one, List.take_set, List.set_eq_of_length_le t56, List.getElem?_set_self (by omega)]
    rfl
  · rw [List.take_of_length_le t56]
theorem HG {l : Nat} (h : l ≤ W.length) : l + 1 ≤ (D5 W l q).length := by
  unfold D5
  split
  · rw [List.length_set]; assumption
  · rw [List.length_append, List.length_take, List.length_singleton]; omega
theorem HH (h : k + 1 ≤ W.length) : W.take (k + 1) = W.take k ++ [W.getD k 0] := by
  rw [List.take_add_one, List.getElem?_eq_getElem (by omega)]
  simp [List.getD, show k < W.length from by omega]
variable {g : Nat}
theorem OG {l : c6} {b0 b1 : Blk} (hn : n ≤ W.length) (hl : n < 1000000000) : j5 cfg 3 (h ++ (b0 :: b1 :: ⟨g, false, 3, 1, W.map s9, 0⟩ :: ⟨0, false, 3, 1, [.int .i64 ((q : Nat) : Int)], 0⟩ :: l)) (.own (h.length + 2) g 0 n) (.own (h.length + 3) 0 0 1) = some (.own (h.length + 2) (HF W g n) 0 (n + 1), h ++ (b0 :: b1 :: ⟨HF W g n, false, 3, 1, (D5 W n q).map s9, 0⟩ :: ⟨0, false, 3, 1, [.int .i64 ((q : Nat) : Int)], 0⟩ :: l)) := by
  have e1 : cfg.sz 3 = 1 := rfl
  have e2 : (cfg.ti 3).bytes = 8 := rfl
  have h1 : n + 1 ≤ maxLen := by
    have : (1000000001 : Nat) ≤ maxLen := by decide
    omega
  have h2 : (n + 1) * 8 ≤ 140737488355328 := by omega
  by_cases hc : n + 1 ≤ W.length
  · have e3 : List.take n (W.map s9) ++ AV.int .i64 ((q : Nat) : Int) :: List.drop (n + 1) (W.map s9) = (W.set n q).map s9 := QX (by omega)
    simp [j5, rd, lenOf, e1, e2, h1, h2, hc, hn, over, r6, p4, D5, HF]
    rw [e3]
    simp
  · have h3 : List.take n (W.map s9) = W.map s9 := List.take_of_length_le t56
    have h4 : List.take n W = W := List.take_of_length_le (by omega)
    simp [j5, rd, lenOf, e1, e2, h1, h2, hc, hn, r6, p4, D5, HF, h4, s9]
    exact h3
attribute [local go_sem] rd bE u7 aK s4 n6 l9 dO aT Int.natCast_nonneg Int.natCast_inj lS dC lT jR gY jS lD pP J9 vU jV vV Z5 lY tT tU pQ List.length_set List.length_replicate Int.toNat_natCast_add_one kX wrap64 K1 List.length_map
variable {S : List (List Nat)}
theorem c_stepA (hu : WU u) (wc : WC u c) (hmx : mx < u.c4.length) (hS : Tb (kM u mx) c.insts.length S) (hi : i < c.insts.length) (hp : pc < fW u c i) (l : c6) : CB 38 [.int .i64 ((pc : Nat) : Int), .ptr h.length 0 0, .ptr (h.length + 5) 0 0, .ptr (h.length + 3) 0 0, .ptr (h.length + 1) 0 0, .ptr (h.length + 4) 0 0, .ptr (h.length + 2) 0 0] (h ++ (⟨0, false, 30, 4, [.vec u.globals.length (g7 u.globals), .vec u.c4.length (g5 u.c4), .vec u.procs.length (j8 u.procs), .int .i64 u.main], 0⟩ :: ⟨0, false, 34, 3, [.vec c.insts.length (l6 c.insts), .vec c.calls.length (m7 c.calls), .vec c.roots.length (g7 c.roots)], 0⟩ :: ⟨0, false, 3, 1, [.int .i64 ((mx : Nat) : Int)], 0⟩ :: ⟨0, false, 32, 1, [.vec c.insts.length (u6 S)], 0⟩ :: ⟨0, false, 3, 1, [.int .i64 ((i : Nat) : Int)], 0⟩ :: ⟨0, false, 69, 2, [.int .i64 (itI c i).proc, .vec (itI c i).j4.length (g7 (itI c i).j4)], 0⟩ :: l)) (bE (stS u c mx S i pc)) := by
  refine .bz Tryz.f38 37 ?_
  have w := gZ wc hi
  have w1 := w.lo; have w2 := w.hi
  have hsz : (c8 u (itI c i)).length ≤ 1664 := r7 hu w
  have hcl := wc.cl
  have hcll : (c.calls.getD i []).length = (c8 u (itI c i)).length := wc.cll i hi
  have hp2 : pc < (c8 u (itI c i)).length := hp
  have hSl := hS.1
  have hwl := wc.len
  have hcall : (mG u c i pc).op = 2 → 0 ≤ (c.calls.getD i []).getD pc 0 ∧ (c.calls.getD i []).getD pc 0 < c.insts.length := fun ho => by have := (wc.call i hi pc hp).1 (.inl ho); exact ⟨this.1, this.2.1⟩
  have hop : mG u c i pc = (c8 u (itI c i)).getD pc g6 := rfl
  rw [hop] at hcall
  refine c28z ?_
  refine c134z ?_
  refine u2z ?_ ?_
  ·intro e1 qe1
   refine .c7 [0, 3, 4, 5] ?_
   obtain ⟨hc1, hc2⟩ := hcall (by omega)
   refine .ss s3 (mkP 12 [0, 0, 2, 0, 14, 30, 0, 126, 254, 511, 1023, 2047] []) ?_
   refine c59z ?_
   exact .ret (.ex (hq := t52))
  intro e1 qe1
  refine .sk ?_
  refine .c7 [0, 1, 2, 6] ?_
  refine c25z ?_
  refine .ca rfl rfl (RE hu wc hmx hi hp) ?_
  refine .n ?_
  exact .ret (.ex (hq := t52))
variable {A R : c6}
theorem HI {X : c6} {B : Blk} : (A ++ (B :: (R ++ X)))[A.length + 1 + R.length + k]? = X[k]? := by
  rw [List.getElem?_append_right (by omega), show A.length + 1 + R.length + k - A.length = (R.length + k) + 1 from by omega, List.getElem?_cons_succ, List.getElem?_append_right (by omega)]
  congr 1
  omega
theorem OH {X : c6} {B : Blk} : (A ++ (B :: (R ++ X)))[A.length + 1 + R.length]? = X[0]? := HI (k := 0)
section
attribute [local go_sem] HI OH
theorem OI (hu : WU u) (wc : WC u c) (hmx : mx < u.c4.length) (hS : Tb (kM u mx) c.insts.length S) (hi : i < c.insts.length) (hp : pc < fW u c i) (l : c6) : CB 38 [.int .i64 ((pc : Nat) : Int), .ptr (A.length + 1 + R.length) 0 0, .ptr (A.length + 1 + R.length + 5) 0 0, .ptr (A.length + 1 + R.length + 3) 0 0, .ptr (A.length + 1 + R.length + 1) 0 0, .ptr (A.length + 1 + R.length + 4) 0 0, .ptr (A.length + 1 + R.length + 2) 0 0] (A ++ (⟨g, false, 22, 1, u6 S, 0⟩ :: (R ++ (⟨0, false, 30, 4, [.vec u.globals.length (g7 u.globals), .vec u.c4.length (g5 u.c4), .vec u.procs.length (j8 u.procs), .int .i64 u.main], 0⟩ :: ⟨0, false, 34, 3, [.vec c.insts.length (l6 c.insts), .vec c.calls.length (m7 c.calls), .vec c.roots.length (g7 c.roots)], 0⟩ :: ⟨0, false, 3, 1, [.int .i64 ((mx : Nat) : Int)], 0⟩ :: ⟨0, false, 32, 1, [.own A.length g 0 c.insts.length], 0⟩ :: ⟨0, false, 3, 1, [.int .i64 ((i : Nat) : Int)], 0⟩ :: ⟨0, false, 69, 2, [.int .i64 (itI c i).proc, .vec (itI c i).j4.length (g7 (itI c i).j4)], 0⟩ :: l)))) (bE (stS u c mx S i pc)) := by
  refine .bz Tryz.f38 37 ?_
  have w := gZ wc hi
  have w1 := w.lo; have w2 := w.hi
  have hsz : (c8 u (itI c i)).length ≤ 1664 := r7 hu w
  have hcl := wc.cl
  have hcll : (c.calls.getD i []).length = (c8 u (itI c i)).length := wc.cll i hi
  have hp2 : pc < (c8 u (itI c i)).length := hp
  have hSl := hS.1
  have hwl := wc.len
  have hcall : (mG u c i pc).op = 2 → 0 ≤ (c.calls.getD i []).getD pc 0 ∧ (c.calls.getD i []).getD pc 0 < c.insts.length := fun ho => by have := (wc.call i hi pc hp).1 (.inl ho); exact ⟨this.1, this.2.1⟩
  have hop : mG u c i pc = (c8 u (itI c i)).getD pc g6 := rfl
  rw [hop] at hcall
  refine c28z ?_
  refine c134z ?_
  refine u2z ?_ ?_
  ·intro e1 qe1
   refine .c7 [0, 3, 4, 5] ?_
   obtain ⟨hc1, hc2⟩ := hcall (by omega)
   refine .ss s3 (mkP 12 [0, 0, 2, 0, 14, 30, 0, 126, 254, 511, 1023, 2047] []) ?_
   refine c59z ?_
   exact .ret (.ex (hq := t52))
  intro e1 qe1
  refine .sk ?_
  refine .c7 [0, 1, 2, 6] ?_
  refine c25z ?_
  refine .ca rfl rfl (RE hu wc hmx hi hp) ?_
  refine .n ?_
  exact .ret (.ex (hq := t52))
end
def mH (u : Un) (c : Clo) (mx : Nat) (S : List (List Nat)) (i : Nat) (sv : AV) (h : c6) : Prop := ∀ pc, pc < fW u c i → ∀ l, CallA Tryz.prog cfg 38 [.int .i64 ((pc : Nat) : Int), .ptr h.length 0 0, .ptr (h.length + 5) 0 0, .ptr (h.length + 3) 0 0, .ptr (h.length + 1) 0 0, .ptr (h.length + 4) 0 0, .ptr (h.length + 2) 0 0] (h ++ (⟨0, false, 30, 4, [.vec u.globals.length (g7 u.globals), .vec u.c4.length (g5 u.c4), .vec u.procs.length (j8 u.procs), .int .i64 u.main], 0⟩ :: ⟨0, false, 34, 3, [.vec c.insts.length (l6 c.insts), .vec c.calls.length (m7 c.calls), .vec c.roots.length (g7 c.roots)], 0⟩ :: ⟨0, false, 3, 1, [.int .i64 ((mx : Nat) : Int)], 0⟩ :: ⟨0, false, 32, 1, [sv], 0⟩ :: ⟨0, false, 3, 1, [.int .i64 ((i : Nat) : Int)], 0⟩ :: ⟨0, false, 69, 2, [.int .i64 (itI c i).proc, .vec (itI c i).j4.length (g7 (itI c i).j4)], 0⟩ :: l)) (fun y' h' => y' = bE (stS u c mx S i pc) ∧ h' = h ++ (⟨0, false, 30, 4, [.vec u.globals.length (g7 u.globals), .vec u.c4.length (g5 u.c4), .vec u.procs.length (j8 u.procs), .int .i64 u.main], 0⟩ :: ⟨0, false, 34, 3, [.vec c.insts.length (l6 c.insts), .vec c.calls.length (m7 c.calls), .vec c.roots.length (g7 c.roots)], 0⟩ :: ⟨0, false, 3, 1, [.int .i64 ((mx : Nat) : Int)], 0⟩ :: ⟨0, false, 32, 1, [sv], 0⟩ :: ⟨0, false, 3, 1, [.int .i64 ((i : Nat) : Int)], 0⟩ :: ⟨0, false, 69, 2, [.int .i64 (itI c i).proc, .vec (itI c i).j4.length (g7 (itI c i).j4)], 0⟩ :: l))
theorem Z8 (hu : WU u) (wc : WC u c) (hmx : mx < u.c4.length) (hS : Tb (kM u mx) c.insts.length S) (hi : i < c.insts.length) (h : c6) : mH u c mx S i (.vec c.insts.length (u6 S)) h := fun pc hp l => c_stepA hu wc hmx hS hi hp l
variable {β : Nat}
theorem Z9 (hu : WU u) (wc : WC u c) (hmx : mx < u.c4.length) (hS : Tb (kM u mx) c.insts.length S) (hi : i < c.insts.length) (hb : h[β]? = some ⟨g, false, 22, 1, u6 S, 0⟩) : mH u c mx S i (.own β g 0 c.insts.length) h := fun pc hp l => by
  obtain ⟨hlt, hget⟩ := List.getElem?_eq_some_iff.1 hb
  obtain ⟨A, R, rfl, rfl⟩ : ∃ A R, h = A ++ ⟨g, false, 22, 1, u6 S, 0⟩ :: R ∧ A.length = β := ⟨h.take β, h.drop (β + 1), by rw [← hget, ← List.drop_eq_getElem_cons hlt, List.take_append_drop], by rw [List.length_take]; omega⟩
  have e : (A ++ ⟨g, false, 22, 1, u6 S, 0⟩ :: R).length = A.length + 1 + R.length := by rw [List.length_append, List.length_cons]; omega
  rw [e, List.append_assoc, List.cons_append]
  exact OI hu wc hmx hS hi hp l
theorem AA (hu : WU u) (wc : WC u c) (hmx : mx < u.c4.length) (hS : Tb (kM u mx) c.insts.length S) (hi : i < c.insts.length) (hb : h[β]? = some ⟨g, false, 22, 1, u6 S, 0⟩) (l : c6) : mH u c mx S i (.own β g 0 c.insts.length) (h ++ l) :=
  Z9 hu wc hmx hS hi (by rw [List.getElem?_append_left (List.getElem?_eq_some_iff.1 hb).1]; exact hb)
theorem mH.shift {sv : AV} (hs : ∀ l0, mH u c mx S i sv (h ++ l0)) (hp : pc < fW u c i) {b : Blk} (l : c6) : CB 38 [.int .i64 ((pc : Nat) : Int), .ptr h.length 0 0, .ptr (h.length + 5) 0 0, .ptr (h.length + 3) 0 0, .ptr (h.length + 1) 0 0, .ptr (h.length + 4) 0 0, .ptr (h.length + 2) 0 0] ((h ++ [⟨0, false, 30, 4, [.vec u.globals.length (g7 u.globals), .vec u.c4.length (g5 u.c4), .vec u.procs.length (j8 u.procs), .int .i64 u.main], 0⟩, ⟨0, false, 34, 3, [.vec c.insts.length (l6 c.insts), .vec c.calls.length (m7 c.calls), .vec c.roots.length (g7 c.roots)], 0⟩, ⟨0, false, 3, 1, [.int .i64 ((mx : Nat) : Int)], 0⟩, ⟨0, false, 32, 1, [sv], 0⟩, ⟨0, false, 3, 1, [.int .i64 ((i : Nat) : Int)], 0⟩, ⟨0, false, 69, 2, [.int .i64 (itI c i).proc, .vec (itI c i).j4.length (g7 (itI c i).j4)], 0⟩, b]) ++ l) (bE (stS u c mx S i pc)) := by
  have := hs [] pc hp (b :: l)
  simpa only [List.append_nil, List.append_assoc, List.cons_append, List.nil_append] using this
theorem c_nextV (hu : WU u) {it : u3} (w : WIt u it) (hpc : pc < (c8 u it).length) : CB 72 [.agg [.vec u.globals.length (g7 u.globals), .vec u.c4.length (g5 u.c4), .vec u.procs.length (j8 u.procs), .int .i64 u.main], .agg [.int .i64 it.proc, .vec it.j4.length (g7 it.j4)], .int .i64 ((pc : Nat) : Int)] h (.vec (s8 ((c8 u it).getD pc g6) pc).length (g7 (s8 ((c8 u it).getD pc g6) pc))) := c_nextF hu w hpc
section
attribute [local go_sem] OG
theorem c_run (hu : WU u) {it : u3} (w : WIt u it) (hmx : mx < u.c4.length) (hk : yW (u.c4.getD mx w8) = k) {sp : Nat → List Nat} {caps : List AV} (p : Pro k (c8 u it).length (fun pc => s8 ((c8 u it).getD pc g6) pc) sp) (hst : ∀ pc, pc < (c8 u it).length → ∀ l, CB 38 (.int .i64 ((pc : Nat) : Int) :: caps) (h ++ l) (bE (sp pc))) : CB 40 [.agg [.vec u.globals.length (g7 u.globals), .vec u.c4.length (g5 u.c4), .vec u.procs.length (j8 u.procs), .int .i64 u.main, .int .i64 it.proc, .vec it.j4.length (g7 it.j4), .int .i64 ((mx : Nat) : Int), .fn (.func 38) [] caps]] h (.vec (c8 u it).length (u6 (dD k (c8 u it).length (fun pc => s8 ((c8 u it).getD pc g6) pc) sp))) := by
  refine .bz Tryz.f40 105 ?_
  have w1 := w.lo; have w2 := w.hi
  have hsz : (c8 u it).length ≤ 1664 := r7 hu w
  have hk8 : k ≤ 8 := by rw [← hk]; exact yH
  have hps := p.pos
  have hml := hu.ml
  have hcd := (kU hu w).1
  refine .z ?_
  refine .s ?_
  refine .e 7 ?_
  refine .ca rfl rfl (WJ (u.c4.getD mx w8)) ?_
  refine .n ?_
  refine .c7 [1, 3] ?_
  refine c134z ?_
  refine .c7 [1, 3, 4] ?_
  refine c57z ?_
  refine .aB (fun m st => ∃ (i : Nat), (m = (c8 u it).length - i ∧ (i ≤ (c8 u it).length)) ∧ st = ⟨mkS 105 [(1, AV.ptr h.length 0 0), (3, AV.int .i64 ((k : Nat) : Int)), (5, AV.own (h.length + 1) 0 0 (c8 u it).length), (33, AV.int .i64 (((c8 u it).length : Nat) : Int)), (34, AV.int .i64 ((i : Nat) : Int))], h ++ [⟨0, false, 84, 8, [.vec u.globals.length (g7 u.globals), .vec u.c4.length (g5 u.c4), .vec u.procs.length (j8 u.procs), .int .i64 u.main, .int .i64 it.proc, .vec it.j4.length (g7 it.j4), .int .i64 ((mx : Nat) : Int), .fn (.func 38) [] caps], 0⟩, ⟨0, false, 22, 1, yO (c8 u it).length i (List.replicate (k + 1) 0), 0⟩]⟩) (.v ⟨0, ⟨rfl, by omega⟩, rfl⟩) ?_ (he := by (rw [uF]))
  rintro m sl h' ⟨i, ⟨hm, hi⟩, hst⟩
  obtain ⟨rfl, rfl⟩ := St.mk.inj hst; clear hst
  refine c28z ?_
  refine u2z ?_ ?_
  ·intro e1 qe1
   refine c108z ?_
   refine c1z ?_
   refine .c7 [1, 3, 5, 33, 34] ?_
   refine c9.XI (β := h.length + 1) (γ := h.length + 2) (A := u6 (List.replicate i (List.replicate (k + 1) 0))) (R := List.replicate ((c8 u it).length - (i + 1)) AV.j6) (zs := (List.replicate (k + 1) 0)) (len := k + 1) t36 t36 (by simp) (by omega) ?_
   refine c45z ?_
   exact ⟨_, by omega, .v ⟨(i + 1), ⟨rfl, by omega⟩, rfl⟩ (he := t106) (hk := by exact (z4.refl _).app rfl ⟨.inl rfl, .inr (uG _), trivial⟩)⟩
  intro e1 qe1
  refine .exit ?_
  obtain rfl : i = (c8 u it).length := by omega
  simp only [yP]
  change c9 ..
  refine c30z ?_
  refine .ca rfl rfl (c_idN _ hk8) ?_
  refine .n ?_
  refine .c7 [1, 5] ?_
  refine .z ?_
  refine .sb ?_
  refine .aB (fun m st => ∃ (T : List (List Nat)) (W : List Nat) (l : Nat) (g : Nat), (m = RC (c8 u it).length T l ∧ (IM k (c8 u it).length (fun pc => s8 ((c8 u it).getD pc g6) pc) sp T (W.take l) ∧ l ≤ W.length ∧ RC (c8 u it).length T l ≤ 20000000)) ∧ st = ⟨mkS 105 [(1, AV.ptr h.length 0 0), (5, AV.own (h.length + 1) 0 0 (c8 u it).length), (7, AV.own (h.length + 2) g 0 l)], h ++ [⟨0, false, 84, 8, [.vec u.globals.length (g7 u.globals), .vec u.c4.length (g5 u.c4), .vec u.procs.length (j8 u.procs), .int .i64 u.main, .int .i64 it.proc, .vec it.j4.length (g7 it.j4), .int .i64 ((mx : Nat) : Int), .fn (.func 38) [] caps], 0⟩, ⟨0, false, 22, 1, u6 T, 0⟩, ⟨g, false, 3, 1, W.map s9, 0⟩]⟩) (.v ⟨((List.replicate (c8 u it).length (List.replicate (k + 1) 0)).set 0 (dhN k 0)), [0], 1, 0, ⟨rfl, ⟨IM.start p, by simp, by unfold RC; omega⟩⟩, rfl⟩) ?_
  rintro m sl h' ⟨T, W, l, g, ⟨hm, ⟨hI, hl, hlb⟩⟩, hst⟩
  obtain ⟨rfl, rfl⟩ := St.mk.inj hst; clear hst
  have hTl : T.length = (c8 u it).length := hI.g.tb.1
  have hlm : l ≤ RC (c8 u it).length T l := by unfold RC; omega
  refine c0z ?_
  refine u2z ?_ ?_
  ·intro e2 qe2
   refine c168z ?_
   obtain ⟨k1, rfl⟩ : ∃ k1, l = k1 + 1 := ⟨l - 1, by omega⟩
   refine .z ?_
   refine .c7 [1, 5, 7, 8] ?_
   refine .z ?_
   rw [HH (by omega)] at hI
   generalize W.getD k1 0 = pc at hI ⊢
   obtain ⟨hpc, hJ0⟩ := hI.pop
   have hst1 := p.st pc hpc
   have hTp := hI.g.tb.get hpc
   obtain ⟨hR, hle⟩ := hI.g.aft p hpc
   refine .ss s3 (mkP 10 [0, 0, 3, 7, 0, 16, 0, 112, 255, 511] []) ?_
   refine .k 7 [] ?_
   refine gJ.cq rfl (rfl) hb38 (hst pc hpc _) ?_
   refine .ca rfl rfl (c_comp _ _ (hst1.lt hk8) (by have := hst1.1; omega) (hTp.lt hk8) (by have := hTp.1; omega)) ?_
   refine .n [] ?_
   refine .c7 [1, 5, 7, 8, 9] ?_
   have hnl := tQ (x := (c8 u it).getD pc g6) (pc := pc)
   refine c21z ?_
   refine .ca rfl rfl (c_nextV hu w hpc) ?_
   refine c148z ?_
   refine .aB (fun m st => ∃ (T1 : List (List Nat)) (W1 : List Nat) (l1 : Nat) (g1 : Nat) (j : Nat), (m = (s8 ((c8 u it).getD pc g6) pc).length - j ∧ (HA k (c8 u it).length (fun pc => s8 ((c8 u it).getD pc g6) pc) sp pc (T.getD pc []) (tot T) (W.take k1).length T1 (W1.take l1) j ∧ l1 ≤ W1.length ∧ j ≤ (s8 ((c8 u it).getD pc g6) pc).length ∧ l1 ≤ k1 + j)) ∧ st = ⟨mkS 105 [(1, AV.ptr h.length 0 0), (5, AV.own (h.length + 1) 0 0 (c8 u it).length), (7, AV.own (h.length + 2) g1 0 l1), (9, bE (o5 (T.getD pc []) (sp pc))), (77, AV.vec (s8 ((c8 u it).getD pc g6) pc).length (g7 (s8 ((c8 u it).getD pc g6) pc))), (78, AV.int .i64 (((s8 ((c8 u it).getD pc g6) pc).length : Nat) : Int)), (79, AV.int .i64 ((j : Nat) : Int))], h ++ [⟨0, false, 84, 8, [.vec u.globals.length (g7 u.globals), .vec u.c4.length (g5 u.c4), .vec u.procs.length (j8 u.procs), .int .i64 u.main, .int .i64 it.proc, .vec it.j4.length (g7 it.j4), .int .i64 ((mx : Nat) : Int), .fn (.func 38) [] caps], 0⟩, ⟨0, false, 22, 1, u6 T1, 0⟩, ⟨g1, false, 3, 1, W1.map s9, 0⟩]⟩) (.v ⟨T, W, k1, g, 0, ⟨rfl, ⟨hJ0, by omega, by omega, by omega⟩⟩, rfl⟩) ?_
   rintro m sl h' ⟨T1, W1, l1, g1, j, ⟨hm, ⟨hJ, hl1, hj, hlj⟩⟩, hst⟩
   obtain ⟨rfl, rfl⟩ := St.mk.inj hst; clear hst
   have hT1 : T1.length = (c8 u it).length := hJ.g.tb.1
   refine c28z ?_
   refine u2z ?_ ?_
   ·intro e3 qe3
    refine c108z ?_
    obtain ⟨hq1, hq2⟩ := p.nx pc hpc _ (l4 (d := 0) (show j < (s8 ((c8 u it).getD pc g6) pc).length from by omega))
    obtain ⟨q, hqe⟩ : ∃ q : Nat, (s8 ((c8 u it).getD pc g6) pc).getD j 0 = (q : Int) := ⟨((s8 ((c8 u it).getD pc g6) pc).getD j 0).toNat, by omega⟩
    rw [hqe] at hq1 hq2 ⊢
    have hq3 : q < (c8 u it).length := by omega
    have hRq := hJ.g.tb.get hq3
    have hqt : ((s8 ((c8 u it).getD pc g6) pc).getD j 0).toNat = q := by rw [hqe]; rfl
    refine c21z ?_
    refine .ca rfl rfl (uD _ _ (by have := hR.1; omega) t151) ?_
    refine .n ?_
    refine u2z ?_ ?_
    ·intro e4 qe4
     refine .c7 [1, 5, 7, 9, 11, 77, 78, 79] ?_
     refine .s ?_
     refine .e 7 ?_
     refine .ca rfl rfl (K0 _ _ (hR.lt hk8) (hRq.lt hk8) (by have := hRq.1; omega) t151) ?_
     refine .n ?_
     refine .c7 [1, 5, 7, 9, 11, 77, 78, 79] ?_
     refine c51z ?_
     exact ⟨_, by omega, .v ⟨(T1.set q (bY (T1.getD q []) (o5 (T.getD pc []) (sp pc)))), (D5 W1 l1 q), (l1 + 1), (HF W1 g1 l1), (j + 1), ⟨rfl, ⟨by rw [Z7 hl1]; exact hJ.grow p hpc hR hle (by omega) hqt (fun hs => absurd ((yI hk8 hR hRq).2 hs) (by assumption)), HG hl1, by omega, by omega⟩⟩, rfl⟩ (he := t35) (hk := t99)⟩
    intro e4 qe4
    refine c3z ?_
    refine .c7 [1, 5, 7, 9, 77, 78, 79] ?_
    refine .rz ?_
    exact ⟨_, by omega, .v ⟨T1, W1, l1, g1, (j + 1), ⟨rfl, ⟨hJ.skip ((yI hk8 hR (by rw [hqt]; exact hRq)).1 (by rw [hqt]; assumption)), hl1, by omega, by omega⟩⟩, rfl⟩ (he := t35) (hk := t99)⟩
   intro e3 qe3
   refine .exit ?_
   obtain rfl : j = (s8 ((c8 u it).getD pc g6) pc).length := by omega
   have hmr := mRun_lt hk8 hJ hI.g
   rw [List.length_take, List.length_take, Nat.min_eq_left hl1, Nat.min_eq_left (show k1 ≤ W.length from by omega)] at hmr
   exact ⟨_, by omega, .v ⟨T1, W1, l1, g1, ⟨rfl, ⟨hJ.fin hpc, hl1, by omega⟩⟩, rfl⟩ (he := t35) (hk := t99)⟩
  intro e2 qe2
  refine .exit ?_
  obtain rfl : l = 0 := by omega
  have hT : T = (dD k (c8 u it).length (fun pc => s8 ((c8 u it).getD pc g6) pc) sp) := IM.done p (by simpa using hI)
  change c9 ..
  refine c33z ?_
  exact ⟨_, _, rfl, XF t36 (by omega) hTl, by (rw [hT])⟩
end
section
attribute [local go_sem] jU
theorem HJ (hu : WU u) (wc : WC u c) (hmx : mx < u.c4.length) (hS : Tb (kM u mx) c.insts.length S) (hi : i < c.insts.length) (hsv : ∀ l0, mH u c mx S i (.vec c.insts.length (u6 S)) (h ++ l0)) : CB 18 [.agg [.vec u.globals.length (g7 u.globals), .vec u.c4.length (g5 u.c4), .vec u.procs.length (j8 u.procs), .int .i64 u.main], .agg [.vec c.insts.length (l6 c.insts), .vec c.calls.length (m7 c.calls), .vec c.roots.length (g7 c.roots)], .int .i64 ((mx : Nat) : Int), .vec c.insts.length (u6 S), .int .i64 ((i : Nat) : Int)] h (.vec (fW u c i) (u6 (S6 u c mx S i))) := by
  refine .bz Tryz.f18 25 ?_
  have w := gZ wc hi
  have w1 := w.lo; have w2 := w.hi
  have hwl := wc.len
  refine c19z ?_
  refine .c7 [5, 6, 7, 8, 9, 11] ?_
  refine .z ?_
  refine .c7 [12] ?_
  refine c72z ?_
  refine .ca rfl rfl (c_run hu (gZ wc hi) hmx rfl (XC hu wc hS hi) (fun pc hp l => mH.shift hsv hp l)) ?_
  refine .n ?_
  exact .ret (.ex (hq := by rfl))
end
section
attribute [local go_sem] jU
theorem HK (hu : WU u) (wc : WC u c) (hmx : mx < u.c4.length) (hS : Tb (kM u mx) c.insts.length S) (hi : i < c.insts.length) (hsv : ∀ l0, mH u c mx S i (.own β g 0 c.insts.length) (h ++ l0)) : CB 18 [.agg [.vec u.globals.length (g7 u.globals), .vec u.c4.length (g5 u.c4), .vec u.procs.length (j8 u.procs), .int .i64 u.main], .agg [.vec c.insts.length (l6 c.insts), .vec c.calls.length (m7 c.calls), .vec c.roots.length (g7 c.roots)], .int .i64 ((mx : Nat) : Int), .own β g 0 c.insts.length, .int .i64 ((i : Nat) : Int)] h (.vec (fW u c i) (u6 (S6 u c mx S i))) := by
  refine .bz Tryz.f18 25 ?_
  have w := gZ wc hi
  have w1 := w.lo; have w2 := w.hi
  have hwl := wc.len
  refine c19z ?_
  refine .c7 [5, 6, 7, 8, 9, 11] ?_
  refine .z ?_
  refine .c7 [12] ?_
  refine c72z ?_
  refine .ca rfl rfl (c_run hu (gZ wc hi) hmx rfl (XC hu wc hS hi) (fun pc hp l => mH.shift hsv hp l)) ?_
  refine .n ?_
  exact .ret (.ex (hq := by rfl))
end
end Go.Proofs.YtfbjlfhjkojmkaaGreat
end
section
namespace Go.Proofs.YtfbjlfhjkojmkaaGreat
open Go.Ab Go.Un
variable {c : Clo}
theorem lE {i : Nat} (h : i < c.insts.length) : List.take 1 (List.drop (i * 2) (l6 c.insts)) = [.int .i64 (itI c i).proc] := lS h
variable {h : c6}
theorem RF (u : Un) (mx : Nat) : CB 56 [.agg [.str (u.c4.getD mx w8).name, .bool (u.c4.getD mx w8).re, .int .i64 (u.c4.getD mx w8).size]] h (.int .i64 ((kM u mx : Nat) : Int)) := WJ _
theorem HL {n β g len : Nat} {H : c6} (h : β < n) : gP n H 6 (.own β g 0 len) = some (.own β g 0 len) := by rw [dT, if_pos h]
theorem z4.new {l' : c6} (hk : ∀ b ∈ l', w6 b.cells) : z4 h (h ++ l') := fun β b hb => by
  by_cases hβ : β < h.length
  · left; rwa [List.getElem?_append_left hβ] at hb
  · right; rw [List.getElem?_append_right (by omega)] at hb; exact fun x hx => (hk b (List.mem_of_getElem? hb) x hx).rf _
theorem plnU (u : Un) : w6 [.vec u.globals.length (g7 u.globals), .vec u.c4.length (g5 u.c4), .vec u.procs.length (j8 u.procs), .int .i64 u.main] := w6.cons .vec (w6.cons .vec (w6.cons .vec (w6.cons .int .nil)))
theorem plnC (c : Clo) : w6 [.vec c.insts.length (l6 c.insts), .vec c.calls.length (m7 c.calls), .vec c.roots.length (g7 c.roots)] := w6.cons .vec (w6.cons .vec (w6.cons .vec .nil))
theorem c9.XL {c : Code} {H : c6} {Q : Exit → St → Prop} {γ t len n e : Nat} {l : List (Nat × AV)} {zs : List Nat} (hγ : H[γ]? = some ⟨0, false, e, 1, zs.map s9, 0⟩) (hz : zs.length = len) (hp : 0 < len) (hx : (mkS n l)[t]? = some (.own γ 0 0 len))
    (r : c9 Tryz.prog cfg c ⟨(mkS n l).set t (.vec len (zs.map s9)), H.set γ ⟨0, false, e, 1, zs.map s9, len⟩⟩ Q) : c9 Tryz.prog cfg c ⟨mkS n l, H⟩ Q := by
  subst hz
  have hne : zs.map s9 ≠ [] := fun h0 => by have := congrArg List.length h0; rw [List.length_map] at this; simp only [List.length_nil] at this; omega
  refine c9.zZ (t := t) (γ := γ) (len := zs.length) (e := e) (K := 1) (g := 0) (zs := zs.map s9) (by rw [hγ]; exact congrArg some (dU hne).symm) (by simp) (by omega) (plnN zs) hx ?_
  obtain ⟨z, zs', hzz⟩ := List.exists_cons_of_ne_nil hne
  have e1 : fQ e 1 0 (zs.map s9) (zs.length * 1) = ⟨0, false, e, 1, zs.map s9, zs.length⟩ := by rw [hzz, Nat.mul_one]; rfl
  rw [e1]
  exact r
theorem c9.seenT {c : Code} {H : c6} {Q : Exit → St → Prop} {γ t len n g e : Nat} {l : List (Nat × AV)} {T : List (List Nat)} (hγ : H[γ]? = some ⟨g, false, e, 1, u6 T, 0⟩) (hz : T.length = len) (hp : 0 < len) (hx : (mkS n l)[t]? = some (.own γ g 0 len))
    (r : c9 Tryz.prog cfg c ⟨(mkS n l).set t (.vec len (u6 T)), H.set γ ⟨g, false, e, 1, u6 T, len⟩⟩ Q) : c9 Tryz.prog cfg c ⟨mkS n l, H⟩ Q := by
  subst hz
  have hne : u6 T ≠ [] := fun h0 => by have := congrArg List.length h0; rw [aT] at this; simp only [List.length_nil] at this; omega
  refine c9.zZ (t := t) (γ := γ) (len := T.length) (e := e) (K := 1) (g := g) (zs := u6 T) (by rw [hγ]; exact congrArg some (dU hne).symm) (by simp [aT]) (by omega) (IL T) hx ?_
  obtain ⟨z, zs', hzz⟩ := List.exists_cons_of_ne_nil hne
  have e1 : fQ e 1 g (u6 T) (T.length * 1) = ⟨g, false, e, 1, u6 T, T.length⟩ := by rw [hzz, Nat.mul_one]; rfl
  rw [e1]
  exact r
attribute [local go_sem] rd bE u7 aK s4 n6 l9 dO aT Int.natCast_nonneg Int.natCast_inj dC lT jR gY jS lD pP J9 vU jV vV Z5 lY tT tU pQ List.length_set List.length_replicate Int.toNat_natCast_add_one kX wrap64 K1 List.length_map lE jU
theorem OJ (a b : List Nat) (hl : a.length < 1000000) : CB 32 [bE a, bE b] h (.bool (decide (a = b))) := by
  refine .bz Tryz.f32 26 ?_
  refine c87z ?_
  refine u2z ?_ ?_
  ·intro e1 qe1
   refine c160z ?_
   exact ⟨[], _, (List.append_nil _).symm, t45, t77⟩
  intro e1 qe1
  refine .sk ?_
  refine c5z ?_
  refine .cJ (fun m st => ∃ (i : Nat), (m = a.length - i ∧ ((∀ d, d < i → a.getD d 0 = b.getD d 0) ∧ i ≤ a.length)) ∧ st = ⟨mkS 26 [(0, bE a), (1, bE b), (12, AV.int .i64 ((a.length : Nat) : Int)), (13, AV.int .i64 ((i : Nat) : Int))], h⟩) _ (.v ⟨0, ⟨rfl, ⟨t110, by omega⟩⟩, rfl⟩) ?_
  rintro m sl h' ⟨i, ⟨hm, ⟨hI, hi⟩⟩, hst⟩
  obtain ⟨rfl, rfl⟩ := St.mk.inj hst
  refine c28z ?_
  refine u2z ?_ ?_
  ·intro e2 qe2
   refine c108z ?_
   refine .ss s3 (mkP 9 [0, 0, 3, 7, 0, 0, 48, 112, 255] []) ?_
   refine c59z ?_
   refine u2z ?_ ?_
   ·intro e3 qe3
    refine c160z ?_
    exact ⟨[], _, (List.append_nil _).symm, t45, t77⟩
   intro e3 qe3
   refine c3z ?_
   refine .c7 [0, 1, 12, 13] ?_
   refine .rz ?_
   exact ⟨_, by omega, .v ⟨(i + 1), ⟨rfl, ⟨(fun d hd => if e : d = i then by rw [e]; omega else hI d (by omega)), by omega⟩⟩, rfl⟩⟩
  intro e2 qe2
  refine c100z ?_
  exact ⟨[], _, (List.append_nil _).symm, t45, t77⟩
variable {u : Un} {mx : Nat}
theorem c_exitO (hu : WU u) (wc : WC u c) (hmx : mx < u.c4.length) {S : List (List Nat)} (hS : Tb (kM u mx) c.insts.length S) {i : Nat} (hi : i < c.insts.length) {β g : Nat} (hsv : ∀ l0, mH u c mx S i (.own β g 0 c.insts.length) (h ++ l0)) : CB 31 [.agg [.vec u.globals.length (g7 u.globals), .vec u.c4.length (g5 u.c4), .vec u.procs.length (j8 u.procs), .int .i64 u.main], .agg [.vec c.insts.length (l6 c.insts), .vec c.calls.length (m7 c.calls), .vec c.roots.length (g7 c.roots)], .int .i64 ((mx : Nat) : Int), .own β g 0 c.insts.length, .int .i64 ((i : Nat) : Int)] h (bE (exT u c mx S i)) := by
  refine .bz Tryz.f31 55 ?_
  have w := gZ wc hi
  have w1 := w.lo; have w2 := w.hi
  have hsz : (c8 u (itI c i)).length ≤ 1664 := r7 hu w
  have hwl := wc.len
  have hk8 : kM u mx ≤ 8 := yM
  have hk9 : yW (u.c4.getD mx w8) ≤ 8 := hk8
  have hml := hu.ml
  have hT := yN (u := u) (c := c) (m := mx) S i
  have hTl : (S6 u c mx S i).length = fW u c i := hT.1
  have hli : fW u c i ≤ 1664 := hsz
  have hlc : fW u c i = (c8 u (itI c i)).length := rfl
  refine .z ?_
  refine c21z ?_
  refine .ca rfl rfl (RF u mx) ?_
  refine c31z ?_
  refine .c7 [2, 3, 4, 5, 6, 11] ?_
  refine c9.XL (t := 11) (γ := (h.length + 2)) (len := (kM u mx + 1)) t36 (by simp) (by omega) (mQ (by decide) rfl) ?_
  rw [bK]; simp only [p4, List.set_cons_succ, List.set_cons_zero]
  generalize (⟨0, false, 3, 1, (List.replicate (kM u mx + 1) 0).map s9, kM u mx + 1⟩ : Blk) = Vb
  refine c21z ?_
  refine .ca rfl rfl (HK hu wc hmx hS hi (fun l0 => by rw [List.append_assoc]; exact hsv _)) ?_
  refine c148z ?_
  refine .cJ (fun m st => ∃ (j : Nat), (m = fW u c i - j ∧ (j ≤ fW u c i)) ∧ st = ⟨mkS 55 [(4, AV.int .i64 ((i : Nat) : Int)), (5, AV.ptr h.length 0 0), (6, AV.ptr (h.length + 1) 0 0), (11, bE (J6 u c mx i (S6 u c mx S i) j)), (27, AV.vec (fW u c i) (u6 (S6 u c mx S i))), (28, AV.int .i64 ((fW u c i : Nat) : Int)), (29, AV.int .i64 ((j : Nat) : Int))], h ++ [⟨0, false, 30, 4, [.vec u.globals.length (g7 u.globals), .vec u.c4.length (g5 u.c4), .vec u.procs.length (j8 u.procs), .int .i64 u.main], 0⟩, ⟨0, false, 34, 3, [.vec c.insts.length (l6 c.insts), .vec c.calls.length (m7 c.calls), .vec c.roots.length (g7 c.roots)], 0⟩, Vb]⟩) _ (.v ⟨0, ⟨rfl, by omega⟩, rfl⟩ (hs := t22)) ?_
  rintro m sl h' ⟨j, ⟨hm, hj⟩, hst⟩
  obtain ⟨rfl, rfl⟩ := St.mk.inj hst
  have hop : (mG u c i j).op = ((c8 u (itI c i)).getD j g6).op := rfl
  refine c28z ?_
  refine u2z ?_ ?_
  ·intro e1 qe1
   refine c108z ?_
   refine .ss s3 (mkP 16 [0, 1, 0, 4, 0, 28, 60, 124, 255, 511, 1023, 0, 4095, 8191, 16383, 32767] []) ?_
   refine c59z ?_
   refine u2z ?_ ?_
   ·intro e2 qe2
    refine .c7 [4, 5, 6, 11, 13, 27, 28, 29] ?_
    have hTj := hT.get (i := j) (by omega)
    have hEj := mU (u := u) (c := c) (m := mx) i (S6 u c mx S i) j
    refine .r ?_
    refine .e 2 ?_
    refine .ca rfl rfl (K0 _ _ (hTj.lt hk8) (hEj.lt hk8) (by have := hEj.1; omega) t178) ?_
    refine c29z ?_
    refine .rz ?_
    exact ⟨_, by omega, .v ⟨(j + 1), ⟨rfl, by omega⟩, rfl⟩ (hs := t22)⟩
   intro e2 qe2
   refine c3z ?_
   refine .c7 [4, 5, 6, 11, 27, 28, 29] ?_
   refine .rz ?_
   exact ⟨_, by omega, .v ⟨(j + 1), ⟨rfl, by omega⟩, rfl⟩ (hs := t22)⟩
  intro e1 qe1
  refine .exit ?_
  obtain rfl : j = fW u c i := by omega
  change c9 ..
  refine .z ?_
  exact .ret (.ex (hq := by rfl))
theorem OK (hu : WU u) (wc : WC u c) (hmx : mx < u.c4.length) : CH 30 [.agg [.vec u.globals.length (g7 u.globals), .vec u.c4.length (g5 u.c4), .vec u.procs.length (j8 u.procs), .int .i64 u.main], .agg [.vec c.insts.length (l6 c.insts), .vec c.calls.length (m7 c.calls), .vec c.roots.length (g7 c.roots)], .int .i64 ((mx : Nat) : Int)] h (.own (h.length + 2) 0 0 c.insts.length) (h ++ [⟨0, false, 30, 4, [.vec u.globals.length (g7 u.globals), .vec u.c4.length (g5 u.c4), .vec u.procs.length (j8 u.procs), .int .i64 u.main], 0⟩, ⟨0, false, 34, 3, [.vec c.insts.length (l6 c.insts), .vec c.calls.length (m7 c.calls), .vec c.roots.length (g7 c.roots)], 0⟩, ⟨0, false, 22, 1, u6 (yL u c mx), 0⟩]) := by
  refine .wz Tryz.f30 31 ?_
  have hwl := wc.len
  have hk8 : kM u mx ≤ 8 := yM
  have hk9 : yW (u.c4.getD mx w8) ≤ 8 := hk8
  have hml := hu.ml
  refine c174z ?_
  refine .c7 [2, 3, 7] ?_
  refine c17z ?_
  refine .aB (fun m st => ∃ (i : Nat), (m = c.insts.length - i ∧ (i ≤ c.insts.length)) ∧ st = ⟨mkS 31 [(2, AV.int .i64 ((mx : Nat) : Int)), (3, AV.ptr h.length 0 0), (7, AV.own (h.length + 2) 0 0 c.insts.length), (14, AV.int .i64 ((c.insts.length : Nat) : Int)), (15, AV.int .i64 ((i : Nat) : Int))], h ++ [⟨0, false, 30, 4, [.vec u.globals.length (g7 u.globals), .vec u.c4.length (g5 u.c4), .vec u.procs.length (j8 u.procs), .int .i64 u.main], 0⟩, ⟨0, false, 34, 3, [.vec c.insts.length (l6 c.insts), .vec c.calls.length (m7 c.calls), .vec c.roots.length (g7 c.roots)], 0⟩, ⟨0, false, 22, 1, yO c.insts.length i (List.replicate (kM u mx + 1) 0), 0⟩]⟩) (.v ⟨0, ⟨rfl, by omega⟩, rfl⟩) ?_ (he := by (rw [uF]))
  rintro m sl h' ⟨i, ⟨hm, hi⟩, hst⟩
  obtain ⟨rfl, rfl⟩ := St.mk.inj hst; clear hst
  refine c28z ?_
  refine u2z ?_ ?_
  ·intro e1 qe1
   refine c108z ?_
   refine .r ?_
   refine .e 7 ?_
   refine .ca rfl rfl (RF u mx) ?_
   refine c29z ?_
   refine .c7 [2, 3, 7, 14, 15] ?_
   refine c9.XI (β := h.length + 2) (γ := h.length + 3) (A := u6 (List.replicate i (List.replicate (kM u mx + 1) 0))) (R := List.replicate (c.insts.length - (i + 1)) AV.j6) (zs := (List.replicate (kM u mx + 1) 0)) (len := kM u mx + 1) t36 t36 (by simp) (by omega) ?_
   refine c45z ?_
   exact ⟨_, by omega, .v ⟨(i + 1), ⟨rfl, by omega⟩, rfl⟩ (he := t106) (hk := by exact (z4.refl _).app rfl ⟨.inl rfl, .inl rfl, .inr (uG _), trivial⟩)⟩
  intro e1 qe1
  refine .exit ?_
  obtain rfl : i = c.insts.length := by omega
  simp only [yP]
  change c9 ..
  refine c33z ?_
  exact ⟨_, [], _, (List.append_nil _).symm, by simp, z4.new (fun b hb => by replace hb := s6z hb; rcases hb with rfl | rfl | rfl; exact plnU u; exact plnC c; exact IL _), HL (by simp), by exact ⟨rfl, rfl⟩⟩
theorem c_of (hu : WU u) (wc : WC u c) (hmx : mx < u.c4.length) : CB 13 [.agg [.vec u.globals.length (g7 u.globals), .vec u.c4.length (g5 u.c4), .vec u.procs.length (j8 u.procs), .int .i64 u.main], .agg [.vec c.insts.length (l6 c.insts), .vec c.calls.length (m7 c.calls), .vec c.roots.length (g7 c.roots)], .int .i64 ((mx : Nat) : Int)] h (.vec c.insts.length (u6 (uO u c mx))) := by
  refine .bz Tryz.f13 41 ?_
  have hwl := wc.len
  have hk8 : kM u mx ≤ 8 := yM
  have hk9 : yW (u.c4.getD mx w8) ≤ 8 := hk8
  have hml := hu.ml
  refine .z ?_
  refine c20z ?_
  refine .ch rfl rfl (OK hu wc hmx) ?_
  refine .n ?_
  refine c5z ?_
  refine .aB (fun m st => ∃ (Sx : List (List Nat)) (ag : Bool), (m = RD c.insts.length Sx ag ∧ (Low u c mx Sx ∧ (ag = false → Sx = uO u c mx))) ∧ st = ⟨mkS 41 [(2, AV.int .i64 ((mx : Nat) : Int)), (3, AV.ptr h.length 0 0), (4, AV.ptr (h.length + 1) 0 0), (7, AV.own (h.length + 4) 0 0 c.insts.length), (8, AV.bool ag)], h ++ [⟨0, false, 30, 4, [.vec u.globals.length (g7 u.globals), .vec u.c4.length (g5 u.c4), .vec u.procs.length (j8 u.procs), .int .i64 u.main], 0⟩, ⟨0, false, 34, 3, [.vec c.insts.length (l6 c.insts), .vec c.calls.length (m7 c.calls), .vec c.roots.length (g7 c.roots)], 0⟩, ⟨0, false, 30, 4, [.vec u.globals.length (g7 u.globals), .vec u.c4.length (g5 u.c4), .vec u.procs.length (j8 u.procs), .int .i64 u.main], 0⟩, ⟨0, false, 34, 3, [.vec c.insts.length (l6 c.insts), .vec c.calls.length (m7 c.calls), .vec c.roots.length (g7 c.roots)], 0⟩, ⟨0, false, 22, 1, u6 Sx, 0⟩]⟩) (.v ⟨(yL u c mx), true, ⟨rfl, ⟨Low.zero, fun h => by cases h⟩⟩, rfl⟩) ?_ (he := t162)
  rintro m sl h' ⟨Sx, ag, ⟨hm, ⟨hL, hdone⟩⟩, hst⟩
  obtain ⟨rfl, rfl⟩ := St.mk.inj hst; clear hst
  refine c0z ?_
  refine u2z ?_ ?_
  ·intro e1 qe1
   refine c168z ?_
   have hag : ag = true := by assumption
   subst hag
   refine .z ?_
   refine c17z ?_
   refine .aB (fun m st => ∃ (S1 : List (List Nat)) (a1 : Bool) (i : Nat), (m = i ∧ (OfI u c mx Sx S1 a1 i ∧ i ≤ c.insts.length)) ∧ st = ⟨mkS 41 [(2, AV.int .i64 ((mx : Nat) : Int)), (3, AV.ptr h.length 0 0), (4, AV.ptr (h.length + 1) 0 0), (7, AV.own (h.length + 4) 0 0 c.insts.length), (8, AV.bool a1), (9, AV.int .i64 (((i : Nat) : Int) - 1))], h ++ [⟨0, false, 30, 4, [.vec u.globals.length (g7 u.globals), .vec u.c4.length (g5 u.c4), .vec u.procs.length (j8 u.procs), .int .i64 u.main], 0⟩, ⟨0, false, 34, 3, [.vec c.insts.length (l6 c.insts), .vec c.calls.length (m7 c.calls), .vec c.roots.length (g7 c.roots)], 0⟩, ⟨0, false, 30, 4, [.vec u.globals.length (g7 u.globals), .vec u.c4.length (g5 u.c4), .vec u.procs.length (j8 u.procs), .int .i64 u.main], 0⟩, ⟨0, false, 34, 3, [.vec c.insts.length (l6 c.insts), .vec c.calls.length (m7 c.calls), .vec c.roots.length (g7 c.roots)], 0⟩, ⟨0, false, 22, 1, u6 S1, 0⟩]⟩) (.v ⟨Sx, false, c.insts.length, ⟨rfl, ⟨OfI.start hL, Nat.le_refl _⟩⟩, rfl⟩) ?_
   rintro m sl h' ⟨S1, a1, i, ⟨hm, ⟨hO, hi⟩⟩, hst⟩
   obtain ⟨rfl, rfl⟩ := St.mk.inj hst; clear hst
   have hS1 : S1.length = c.insts.length := hO.low.tb.1
   refine c0z ?_
   refine u2z ?_ ?_
   ·intro e2 qe2
    refine c2z ?_
    obtain ⟨i, rfl⟩ : ∃ i', i = i' + 1 := ⟨i - 1, by omega⟩
    simp only [K1]
    refine c21z ?_
    refine .ca rfl rfl (c_exitO hu wc hmx hO.low.tb (show i < c.insts.length by omega) (fun l0 => AA hu wc hmx hO.low.tb (show i < c.insts.length by omega) (β := h.length + 4) (g := 0) t36 l0)) ?_
    refine .n ?_
    refine .c7 [2, 3, 4, 7, 8, 9, 10] ?_
    refine c21z ?_
    refine .ca rfl rfl (OJ _ _ (by have := (D3 (u := u) (c := c) (m := mx) S1 i).1; omega)) ?_
    refine .n ?_
    refine u2z ?_ ?_
    ·intro e3 qe3
     refine .c7 [2, 3, 4, 7, 9, 10] ?_
     refine c51z ?_
     exact ⟨_, by omega, .v ⟨(S1.set i (exT u c mx S1 i)), true, i, ⟨rfl, ⟨hO.set hu wc (by omega) (by assumption), by omega⟩⟩, rfl⟩ (hk := t95)⟩
    intro e3 qe3
    refine c3z ?_
    refine .c7 [2, 3, 4, 7, 8, 9] ?_
    refine .rz ?_
    exact ⟨_, by omega, .v ⟨S1, a1, i, ⟨rfl, ⟨hO.same (by assumption), by omega⟩⟩, rfl⟩ (hk := t95)⟩
   intro e2 qe2
   refine .exit ?_
   obtain rfl : i = 0 := by omega
   have hlt := mOf_lt hO
   exact ⟨_, by omega, .v ⟨S1, a1, ⟨rfl, ⟨hO.low, fun h => by subst h; exact hO.done hu wc⟩⟩, rfl⟩ (hk := t95)⟩
  intro e1 qe1
  refine c100z ?_
  exact ⟨_, _, rfl, XF t36 (by omega) hL.tb.1, by (rw [hdone (by assumption)])⟩
end Go.Proofs.YtfbjlfhjkojmkaaGreat
end
section
namespace Go.Proofs.YtfbjlfhjkojmkaaGreat
open Go.Ab Go.Un
def iG (A : c6) (B : Blk) (R : c6) : c6 := A ++ B :: R
variable {A R : c6} {B : Blk}
theorem rS {l : c6} : (iG A B R ++ l)[A.length]? = some B := by
  unfold iG
  rw [List.append_assoc, List.getElem?_append_right (Nat.le_refl _), Nat.sub_self]
  rfl
@[simp] theorem midH_len {A R : c6} {B : Blk} : (iG A B R).length = A.length + 1 + R.length := by unfold iG; simp; omega
theorem OL {l : c6} : iG A B R ++ l = iG A B (R ++ l) := by unfold iG; rw [List.append_assoc, List.cons_append]
theorem midH_of {H : c6} {β : Nat} (h : H[β]? = some B) : ∃ A R, H = iG A B R ∧ A.length = β := by
  obtain ⟨hlt, hget⟩ := List.getElem?_eq_some_iff.1 h
  exact ⟨H.take β, H.drop (β + 1), by rw [iG, ← hget, ← List.drop_eq_getElem_cons hlt, List.take_append_drop], by rw [List.length_take]; omega⟩
variable {h : c6}
theorem c_capRM (u : Un) (mx : Nat) : CB 36 [.agg [.str (u.c4.getD mx w8).name, .bool (u.c4.getD mx w8).re, .int .i64 (u.c4.getD mx w8).size]] h (.int .i64 ((kM u mx : Nat) : Int)) := QR _
theorem OM (k : Nat) (hk : k ≤ 8) : CB 41 [.int .i64 ((k : Nat) : Int), .int .i64 0] h (bE (dhN k 0)) :=
  (FX k 0 hk (by omega) (by omega)).mono fun y k hq => ⟨hq.1.trans (S8 _ _), hq.2⟩
variable {u : Un} {c : Clo} {mx i : Nat}
theorem c_relRN (hu : WU u) (wc : WC u c) (hmx : mx < u.c4.length) (hi : i < c.insts.length) {pc : Nat} (hp : pc < fW u c i) : CB 42 [.agg [.vec u.globals.length (g7 u.globals), .vec u.c4.length (g5 u.c4), .vec u.procs.length (j8 u.procs), .int .i64 u.main], .agg [.int .i64 (itI c i).proc, .vec (itI c i).j4.length (g7 (itI c i).j4)], .int .i64 ((pc : Nat) : Int), .int .i64 ((mx : Nat) : Int)] h (bE (dhN (kM u mx) (chI (itI c i) (mG u c i pc) mx))) :=
  (c_relR hu (gZ wc hi) hp hmx).mono fun y k hq => ⟨hq.1.trans (S8 _ _), hq.2⟩
theorem S9 (hu : WU u) {it : u3} (w : WIt u it) {pc : Nat} (hpc : pc < (c8 u it).length) : CB 44 [.agg [.vec u.globals.length (g7 u.globals), .vec u.c4.length (g5 u.c4), .vec u.procs.length (j8 u.procs), .int .i64 u.main], .agg [.int .i64 it.proc, .vec it.j4.length (g7 it.j4)], .int .i64 ((pc : Nat) : Int)] h (.vec (s8 ((c8 u it).getD pc g6) pc).length (g7 (s8 ((c8 u it).getD pc g6) pc))) := c_nextR hu w hpc
attribute [local go_sem] rd bE u7 aK s4 n6 l9 dO aT Int.natCast_nonneg Int.natCast_inj dC jR gY jS lD pP J9 vU jV vV Z5 lY tT tU pQ List.length_set List.length_replicate Int.toNat_natCast_add_one kX wrap64 K1 List.length_map lE jU rS
theorem HM {g : Nat} (hu : WU u) (wc : WC u c) (hmx : mx < u.c4.length) {S : List (List Nat)} (hS : Tb (kM u mx) c.insts.length S) (hi : i < c.insts.length) : CB 19 [.agg [.vec u.globals.length (g7 u.globals), .vec u.c4.length (g5 u.c4), .vec u.procs.length (j8 u.procs), .int .i64 u.main], .agg [.vec c.insts.length (l6 c.insts), .vec c.calls.length (m7 c.calls), .vec c.roots.length (g7 c.roots)], .int .i64 ((mx : Nat) : Int), .own A.length g 0 c.insts.length, .int .i64 ((i : Nat) : Int)] (iG A ⟨g, false, 22, 1, u6 S, 0⟩ R) (.vec (fW u c i) (u6 (S6 u c mx S i))) := by
  refine .bz Tryz.f19 136 ?_
  have w := gZ wc hi
  have w1 := w.lo; have w2 := w.hi
  have hsz : (c8 u (itI c i)).length ≤ 1664 := r7 hu w
  have hwl := wc.len
  have hk8 : kM u mx ≤ 8 := yM
  have hk9 : yW (u.c4.getD mx w8) ≤ 8 := hk8
  have hml := hu.ml
  have p : Pro (kM u mx) (c8 u (itI c i)).length (nxI u c i) (stS u c mx S i) := XC hu wc hS hi
  have hps := p.pos
  have hcl := wc.cl
  have hcll : (c.calls.getD i []).length = (c8 u (itI c i)).length := wc.cll i hi
  have hSl := hS.1
  have hcall : ∀ pc, pc < (c8 u (itI c i)).length → (mG u c i pc).op = 2 → 0 ≤ (c.calls.getD i []).getD pc 0 ∧ (c.calls.getD i []).getD pc 0 < c.insts.length := fun pc hp ho => by have := (wc.call i hi pc hp).1 (.inl ho); exact ⟨this.1, this.2.1⟩
  refine c19z ?_
  refine .c7 [2, 3, 4, 5, 6, 11] ?_
  refine c185z ?_
  refine .n ?_
  refine c66z ?_
  refine c31z ?_
  refine .c7 [2, 3, 4, 5, 6, 11, 12, 13] ?_
  refine c17z ?_
  refine .aB (fun m st => ∃ (j : Nat), (m = (c8 u (itI c i)).length - j ∧ (j ≤ (c8 u (itI c i)).length)) ∧ st = ⟨mkS 136 [(2, AV.int .i64 ((mx : Nat) : Int)), (3, AV.own A.length g 0 c.insts.length), (4, AV.int .i64 ((i : Nat) : Int)), (5, AV.ptr (iG A ⟨g, false, 22, 1, u6 S, 0⟩ R).length 0 0), (6, AV.ptr ((iG A ⟨g, false, 22, 1, u6 S, 0⟩ R).length + 1) 0 0), (11, AV.ptr ((iG A ⟨g, false, 22, 1, u6 S, 0⟩ R).length + 2) 0 0), (12, AV.int .i64 (((kM u mx) : Nat) : Int)), (13, AV.own ((iG A ⟨g, false, 22, 1, u6 S, 0⟩ R).length + 3) 0 0 (c8 u (itI c i)).length), (14, AV.int .i64 ((j : Nat) : Int))], (iG A ⟨g, false, 22, 1, u6 S, 0⟩ R) ++ [⟨0, false, 30, 4, [.vec u.globals.length (g7 u.globals), .vec u.c4.length (g5 u.c4), .vec u.procs.length (j8 u.procs), .int .i64 u.main], 0⟩, ⟨0, false, 34, 3, [.vec c.insts.length (l6 c.insts), .vec c.calls.length (m7 c.calls), .vec c.roots.length (g7 c.roots)], 0⟩, ⟨0, false, 69, 2, [.int .i64 (itI c i).proc, .vec (itI c i).j4.length (g7 (itI c i).j4)], 0⟩, ⟨0, false, 22, 1, yO (c8 u (itI c i)).length j (List.replicate (kM u mx + 1) 0), 0⟩]⟩) (.v ⟨0, ⟨rfl, by omega⟩, rfl⟩) ?_ (he := by (rw [uF]))
  rintro m sl h' ⟨j, ⟨hm, hj⟩, hst⟩
  obtain ⟨rfl, rfl⟩ := St.mk.inj hst; clear hst
  refine c0z ?_
  refine u2z ?_ ?_
  ·intro e1 qe1
   refine c2z ?_
   refine c1z ?_
   refine .c7 [2, 3, 4, 5, 6, 11, 12, 13, 14] ?_
   refine c9.XI (β := (iG A ⟨g, false, 22, 1, u6 S, 0⟩ R).length + 3) (γ := (iG A ⟨g, false, 22, 1, u6 S, 0⟩ R).length + 4) (A := u6 (List.replicate j (List.replicate (kM u mx + 1) 0))) (R := List.replicate ((c8 u (itI c i)).length - (j + 1)) AV.j6) (zs := (List.replicate (kM u mx + 1) 0)) (len := kM u mx + 1) t36 t36 (by simp) (by omega) ?_
   refine c45z ?_
   exact ⟨_, by omega, .v ⟨(j + 1), ⟨rfl, by omega⟩, rfl⟩ (he := t106) (hk := by exact (z4.refl _).app rfl ⟨.inl rfl, .inl rfl, .inl rfl, .inr (uG _), trivial⟩)⟩
  intro e1 qe1
  refine .exit ?_
  obtain rfl : j = (c8 u (itI c i)).length := by omega
  simp only [yP]
  change c9 ..
  refine c30z ?_
  refine .ca rfl rfl (OM _ hk8) ?_
  refine c31z ?_
  refine .c7 [2, 3, 4, 5, 6, 11, 13] ?_
  refine c17z ?_
  refine .aB (fun m st => ∃ (T : List (List Nat)) (ag : Bool), (m = RD (c8 u (itI c i)).length T ag ∧ (Gro (kM u mx) (c8 u (itI c i)).length (nxI u c i) (stS u c mx S i) T ∧ (ag = false → T = dD (kM u mx) (c8 u (itI c i)).length (nxI u c i) (stS u c mx S i)))) ∧ st = ⟨mkS 136 [(2, AV.int .i64 ((mx : Nat) : Int)), (3, AV.own A.length g 0 c.insts.length), (4, AV.int .i64 ((i : Nat) : Int)), (5, AV.ptr (iG A ⟨g, false, 22, 1, u6 S, 0⟩ R).length 0 0), (6, AV.ptr ((iG A ⟨g, false, 22, 1, u6 S, 0⟩ R).length + 1) 0 0), (11, AV.ptr ((iG A ⟨g, false, 22, 1, u6 S, 0⟩ R).length + 2) 0 0), (13, AV.own ((iG A ⟨g, false, 22, 1, u6 S, 0⟩ R).length + 3) 0 0 (c8 u (itI c i)).length), (15, AV.bool ag)], (iG A ⟨g, false, 22, 1, u6 S, 0⟩ R) ++ [⟨0, false, 30, 4, [.vec u.globals.length (g7 u.globals), .vec u.c4.length (g5 u.c4), .vec u.procs.length (j8 u.procs), .int .i64 u.main], 0⟩, ⟨0, false, 34, 3, [.vec c.insts.length (l6 c.insts), .vec c.calls.length (m7 c.calls), .vec c.roots.length (g7 c.roots)], 0⟩, ⟨0, false, 69, 2, [.int .i64 (itI c i).proc, .vec (itI c i).j4.length (g7 (itI c i).j4)], 0⟩, ⟨0, false, 22, 1, u6 T, 0⟩]⟩) (.v ⟨((List.replicate (c8 u (itI c i)).length (List.replicate (kM u mx + 1) 0)).set 0 (dhN (kM u mx) 0)), true, ⟨rfl, ⟨Gro.start p, fun hf => by cases hf⟩⟩, rfl⟩) ?_
  rintro m sl h' ⟨T, ag, ⟨hm, ⟨hG, hdone⟩⟩, hst⟩
  obtain ⟨rfl, rfl⟩ := St.mk.inj hst; clear hst
  refine c0z ?_
  refine u2z ?_ ?_
  ·intro e2 qe2
   refine c168z ?_
   have hag : ag = true := by assumption
   subst hag
   refine .z ?_
   refine c17z ?_
   refine .aB (fun m st => ∃ (T1 : List (List Nat)) (a1 : Bool) (pc : Nat), (m = (c8 u (itI c i)).length - pc ∧ (IN (kM u mx) (c8 u (itI c i)).length (nxI u c i) (stS u c mx S i) T T1 a1 pc ∧ pc ≤ (c8 u (itI c i)).length)) ∧ st = ⟨mkS 136 [(2, AV.int .i64 ((mx : Nat) : Int)), (3, AV.own A.length g 0 c.insts.length), (4, AV.int .i64 ((i : Nat) : Int)), (5, AV.ptr (iG A ⟨g, false, 22, 1, u6 S, 0⟩ R).length 0 0), (6, AV.ptr ((iG A ⟨g, false, 22, 1, u6 S, 0⟩ R).length + 1) 0 0), (11, AV.ptr ((iG A ⟨g, false, 22, 1, u6 S, 0⟩ R).length + 2) 0 0), (13, AV.own ((iG A ⟨g, false, 22, 1, u6 S, 0⟩ R).length + 3) 0 0 (c8 u (itI c i)).length), (15, AV.bool a1), (16, AV.int .i64 ((pc : Nat) : Int))], (iG A ⟨g, false, 22, 1, u6 S, 0⟩ R) ++ [⟨0, false, 30, 4, [.vec u.globals.length (g7 u.globals), .vec u.c4.length (g5 u.c4), .vec u.procs.length (j8 u.procs), .int .i64 u.main], 0⟩, ⟨0, false, 34, 3, [.vec c.insts.length (l6 c.insts), .vec c.calls.length (m7 c.calls), .vec c.roots.length (g7 c.roots)], 0⟩, ⟨0, false, 69, 2, [.int .i64 (itI c i).proc, .vec (itI c i).j4.length (g7 (itI c i).j4)], 0⟩, ⟨0, false, 22, 1, u6 T1, 0⟩]⟩) (.v ⟨T, false, 0, ⟨rfl, ⟨IN.start hG, by omega⟩⟩, rfl⟩) ?_
   rintro m sl h' ⟨T1, a1, pc, ⟨hm, ⟨hP, hpl⟩⟩, hst⟩
   obtain ⟨rfl, rfl⟩ := St.mk.inj hst; clear hst
   have hT1 : T1.length = (c8 u (itI c i)).length := hP.g.tb.1
   refine c0z ?_
   refine u2z ?_ ?_
   ·intro e3 qe3
    refine c2z ?_
    have hpc : pc < (c8 u (itI c i)).length := by omega
    have hop : mG u c i pc = (c8 u (itI c i)).getD pc g6 := rfl
    refine c25z ?_
    refine .ca rfl rfl (c_relRN hu wc hmx hi (show pc < fW u c i by show pc < (c8 u (itI c i)).length; omega)) ?_
    refine c31z ?_
    refine .c7 [2, 3, 4, 5, 6, 11, 13, 15, 16, 17] ?_
    refine c134z ?_
    refine u2z ?_ ?_
    ·intro e4 qe4
     refine .c7 [2, 3, 4, 5, 6, 11, 13, 15, 16] ?_
     obtain ⟨hc1, hc2⟩ := hcall pc hpc (by rw [hop]; omega)
     refine c124z ?_
     refine .c7 [2, 3, 4, 5, 6, 11, 13, 15, 16, 17] ?_
     have hst2 : S.getD ((c.calls.getD i []).getD pc 0).toNat [] = stS u c mx S i pc := by unfold stS; rw [if_pos (show (mG u c i pc).op = 2 from by rw [hop]; omega)]; first | done | rfl
     rw [hst2]
     have hst1 := p.st pc hpc
     have hTp := hP.g.tb.get hpc
     obtain ⟨hR, hle⟩ := hP.g.aft p hpc
     have hnl := tQ (x := (c8 u (itI c i)).getD pc g6) (pc := pc)
     refine .ss s3 (mkP 12 [0, 0, 3, 7, 0, 31, 0, 0, 0, 511, 1023, 2047] []) ?_
     refine .k 5 [] ?_
     refine .ca rfl rfl (GZ _ _ (hst1.lt hk8) (by have := hst1.1; omega) (hTp.lt hk8) (by have := hTp.1; omega)) ?_
     refine .k 3 [] ?_
     refine .ca rfl rfl (S9 hu w hpc) ?_
     refine .n [] ?_
     refine .c7 [2, 3, 4, 5, 6, 11, 13, 15, 16, 18, 19] ?_
     refine c17z ?_
     refine .aB (fun m st => ∃ (T2 : List (List Nat)) (a2 : Bool) (j : Nat), (m = (s8 ((c8 u (itI c i)).getD pc g6) pc).length - j ∧ (HB (kM u mx) (c8 u (itI c i)).length (nxI u c i) (stS u c mx S i) T T2 a2 pc (T1.getD pc []) j ∧ j ≤ (s8 ((c8 u (itI c i)).getD pc g6) pc).length)) ∧ st = ⟨mkS 136 [(2, AV.int .i64 ((mx : Nat) : Int)), (3, AV.own A.length g 0 c.insts.length), (4, AV.int .i64 ((i : Nat) : Int)), (5, AV.ptr (iG A ⟨g, false, 22, 1, u6 S, 0⟩ R).length 0 0), (6, AV.ptr ((iG A ⟨g, false, 22, 1, u6 S, 0⟩ R).length + 1) 0 0), (11, AV.ptr ((iG A ⟨g, false, 22, 1, u6 S, 0⟩ R).length + 2) 0 0), (13, AV.own ((iG A ⟨g, false, 22, 1, u6 S, 0⟩ R).length + 3) 0 0 (c8 u (itI c i)).length), (15, AV.bool a2), (16, AV.int .i64 ((pc : Nat) : Int)), (18, bE (o5 (T1.getD pc []) (stS u c mx S i pc))), (19, AV.vec (s8 ((c8 u (itI c i)).getD pc g6) pc).length (g7 (s8 ((c8 u (itI c i)).getD pc g6) pc))), (20, AV.int .i64 ((j : Nat) : Int))], (iG A ⟨g, false, 22, 1, u6 S, 0⟩ R) ++ [⟨0, false, 30, 4, [.vec u.globals.length (g7 u.globals), .vec u.c4.length (g5 u.c4), .vec u.procs.length (j8 u.procs), .int .i64 u.main], 0⟩, ⟨0, false, 34, 3, [.vec c.insts.length (l6 c.insts), .vec c.calls.length (m7 c.calls), .vec c.roots.length (g7 c.roots)], 0⟩, ⟨0, false, 69, 2, [.int .i64 (itI c i).proc, .vec (itI c i).j4.length (g7 (itI c i).j4)], 0⟩, ⟨0, false, 22, 1, u6 T2, 0⟩]⟩) (.v ⟨T1, a1, 0, ⟨rfl, ⟨hP.go, by omega⟩⟩, rfl⟩) ?_
     rintro m sl h' ⟨T2, a2, j, ⟨hm, ⟨hQ, hj⟩⟩, hst⟩
     obtain ⟨rfl, rfl⟩ := St.mk.inj hst; clear hst
     have hT2 : T2.length = (c8 u (itI c i)).length := hQ.g.tb.1
     refine c0z ?_
     refine u2z ?_ ?_
     ·intro e5 qe5
      refine c2z ?_
      obtain ⟨hq1, hq2⟩ := p.nx pc hpc _ (l4 (d := 0) (show j < (nxI u c i pc).length from by show j < (s8 ((c8 u (itI c i)).getD pc g6) pc).length; omega))
      rw [show nxI u c i pc = (s8 ((c8 u (itI c i)).getD pc g6) pc) from rfl] at hq1 hq2
      have hjn : j < (nxI u c i pc).length := by show j < (s8 ((c8 u (itI c i)).getD pc g6) pc).length; omega
      have hq3 : ((s8 ((c8 u (itI c i)).getD pc g6) pc).getD j 0).toNat < (c8 u (itI c i)).length := by omega
      have hRq := hQ.g.tb.get hq3
      refine c66z ?_
      refine .ca rfl rfl (rR _ _ (hR.lt hk8) (hRq.lt hk8) (by have := hRq.1; omega) t151) ?_
      refine .n ?_
      refine .c7 [2, 3, 4, 5, 6, 11, 13, 15, 16, 18, 19, 20, 21] ?_
      refine c66z ?_
      refine .ca rfl rfl (GY _ _ (by rw [oI]; have := hRq.1; omega)) ?_
      refine .n ?_
      refine u2z ?_ ?_
      ·intro e6 qe6
       refine .c7 [2, 3, 4, 5, 6, 11, 13, 16, 18, 19, 20, 21] ?_
       refine c124z ?_
       refine c119z ?_
       exact ⟨_, by omega, .v ⟨(T2.set ((s8 ((c8 u (itI c i)).getD pc g6) pc).getD j 0).toNat (bY (T2.getD ((s8 ((c8 u (itI c i)).getD pc g6) pc).getD j 0).toNat []) (o5 (T1.getD pc []) (stS u c mx S i pc)))), true, (j + 1), ⟨rfl, ⟨hQ.grow p hpc hR hle hjn rfl (fun hs => absurd ((dP hRq hR).2 hs) (by assumption)), by omega⟩⟩, rfl⟩ (he := t35) (hk := t50)⟩
      intro e6 qe6
      refine c3z ?_
      refine c119z ?_
      exact ⟨_, by omega, .v ⟨T2, a2, (j + 1), ⟨rfl, ⟨hQ.skip ((dP hRq hR).1 (by assumption)), by omega⟩⟩, rfl⟩ (he := t35) (hk := t50)⟩
     intro e5 qe5
     refine .exit ?_
     obtain rfl : j = (s8 ((c8 u (itI c i)).getD pc g6) pc).length := by omega
     change c9 ..
     refine .rz ?_
     exact ⟨_, by omega, .v ⟨T2, a2, (pc + 1), ⟨rfl, ⟨hQ.fin, by omega⟩⟩, rfl⟩ (he := t35) (hk := t50)⟩
    intro e4 qe4
    refine .sk ?_
    refine .c7 [2, 3, 4, 5, 6, 11, 13, 15, 16, 17] ?_
    have hst2 : dhN (kM u mx) (chI (itI c i) (mG u c i pc) mx) = stS u c mx S i pc := by unfold stS; rw [if_neg (show ¬ (mG u c i pc).op = 2 from by rw [hop]; omega)]; first | done | rfl
    rw [hst2]
    have hst1 := p.st pc hpc
    have hTp := hP.g.tb.get hpc
    obtain ⟨hR, hle⟩ := hP.g.aft p hpc
    have hnl := tQ (x := (c8 u (itI c i)).getD pc g6) (pc := pc)
    refine .ss s3 (mkP 12 [0, 0, 3, 7, 0, 31, 0, 0, 0, 511, 1023, 2047] []) ?_
    refine .k 5 [] ?_
    refine .ca rfl rfl (GZ _ _ (hst1.lt hk8) (by have := hst1.1; omega) (hTp.lt hk8) (by have := hTp.1; omega)) ?_
    refine .k 3 [] ?_
    refine .ca rfl rfl (S9 hu w hpc) ?_
    refine .n [] ?_
    refine .c7 [2, 3, 4, 5, 6, 11, 13, 15, 16, 18, 19] ?_
    refine c17z ?_
    refine .aB (fun m st => ∃ (T2 : List (List Nat)) (a2 : Bool) (j : Nat), (m = (s8 ((c8 u (itI c i)).getD pc g6) pc).length - j ∧ (HB (kM u mx) (c8 u (itI c i)).length (nxI u c i) (stS u c mx S i) T T2 a2 pc (T1.getD pc []) j ∧ j ≤ (s8 ((c8 u (itI c i)).getD pc g6) pc).length)) ∧ st = ⟨mkS 136 [(2, AV.int .i64 ((mx : Nat) : Int)), (3, AV.own A.length g 0 c.insts.length), (4, AV.int .i64 ((i : Nat) : Int)), (5, AV.ptr (iG A ⟨g, false, 22, 1, u6 S, 0⟩ R).length 0 0), (6, AV.ptr ((iG A ⟨g, false, 22, 1, u6 S, 0⟩ R).length + 1) 0 0), (11, AV.ptr ((iG A ⟨g, false, 22, 1, u6 S, 0⟩ R).length + 2) 0 0), (13, AV.own ((iG A ⟨g, false, 22, 1, u6 S, 0⟩ R).length + 3) 0 0 (c8 u (itI c i)).length), (15, AV.bool a2), (16, AV.int .i64 ((pc : Nat) : Int)), (18, bE (o5 (T1.getD pc []) (stS u c mx S i pc))), (19, AV.vec (s8 ((c8 u (itI c i)).getD pc g6) pc).length (g7 (s8 ((c8 u (itI c i)).getD pc g6) pc))), (20, AV.int .i64 ((j : Nat) : Int))], (iG A ⟨g, false, 22, 1, u6 S, 0⟩ R) ++ [⟨0, false, 30, 4, [.vec u.globals.length (g7 u.globals), .vec u.c4.length (g5 u.c4), .vec u.procs.length (j8 u.procs), .int .i64 u.main], 0⟩, ⟨0, false, 34, 3, [.vec c.insts.length (l6 c.insts), .vec c.calls.length (m7 c.calls), .vec c.roots.length (g7 c.roots)], 0⟩, ⟨0, false, 69, 2, [.int .i64 (itI c i).proc, .vec (itI c i).j4.length (g7 (itI c i).j4)], 0⟩, ⟨0, false, 22, 1, u6 T2, 0⟩]⟩) (.v ⟨T1, a1, 0, ⟨rfl, ⟨hP.go, by omega⟩⟩, rfl⟩) ?_
    rintro m sl h' ⟨T2, a2, j, ⟨hm, ⟨hQ, hj⟩⟩, hst⟩
    obtain ⟨rfl, rfl⟩ := St.mk.inj hst; clear hst
    have hT2 : T2.length = (c8 u (itI c i)).length := hQ.g.tb.1
    refine c0z ?_
    refine u2z ?_ ?_
    ·intro e7 qe7
     refine c2z ?_
     obtain ⟨hq1, hq2⟩ := p.nx pc hpc _ (l4 (d := 0) (show j < (nxI u c i pc).length from by show j < (s8 ((c8 u (itI c i)).getD pc g6) pc).length; omega))
     rw [show nxI u c i pc = (s8 ((c8 u (itI c i)).getD pc g6) pc) from rfl] at hq1 hq2
     have hjn : j < (nxI u c i pc).length := by show j < (s8 ((c8 u (itI c i)).getD pc g6) pc).length; omega
     have hq3 : ((s8 ((c8 u (itI c i)).getD pc g6) pc).getD j 0).toNat < (c8 u (itI c i)).length := by omega
     have hRq := hQ.g.tb.get hq3
     refine c66z ?_
     refine .ca rfl rfl (rR _ _ (hR.lt hk8) (hRq.lt hk8) (by have := hRq.1; omega) t151) ?_
     refine .n ?_
     refine .c7 [2, 3, 4, 5, 6, 11, 13, 15, 16, 18, 19, 20, 21] ?_
     refine c66z ?_
     refine .ca rfl rfl (GY _ _ (by rw [oI]; have := hRq.1; omega)) ?_
     refine .n ?_
     refine u2z ?_ ?_
     ·intro e8 qe8
      refine .c7 [2, 3, 4, 5, 6, 11, 13, 16, 18, 19, 20, 21] ?_
      refine c124z ?_
      refine c119z ?_
      exact ⟨_, by omega, .v ⟨(T2.set ((s8 ((c8 u (itI c i)).getD pc g6) pc).getD j 0).toNat (bY (T2.getD ((s8 ((c8 u (itI c i)).getD pc g6) pc).getD j 0).toNat []) (o5 (T1.getD pc []) (stS u c mx S i pc)))), true, (j + 1), ⟨rfl, ⟨hQ.grow p hpc hR hle hjn rfl (fun hs => absurd ((dP hRq hR).2 hs) (by assumption)), by omega⟩⟩, rfl⟩ (he := t35) (hk := t50)⟩
     intro e8 qe8
     refine c3z ?_
     refine c119z ?_
     exact ⟨_, by omega, .v ⟨T2, a2, (j + 1), ⟨rfl, ⟨hQ.skip ((dP hRq hR).1 (by assumption)), by omega⟩⟩, rfl⟩ (he := t35) (hk := t50)⟩
    intro e7 qe7
    refine .exit ?_
    obtain rfl : j = (s8 ((c8 u (itI c i)).getD pc g6) pc).length := by omega
    change c9 ..
    refine .rz ?_
    exact ⟨_, by omega, .v ⟨T2, a2, (pc + 1), ⟨rfl, ⟨hQ.fin, by omega⟩⟩, rfl⟩ (he := t35) (hk := t50)⟩
   intro e3 qe3
   refine .exit ?_
   obtain rfl : pc = (c8 u (itI c i)).length := by omega
   have hlt := mPas_lt hk8 hP
   exact ⟨_, by omega, .v ⟨T1, a1, ⟨rfl, ⟨hP.g, fun hf => by subst hf; exact hP.done p⟩⟩, rfl⟩ (he := t35) (hk := t50)⟩
  intro e2 qe2
  refine c8z ?_
  refine .c7 [13] ?_
  refine c33z ?_
  exact ⟨_, _, rfl, XF t36 (by omega) hG.tb.1, by (show _ = _; rw [hdone (by assumption)]; rfl)⟩
theorem ON {g : Nat} (hu : WU u) (wc : WC u c) (hmx : mx < u.c4.length) {S : List (List Nat)} (hS : Tb (kM u mx) c.insts.length S) (hi : i < c.insts.length) : CB 23 [.agg [.vec u.globals.length (g7 u.globals), .vec u.c4.length (g5 u.c4), .vec u.procs.length (j8 u.procs), .int .i64 u.main], .agg [.vec c.insts.length (l6 c.insts), .vec c.calls.length (m7 c.calls), .vec c.roots.length (g7 c.roots)], .int .i64 ((mx : Nat) : Int), .own A.length g 0 c.insts.length, .int .i64 ((i : Nat) : Int)] (iG A ⟨g, false, 22, 1, u6 S, 0⟩ R) (bE (exT u c mx S i)) := by
  refine .bz Tryz.f23 57 ?_
  have w := gZ wc hi
  have w1 := w.lo; have w2 := w.hi
  have hsz : (c8 u (itI c i)).length ≤ 1664 := r7 hu w
  have hwl := wc.len
  have hk8 : kM u mx ≤ 8 := yM
  have hk9 : yW (u.c4.getD mx w8) ≤ 8 := hk8
  have hml := hu.ml
  have hT := yN (u := u) (c := c) (m := mx) S i
  have hTl : (S6 u c mx S i).length = fW u c i := hT.1
  have hli : fW u c i ≤ 1664 := hsz
  have hlc : fW u c i = (c8 u (itI c i)).length := rfl
  refine .z ?_
  refine c21z ?_
  refine .ca rfl rfl ((by rw [OL]; exact HM hu wc hmx hS hi)) ?_
  refine .n ?_
  refine .c7 [2, 4, 5, 6, 11] ?_
  refine c185z ?_
  refine c31z ?_
  refine .c7 [4, 5, 6, 11, 12] ?_
  refine c9.XL (t := 12) (γ := ((iG A ⟨g, false, 22, 1, u6 S, 0⟩ R).length + 2)) (len := (kM u mx + 1)) t36 (by simp) (by omega) (mQ (by decide) rfl) ?_
  rw [bK]; simp only [p4, List.set_cons_succ, List.set_cons_zero]
  generalize (⟨0, false, 3, 1, (List.replicate (kM u mx + 1) 0).map s9, kM u mx + 1⟩ : Blk) = Vb
  refine c17z ?_
  refine .cJ (fun m st => ∃ (j : Nat), (m = fW u c i - j ∧ (j ≤ fW u c i)) ∧ st = ⟨mkS 57 [(4, AV.int .i64 ((i : Nat) : Int)), (5, AV.ptr (iG A ⟨g, false, 22, 1, u6 S, 0⟩ R).length 0 0), (6, AV.ptr ((iG A ⟨g, false, 22, 1, u6 S, 0⟩ R).length + 1) 0 0), (11, AV.vec (fW u c i) (u6 (S6 u c mx S i))), (12, bE (J6 u c mx i (S6 u c mx S i) j)), (13, AV.int .i64 ((j : Nat) : Int))], (iG A ⟨g, false, 22, 1, u6 S, 0⟩ R) ++ [⟨0, false, 30, 4, [.vec u.globals.length (g7 u.globals), .vec u.c4.length (g5 u.c4), .vec u.procs.length (j8 u.procs), .int .i64 u.main], 0⟩, ⟨0, false, 34, 3, [.vec c.insts.length (l6 c.insts), .vec c.calls.length (m7 c.calls), .vec c.roots.length (g7 c.roots)], 0⟩, Vb]⟩) _ (.v ⟨0, ⟨rfl, by omega⟩, rfl⟩ (hs := t22)) ?_
  rintro m sl h' ⟨j, ⟨hm, hj⟩, hst⟩
  obtain ⟨rfl, rfl⟩ := St.mk.inj hst
  have hop : (mG u c i j).op = ((c8 u (itI c i)).getD j g6).op := rfl
  refine c0z ?_
  refine u2z ?_ ?_
  ·intro e1 qe1
   refine c2z ?_
   have hTj := hT.get (i := j) (by omega)
   have hEj := mU (u := u) (c := c) (m := mx) i (S6 u c mx S i) j
   refine .ss s3 (mkP 16 [0, 1, 0, 4, 0, 28, 60, 124, 255, 511, 1023, 0, 4095, 8191, 16383, 32767] []) ?_
   refine c59z ?_
   refine u2z ?_ ?_
   ·intro e2 qe2
    refine .c7 [4, 5, 6, 11, 12, 13] ?_
    refine .r ?_
    refine .e 5 ?_
    refine .ca rfl rfl (rR _ _ (hTj.lt hk8) (hEj.lt hk8) (by have := hEj.1; omega) t178) ?_
    refine c29z ?_
    refine .rz ?_
    exact ⟨_, by omega, .v ⟨(j + 1), ⟨rfl, by omega⟩, rfl⟩ (hs := t22)⟩
   intro e2 qe2
   refine c3z ?_
   refine .c7 [4, 5, 6, 11, 12, 13] ?_
   refine .rz ?_
   exact ⟨_, by omega, .v ⟨(j + 1), ⟨rfl, by omega⟩, rfl⟩ (hs := t22)⟩
  intro e1 qe1
  refine .exit ?_
  obtain rfl : j = fW u c i := by omega
  change c9 ..
  refine .c7 [12] ?_
  refine .z ?_
  exact .ret (.ex (hq := by rfl))
end Go.Proofs.YtfbjlfhjkojmkaaGreat
end
section
namespace Go.Proofs.YtfbjlfhjkojmkaaGreat
open Go.Ab Go.Un
theorem yQ {h l : c6} {b0 b1 : Blk} {T : List (List Nat)} {r : List Nat} {g n : Nat} (hn : T.length = n) (hl : n < 100000) : j5 cfg 22 (h ++ (b0 :: b1 :: p5 22 1 g (u6 T) :: ⟨0, false, 22, 1, [.vec r.length (r.map s9)], 0⟩ :: l)) (.own (h.length + 2) g 0 n) (.own (h.length + 3) 0 0 1) = some (.own (h.length + 2) (g + 1) 0 (n + 1), h ++ (b0 :: b1 :: p5 22 1 (g + 1) (u6 (T ++ [r])) :: ⟨0, false, 22, 1, [.vec r.length (r.map s9)], 0⟩ :: l)) := by
 subst hn
 rw [z7 (C := cfg) (K := 1) (m := 1) (new := [.vec r.length (r.map s9)]) (zs := u6 T) t36 rfl (by omega) (by simp [u6]) rfl (by omega) t177 rfl (by decide) (by omega), p4, show u6 T ++ [AV.vec r.length (r.map s9)] = u6 (T ++ [r]) from by simp [u6, bE]]
 rfl
variable {l : List Int}
theorem K2 {a : Nat} : List.take (l.length - a) (List.drop a (g7 l)) = g7 (l.drop a) := by
 unfold g7
 rw [← List.map_drop, List.take_of_length_le (by simp)]
def IP (u : Un) (c : Clo) (mx : Nat) (l : List Int) : List (List Nat) := (List.range c.insts.length).map fun i => AH (l.drop (min l.length (i * (kM u mx + 1)))) (kM u mx)
theorem uH {u : Un} {c : Clo} {mx : Nat} : Tb (kM u mx) c.insts.length (IP u c mx l) := by
 refine ⟨by simp [IP], fun r hr => ?_⟩
 obtain ⟨i, _, rfl⟩ := List.mem_map.1 hr
 refine ⟨GF _ _, fun x hx => ?_⟩
 obtain ⟨d, _, rfl⟩ := List.mem_map.1 hx
 exact relV_lt _ _ _
theorem OO {u : Un} {c : Clo} {mx i : Nat} (hi : i < c.insts.length) : (IP u c mx l).take i ++ [AH (l.drop (min l.length (i * (kM u mx + 1)))) (kM u mx)] = (IP u c mx l).take (i + 1) := by
 have hl : i < (IP u c mx l).length := by rw [uH.1]; exact hi
 rw [List.take_add_one, List.getElem?_eq_getElem hl]
 simp [IP]
theorem OP {T : List (List Nat)} {n : Nat} (h : T.length = n) : T.take n = T := List.take_of_length_le (by omega)
attribute [local go_sem] rd bE u7 aK s4 n6 l9 dO aT Int.natCast_nonneg Int.natCast_inj dC jR gY jS lD pP J9 vU jV vV Z5 lY tT tU pQ List.length_set List.length_replicate Int.toNat_natCast_add_one kX wrap64 K1 List.length_map lE jU rS yQ K2 jV
end Go.Proofs.YtfbjlfhjkojmkaaGreat
end
section
namespace Go.Proofs.YtfbjlfhjkojmkaaGreat
open Go.Ab Go.Un
attribute [local go_sem] l9 y0 n6 z9 m9 Int.natCast_nonneg Int.natCast_inj List.length_map bM hB_1 hB_2 hB_5 TZ UA UB UC dY xW eD H6
variable {c : Core} {e : Frame} {left I : Int}
theorem RG {l : c6} (hc : OkC c) (hI : OkI c.L I) (hL : c.L.length < 4611686018427387904) (vars : List BA) (hN : vars.length < 1000) (f : Fu) (hp : f.params.length ≤ 2) : CH 75 [.ptr 5 0 0, .agg (cZ f), .vec vars.length (w5 vars)] (hB c e I left ++ l) (.agg (O2 (q9 c f.params vars I).1)) (hB c e (q9 c f.params vars I).2 left ++ l) := c_ref (e := ⟨e.b0, e.b1, e.b2, e.z, e.m, e.g, e.rest ++ l⟩) hc hI hL vars hN f hp
variable {n : Nat}
theorem T3 {c : Core} {e : Frame} {I left : Int} {fb rb : Blk} {g : Nat} {zs : List AV} {x1 x2 x3 x4 x5 x6 x7 : AV} (hz : zs.length = n * 7) (hn : n < 1000) :
    j5 cfg 164 (hB c e I left ++ [fb, rb, p5 164 7 g zs, ⟨0, false, 164, 7, [x1, x2, x3, x4, x5, x6, x7], 0⟩]) (.own (e.n + 2) g 0 n) (.own (e.n + 3) 0 0 1) = some (.own (e.n + 2) (g + 1) 0 (n + 1), hB c e I left ++ [fb, rb, p5 164 7 (g + 1) (zs ++ [x1, x2, x3, x4, x5, x6, x7]), ⟨0, false, 164, 7, [x1, x2, x3, x4, x5, x6, x7], 0⟩]) := by
  have hb : (hB c e I left ++ [fb, rb, p5 164 7 g zs, ⟨0, false, 164, 7, [x1, x2, x3, x4, x5, x6, x7], 0⟩])[e.n + 2]? = some (p5 164 7 g zs) := dY
  rw [z7 (C := cfg) (K := 7) (m := 1) (new := [x1, x2, x3, x4, x5, x6, x7]) hb rfl (by omega) hz rfl (by omega) t127 rfl (by decide) (by omega), eD]
  rfl
theorem HN {c : Core} {e : Frame} {I left : Int} {fb rb : Blk} {g : Nat} {zs : List AV} {x1 x2 x3 : AV} {x : Ex} (hz : zs.length = n * 7) (hn : n < 1000) :
    j5 cfg 164 (hB c e I left ++ [fb, rb, p5 164 7 g zs, ⟨0, false, 164, 7, x1 :: x2 :: x3 :: p9 x, 0⟩]) (.own (e.n + 2) g 0 n) (.own (e.n + 3) 0 0 1) = some (.own (e.n + 2) (g + 1) 0 (n + 1), hB c e I left ++ [fb, rb, p5 164 7 (g + 1) (zs ++ x1 :: x2 :: x3 :: p9 x), ⟨0, false, 164, 7, x1 :: x2 :: x3 :: p9 x, 0⟩]) := by
  rw [aU]
  exact T3 hz hn
variable {ps l : List Pm} {vars : List BA} {j : Nat} {J : Int}
theorem args_t (h : j < l.length) (hm : (l.getD j fR).mu = true) : u9 c ps vars (l.drop j) J = (⟨true, (q9 c ps vars J).1, j9⟩ :: (u9 c ps vars (l.drop (j + 1)) (q9 c ps vars J).2).1, (u9 c ps vars (l.drop (j + 1)) (q9 c ps vars J).2).2) := by
  rw [List.drop_eq_getElem_cons h, u9, if_pos (by simpa [List.getD, h] using hm)]
theorem args_f (h : j < l.length) (hm : (l.getD j fR).mu = false) : u9 c ps vars (l.drop j) J = (⟨false, l7, (g8 c vars J).1⟩ :: (u9 c ps vars (l.drop (j + 1)) (g8 c vars J).2).1, (u9 c ps vars (l.drop (j + 1)) (g8 c vars J).2).2) := by
  rw [List.drop_eq_getElem_cons h, u9, if_neg (by rw [show l[j].mu = (l.getD j fR).mu from by simp [List.getD, h], hm]; decide)]
theorem vW {l : List Ar} {a : Ar} : aO (l ++ [a]) = aO l ++ AG a := by simp [aO]
theorem refs_A {l : List Ar} : ∀ x ∈ aO l, Refs n x := by
  intro x hx
  obtain ⟨a, _, hx⟩ := List.mem_flatMap.1 hx
  simp only [AG, aU, List.mem_cons, List.not_mem_nil, or_false] at hx
  rcases hx with rfl | rfl | rfl | rfl | rfl | rfl | rfl
  · exact .bool _
  · exact .str _
  · exact .vec _ _
  · exact .int _ _
  · exact .int _ _
  · exact .str _
  · exact .vec _ _
theorem D6 {J' : Int} {xs : List Ar} {a : Ar} (h : u9 c ps vars l I = (xs ++ (u9 c ps vars (l.drop j) J).1, (u9 c ps vars (l.drop j) J).2)) (hs : u9 c ps vars (l.drop j) J = (a :: (u9 c ps vars (l.drop (j + 1)) J').1, (u9 c ps vars (l.drop (j + 1)) J').2)) : u9 c ps vars l I = ((xs ++ [a]) ++ (u9 c ps vars (l.drop (j + 1)) J').1, (u9 c ps vars (l.drop (j + 1)) J').2) := by
  rw [h, hs]
  simp only [List.append_assoc, List.cons_append, List.nil_append]
section
attribute [local go_sem] eK wrap64 cZ O2 T3 HN jO B3 xM
theorem c_args (hc : OkC c) (hI : OkI c.L I) (hL : c.L.length < 4611686018427387904) (vars : List BA) (hN : vars.length < 1000) (f g : Fu) (hp : f.params.length ≤ 2) (hq : g.params.length ≤ 2) : CH 77 [.ptr 5 0 0, .agg (cZ f), .agg (cZ g), .vec vars.length (w5 vars)] (hB c e I left) (.vec (u9 c f.params vars g.params I).1.length (aO (u9 c f.params vars g.params I).1)) (hB c e (u9 c f.params vars g.params I).2 left) := by
  refine .wz Tryz.f77 40 ?_
  refine c56z ?_
  refine c9.F5 9 rfl ?_
  refine .aB (fun m st => ∃ (j : Nat) (J : Int) (xs : List Ar), (m = g.params.length - j ∧ (j ≤ g.params.length ∧ OkI c.L J ∧ xs.length = j ∧ u9 c f.params vars g.params I = (xs ++ (u9 c f.params vars (g.params.drop j) J).1, (u9 c f.params vars (g.params.drop j) J).2))) ∧ st = ⟨mkS 40 [(0, AV.ptr 5 0 0), (3, AV.vec vars.length (w5 vars)), (5, AV.ptr e.n 0 0), (6, AV.ptr (e.n + 1) 0 0), (9, AV.own (e.n + 2) j 0 j), (10, AV.int .i64 ((j : Nat) : Int))], hB c e J left ++ [⟨0, false, 101, 3, [.str f.name, .vec f.params.length (r9 f.params), .vec f.body.len (n8 f.body)], 0⟩, ⟨0, false, 101, 3, [.str g.name, .vec g.params.length (r9 g.params), .vec g.body.len (n8 g.body)], 0⟩, p5 164 7 j (aO xs)]⟩) (.v ⟨0, I, [], ⟨rfl, ⟨by omega, hI, rfl, rfl⟩⟩, rfl⟩ (hs := t33) (hr := t1)) ?_
  rintro m sl h' ⟨j, J, xs, ⟨hm, ⟨hj, hJ, hal, hA⟩⟩, hst⟩
  obtain ⟨rfl, rfl⟩ := St.mk.inj hst; clear hst
  have hz7 : (aO xs).length = j * 7 := by rw [bS, hal]; omega
  refine c0z ?_
  refine u2z ?_ ?_
  ·intro e1 qe1
   refine c108z ?_
   refine u2z ?_ ?_
   ·intro e2 qe2
    refine .c7 [0, 3, 5, 6, 9, 10] ?_
    refine c150z ?_
    refine .ch rfl rfl (RG hc hJ hL vars hN f hp) ?_
    refine c29z ?_
    refine .c7 [0, 3, 5, 6, 9, 10] ?_
    refine c9.nilsO (β := e.n + 2) (aO (xs ++ [(⟨true, (q9 c f.params vars J).1, j9⟩ : Ar)])) t63 (by rw [vW]; exact (mW.refl _).app MF) ?_
    simp only [eD, List.set_cons_succ, List.set_cons_zero]
    refine .rz ?_
    exact ⟨_, by omega, .v ⟨(j + 1), (q9 c f.params vars J).2, (xs ++ [(⟨true, (q9 c f.params vars J).1, j9⟩ : Ar)]), ⟨rfl, ⟨by omega, (nV hc hJ).2, by simp [hal], D6 hA (args_t (by omega) (by assumption))⟩⟩, rfl⟩ (he := t137) (hl := t25) (hk := t158) (hs := t33) (hr := t1)⟩
   intro e2 qe2
   refine .c7 [0, 3, 5, 6, 9, 10] ?_
   refine .r ?_
   refine .e 3 ?_
   refine .ch rfl rfl (Q3 hc hJ hL vars hN) ?_
   refine c29z ?_
   refine c9.nilsO (β := e.n + 2) (aO (xs ++ [(⟨false, l7, (g8 c vars J).1⟩ : Ar)])) t63 (by rw [vW]; exact (mW.refl _).app EH) ?_
   simp only [eD, List.set_cons_succ, List.set_cons_zero]
   refine .rz ?_
   exact ⟨_, by omega, .v ⟨(j + 1), (g8 c vars J).2, (xs ++ [(⟨false, l7, (g8 c vars J).1⟩ : Ar)]), ⟨rfl, ⟨by omega, (gT hJ).2, by simp [hal], D6 hA (args_f (by omega) (by assumption))⟩⟩, rfl⟩ (he := t137) (hl := t25) (hk := t158) (hs := t33) (hr := t1)⟩
  intro e1 qe1
  refine c8z ?_
  refine .c7 [9] ?_
  refine c33z ?_
  exact ⟨hB _ _ _ _, _, .vec xs.length (aO xs), rfl, t67, fC, by (show gP _ (hB c e J left ++ _) 6 (.own (e.n + 2) j 0 j) = _; rw [bM, dT, if_neg (by omega), hal]; exact iM dY (by omega) (by rw [bS, hal]; omega) (by omega) frz_A), by refine ⟨?_, ?_⟩ <;> (rw [hA, List.drop_of_length_le (by omega)]; simp only [u9, List.append_nil])⟩
end
end Go.Proofs.YtfbjlfhjkojmkaaGreat
end
section
namespace Go.Proofs.YtfbjlfhjkojmkaaGreat
open Go.Ab Go.Un
theorem c_argsA {c : Core} {e : Frame} {left I : Int} {l : c6} (hc : OkC c) (hI : OkI c.L I) (hL : c.L.length < 4611686018427387904) (vars : List BA) (hN : vars.length < 1000) (f g : Fu) (hp : f.params.length ≤ 2) (hq : g.params.length ≤ 2) : CH 77 [.ptr 5 0 0, .agg (cZ f), .agg (cZ g), .vec vars.length (w5 vars)] (hB c e I left ++ l) (.vec (u9 c f.params vars g.params I).1.length (aO (u9 c f.params vars g.params I).1)) (hB c e (u9 c f.params vars g.params I).2 left ++ l) := c_args (e := ⟨e.b0, e.b1, e.b2, e.z, e.m, e.g, e.rest ++ l⟩) hc hI hL vars hN f g hp hq
theorem sealC_n {l : List BA} : o6 oV (w5 l) = some (w5 l) := by
 induction l with
 | nil => rfl
 | cons x l ih =>
  have e : oV (.str x) = some (.str x) := rfl
  simp only [w5, List.map_cons, o6, e] at ih ⊢
  rw [ih]
variable {β : Nat}
theorem OQ {H : c6} {b : Blk} (h : H[β]? = some b) : H.set β b = H := by
 obtain ⟨h1, h2⟩ := List.getElem?_eq_some_iff.1 h
 rw [← h2]
 exact List.set_getElem_self h1
variable {g : Nat}
theorem F3 {f : FuncId} {args args' : List AV} {H : c6} {Q : AV → c6 → Prop} {vs : List BA} (hb : H[β]? = some ⟨g, false, 9, 1, w5 vs, vs.length⟩) (ha : V2 β g 0 vs.length (w5 vs) args' args) (r : CallA Tryz.prog cfg f args' H Q) : CallA Tryz.prog cfg f args H Q := by
 have e : H.set β (dI ⟨g, false, 9, 1, w5 vs, vs.length⟩ (0 + vs.length * 1)) = H := by
  rw [show dI ⟨g, false, 9, 1, w5 vs, vs.length⟩ (0 + vs.length * 1) = ⟨g, false, 9, 1, w5 vs, vs.length⟩ from by simp [dI]]
  exact OQ hb
 refine CallA.BU (β := β) (off := 0) (len := vs.length) (cs := w5 vs) hb rfl (by simp [y0]) ?_ ha (by rw [e]; exact r)
 simp only [List.drop_zero, Nat.mul_one]
 rw [List.take_of_length_le t150]
 exact sealC_n
theorem raise {c : Code} {sl : List AV} {h : c6} {Q : Exit → St → Prop} {k : Nat} {b : Blk} (hb : h[β]? = some b) (hk : b.frz ≤ k) (r : c9 Tryz.prog cfg c ⟨sl, h.set β ⟨b.gen, b.bJ, b.elem, b.esz, b.cells, k⟩⟩ Q) : c9 Tryz.prog cfg c ⟨sl, h⟩ Q := by
 refine c9.step _ (fun B φ w i => ?_) r
 have := nI k i hb
 have e : dI b k = ⟨b.gen, b.bJ, b.elem, b.esz, b.cells, k⟩ := by
  simp only [dI, Nat.max_eq_right hk]
 rw [e] at this
 exact this
section
variable {c : Core} {e : Frame} {I left : Int} {l : c6} {fb : Blk} {gv : Nat} {vs : List BA}
theorem hB_v : (hB c e I left ++ (fb :: ⟨gv, false, 9, 1, w5 vs, vs.length⟩ :: l))[e.n + 1]? = some ⟨gv, false, 9, 1, w5 vs, vs.length⟩ := dY
theorem lZ (hc : OkC c) (hI : OkI c.L I) (hL : c.L.length < 4611686018427387904) (hN : vs.length < 1000) : CH 76 [.ptr 5 0 0, .own (e.n + 1) gv 0 vs.length] (hB c e I left ++ (fb :: ⟨gv, false, 9, 1, w5 vs, vs.length⟩ :: l)) (.agg (p9 (g8 c vs I).1)) (hB c e (g8 c vs I).2 left ++ (fb :: ⟨gv, false, 9, 1, w5 vs, vs.length⟩ :: l)) :=
 F3 (args' := [.ptr 5 0 0, .vec vs.length (w5 vs)]) hB_v ⟨.inl rfl, .inr ⟨rfl, rfl⟩, trivial⟩ (Q3 hc hI hL vs hN)
theorem T4 (hc : OkC c) (hI : OkI c.L I) (hL : c.L.length < 4611686018427387904) (hN : vs.length < 1000) (f : Fu) (hp : f.params.length ≤ 2) : CH 75 [.ptr 5 0 0, .agg (cZ f), .own (e.n + 1) gv 0 vs.length] (hB c e I left ++ (fb :: ⟨gv, false, 9, 1, w5 vs, vs.length⟩ :: l)) (.agg (O2 (q9 c f.params vs I).1)) (hB c e (q9 c f.params vs I).2 left ++ (fb :: ⟨gv, false, 9, 1, w5 vs, vs.length⟩ :: l)) :=
 F3 (args' := [.ptr 5 0 0, .agg (cZ f), .vec vs.length (w5 vs)]) hB_v ⟨.inl rfl, .inl rfl, .inr ⟨rfl, rfl⟩, trivial⟩ (RG hc hI hL vs hN f hp)
theorem HO (hc : OkC c) (hI : OkI c.L I) (hL : c.L.length < 4611686018427387904) (hN : vs.length < 1000) (f g : Fu) (hp : f.params.length ≤ 2) (hq : g.params.length ≤ 2) : CH 77 [.ptr 5 0 0, .agg (cZ f), .agg (cZ g), .own (e.n + 1) gv 0 vs.length] (hB c e I left ++ (fb :: ⟨gv, false, 9, 1, w5 vs, vs.length⟩ :: l)) (.vec (u9 c f.params vs g.params I).1.length (aO (u9 c f.params vs g.params I).1)) (hB c e (u9 c f.params vs g.params I).2 left ++ (fb :: ⟨gv, false, 9, 1, w5 vs, vs.length⟩ :: l)) :=
 F3 (args' := [.ptr 5 0 0, .agg (cZ f), .agg (cZ g), .vec vs.length (w5 vs)]) hB_v ⟨.inl rfl, .inl rfl, .inl rfl, .inr ⟨rfl, rfl⟩, trivial⟩ (c_argsA hc hI hL vs hN f g hp hq)
def D7 (c : Core) (f : Fu) (fu : Nat) (left : Int) : Prop := ∀ {e : Frame} (I l' : Int) (vs all : List BA) (d m : Int), OkI c.L I → 0 ≤ l' → l' < left → 0 ≤ d → d ≤ 100 → 0 ≤ m → m ≤ 100 → (∀ x ∈ vs, x ∈ all) → Fr l'.toNat all → vs.length + l'.toNat ≤ 500 →
 CallA Tryz.prog cfg 48 [.ptr 5 0 0, .agg (cZ f), .vec vs.length (w5 vs), .int .i64 d, .int .i64 m] (hB c e I l') (fun y' h' => y' = .vec (g0 c f.params fu vs d m I l').1.len (n8 (g0 c f.params fu vs d m I l').1) ∧ h' = hB c e (g0 c f.params fu vs d m I l').2.1 (g0 c f.params fu vs d m I l').2.2)
theorem D7.V {f : Fu} {fu : Nat} {left0 : Int} (h : D7 c f fu left0) (l' : Int) (all : List BA) (d m : Int) (hI : OkI c.L I) (h1 : 0 ≤ l') (h2 : l' < left0) (h3 : 0 ≤ d) (h4 : d ≤ 100) (h5 : 0 ≤ m) (h6 : m ≤ 100) (h7 : ∀ x ∈ vs, x ∈ all) (h8 : Fr l'.toNat all) (h9 : vs.length + l'.toNat ≤ 500) :
  CallA Tryz.prog cfg 48 [.ptr 5 0 0, .agg (cZ f), .own (e.n + 1) gv 0 vs.length, .int .i64 d, .int .i64 m] (hB c e I l' ++ (fb :: ⟨gv, false, 9, 1, w5 vs, vs.length⟩ :: l)) (fun y' h' => y' = .vec (g0 c f.params fu vs d m I l').1.len (n8 (g0 c f.params fu vs d m I l').1) ∧ h' = hB c e (g0 c f.params fu vs d m I l').2.1 (g0 c f.params fu vs d m I l').2.2 ++ (fb :: ⟨gv, false, 9, 1, w5 vs, vs.length⟩ :: l)) :=
 F3 (args' := [.ptr 5 0 0, .agg (cZ f), .vec vs.length (w5 vs), .int .i64 d, .int .i64 m]) hB_v ⟨.inl rfl, .inl rfl, .inr ⟨rfl, rfl⟩, .inl rfl, .inl rfl, trivial⟩ (h (e := ⟨e.b0, e.b1, e.b2, e.z, e.m, e.g, e.rest ++ (fb :: ⟨gv, false, 9, 1, w5 vs, vs.length⟩ :: l)⟩) I l' vs all d m hI h1 h2 h3 h4 h5 h6 h7 h8 h9)
def gO (g n : Nat) : Nat := if n = 0 then g else g + 1
theorem OR (hn : vs.length < 1000) : j5 cfg 9 (hB c e I left ++ [fb, ⟨0, false, 9, 1, [], 0⟩]) (.own (e.n + 1) 0 0 0) (.vec vs.length (w5 vs)) = some (.own (e.n + 1) (gO 0 vs.length) 0 vs.length, hB c e I left ++ [fb, ⟨gO 0 vs.length, false, 9, 1, w5 vs, 0⟩]) := by
 have e1 : cfg.sz 9 = 1 := rfl
 have e2 : (cfg.ti 9).bytes = 16 := rfl
 have hm : vs.length ≤ maxLen := by
  have : (1000 : Nat) ≤ maxLen := by decide
  omega
 have hb : vs.length * 16 ≤ 140737488355328 := by omega
 cases vs with
 | nil => simp [j5, rd, lenOf, e1, e2, dY, gO, w5]
 | cons x vs =>
  have h0 : (w5 (x :: vs)).length = vs.length + 1 := by simp [w5]
  simp only [List.length_cons] at hm hb
  simp [j5, rd, lenOf, e1, e2, dY, gO, h0, hm, hb, eD]
variable {t : Blk}
theorem app_vs {O p : Blk} {x : BA} (hn : vs.length < 1000) : j5 cfg 9 (hB c e I left ++ [fb, ⟨gv, false, 9, 1, w5 vs, vs.length⟩, O, t, p, ⟨0, false, 9, 1, [.str x], 0⟩]) (.own (e.n + 1) gv 0 vs.length) (.own (e.n + 5) 0 0 1) = some (.own (e.n + 1) (gv + 1) 0 (vs.length + 1), hB c e I left ++ [fb, ⟨gv + 1, false, 9, 1, w5 (vs ++ [x]), vs.length⟩, O, t, p, ⟨0, false, 9, 1, [.str x], 0⟩]) := by
 have e1 : cfg.sz 9 = 1 := rfl
 have e2 : (cfg.ti 9).bytes = 16 := rfl
 have hm : vs.length + 1 ≤ maxLen := by
  have : (1001 : Nat) ≤ maxLen := by decide
  omega
 have hb : (vs.length + 1) * 16 ≤ 140737488355328 := by omega
 have ht : List.take vs.length (w5 vs) = w5 vs := List.take_of_length_le t150
 have hnl : ¬ vs.length + 1 ≤ vs.length := by omega
 simp [j5, rd, lenOf, e1, e2, dY, y0, hm, hb, eD, ht, hnl, iN]
variable {n : Nat} {zs : List AV}
theorem OS {vb t : Blk} {g : Nat} {x1 x2 x3 x4 x5 x6 x7 x8 x9 x10 x11 : AV} (hz : zs.length = n * 11) (hn : n < 1000) :
  j5 cfg 140 (hB c e I left ++ [fb, vb, p5 140 11 g zs, t, ⟨0, false, 140, 11, [x1, x2, x3, x4, x5, x6, x7, x8, x9, x10, x11], 0⟩]) (.own (e.n + 2) g 0 n) (.own (e.n + 4) 0 0 1) = some (.own (e.n + 2) (g + 1) 0 (n + 1), hB c e I left ++ [fb, vb, p5 140 11 (g + 1) (zs ++ [x1, x2, x3, x4, x5, x6, x7, x8, x9, x10, x11]), t, ⟨0, false, 140, 11, [x1, x2, x3, x4, x5, x6, x7, x8, x9, x10, x11], 0⟩]) := by
 have hb : (hB c e I left ++ [fb, vb, p5 140 11 g zs, t, ⟨0, false, 140, 11, [x1, x2, x3, x4, x5, x6, x7, x8, x9, x10, x11], 0⟩])[e.n + 2]? = some (p5 140 11 g zs) := dY
 rw [z7 (C := cfg) (K := 11) (m := 1) (new := [x1, x2, x3, x4, x5, x6, x7, x8, x9, x10, x11]) hb rfl (by omega) hz rfl (by omega) t127 rfl (by decide) (by omega), eD]
 rfl
theorem OT {vb t u : Blk} {g : Nat} {x1 x2 x3 x4 x5 x6 x7 x8 x9 x10 x11 : AV} (hz : zs.length = n * 11) (hn : n < 1000) :
  j5 cfg 140 (hB c e I left ++ [fb, vb, p5 140 11 g zs, t, u, ⟨0, false, 140, 11, [x1, x2, x3, x4, x5, x6, x7, x8, x9, x10, x11], 0⟩]) (.own (e.n + 2) g 0 n) (.own (e.n + 5) 0 0 1) = some (.own (e.n + 2) (g + 1) 0 (n + 1), hB c e I left ++ [fb, vb, p5 140 11 (g + 1) (zs ++ [x1, x2, x3, x4, x5, x6, x7, x8, x9, x10, x11]), t, u, ⟨0, false, 140, 11, [x1, x2, x3, x4, x5, x6, x7, x8, x9, x10, x11], 0⟩]) := by
 have hb : (hB c e I left ++ [fb, vb, p5 140 11 g zs, t, u, ⟨0, false, 140, 11, [x1, x2, x3, x4, x5, x6, x7, x8, x9, x10, x11], 0⟩])[e.n + 2]? = some (p5 140 11 g zs) := dY
 rw [z7 (C := cfg) (K := 11) (m := 1) (new := [x1, x2, x3, x4, x5, x6, x7, x8, x9, x10, x11]) hb rfl (by omega) hz rfl (by omega) t127 rfl (by decide) (by omega), eD]
 rfl
theorem T5 {vb t u v : Blk} {g : Nat} {x1 x2 x3 x4 x5 x6 x7 x8 x9 x10 x11 : AV} (hz : zs.length = n * 11) (hn : n < 1000) :
  j5 cfg 140 (hB c e I left ++ [fb, vb, p5 140 11 g zs, t, u, v, ⟨0, false, 140, 11, [x1, x2, x3, x4, x5, x6, x7, x8, x9, x10, x11], 0⟩]) (.own (e.n + 2) g 0 n) (.own (e.n + 6) 0 0 1) = some (.own (e.n + 2) (g + 1) 0 (n + 1), hB c e I left ++ [fb, vb, p5 140 11 (g + 1) (zs ++ [x1, x2, x3, x4, x5, x6, x7, x8, x9, x10, x11]), t, u, v, ⟨0, false, 140, 11, [x1, x2, x3, x4, x5, x6, x7, x8, x9, x10, x11], 0⟩]) := by
 have hb : (hB c e I left ++ [fb, vb, p5 140 11 g zs, t, u, v, ⟨0, false, 140, 11, [x1, x2, x3, x4, x5, x6, x7, x8, x9, x10, x11], 0⟩])[e.n + 2]? = some (p5 140 11 g zs) := dY
 rw [z7 (C := cfg) (K := 11) (m := 1) (new := [x1, x2, x3, x4, x5, x6, x7, x8, x9, x10, x11]) hb rfl (by omega) hz rfl (by omega) t127 rfl (by decide) (by omega), eD]
 rfl
variable {m : Nat} {cs : List AV}
theorem HP {vb t u s : Blk} {g : Nat} (hz : zs.length = n * 11) (hcs : cs.length = m * 11) (hn : n < 1000) (hm : m < 1000) :
  j5 cfg 140 (hB c e I left ++ [fb, vb, p5 140 11 g zs, t, u, s]) (.own (e.n + 2) g 0 n) (.vec m cs) = some (.own (e.n + 2) (gO g m) 0 (n + m), hB c e I left ++ [fb, vb, p5 140 11 (gO g m) (zs ++ cs), t, u, s]) := by
 have hb : (hB c e I left ++ [fb, vb, p5 140 11 g zs, t, u, s])[e.n + 2]? = some (p5 140 11 g zs) := dY
 by_cases h0 : m = 0
 ·subst h0
  obtain rfl : cs = [] := List.length_eq_zero_iff.1 (by simpa using hcs)
  have e1 : cfg.sz 140 = 11 := rfl
  have e2 : (cfg.ti 140).bytes = 192 := rfl
  have hmx : n ≤ maxLen := by
   have : (1000 : Nat) ≤ maxLen := by decide
   omega
  have hbd : n * 192 ≤ 140737488355328 := by omega
  simp [j5, rd, lenOf, e1, e2, hb, N0, gO, hmx, hbd]
 ·rw [z7 (C := cfg) (K := 11) (m := m) (new := cs) hb rfl (by omega) hz hcs (by omega) rfl rfl (by decide) (by omega), eD]
  simp only [gO, h0, if_false]
  rfl
theorem OU {vb t u s : Blk} {g : Nat} {y1 y2 y3 y4 y5 y6 y7 y8 y9 y10 y11 : AV} (hz : zs.length = n * 11) (hcs : cs.length = m * 11) (hn : n < 900) (hm : m < 1000) :
  j5 cfg 140 (hB c e I left ++ [fb, vb, p5 140 11 g (zs ++ [y1, y2, y3, y4, y5, y6, y7, y8, y9, y10, y11]), t, u, s]) (.own (e.n + 2) g 0 (n + 1)) (.vec m cs) = some (.own (e.n + 2) (gO g m) 0 (n + 1 + m), hB c e I left ++ [fb, vb, p5 140 11 (gO g m) ((zs ++ [y1, y2, y3, y4, y5, y6, y7, y8, y9, y10, y11]) ++ cs), t, u, s]) :=
 HP (by rw [List.length_append, hz]; simp; omega) hcs (by omega) hm
theorem OV {vb t u v : Blk} {g : Nat} {y1 y2 y3 y4 y5 y6 y7 y8 y9 y10 y11 x1 x2 x3 x4 x5 x6 x7 x8 x9 x10 x11 : AV} (hz : zs.length = n * 11) (hcs : cs.length = m * 11) (hn : n < 400) (hm : m < 400) :
  j5 cfg 140 (hB c e I left ++ [fb, vb, p5 140 11 g (zs ++ y1 :: y2 :: y3 :: y4 :: y5 :: y6 :: y7 :: y8 :: y9 :: y10 :: y11 :: cs), t, u, v, ⟨0, false, 140, 11, [x1, x2, x3, x4, x5, x6, x7, x8, x9, x10, x11], 0⟩]) (.own (e.n + 2) g 0 (n + 1 + m)) (.own (e.n + 6) 0 0 1) = some (.own (e.n + 2) (g + 1) 0 (n + 1 + m + 1), hB c e I left ++ [fb, vb, p5 140 11 (g + 1) ((zs ++ y1 :: y2 :: y3 :: y4 :: y5 :: y6 :: y7 :: y8 :: y9 :: y10 :: y11 :: cs) ++ [x1, x2, x3, x4, x5, x6, x7, x8, x9, x10, x11]), t, u, v, ⟨0, false, 140, 11, [x1, x2, x3, x4, x5, x6, x7, x8, x9, x10, x11], 0⟩]) :=
 T5 (by rw [List.length_append, hz]; simp only [List.length_cons, hcs]; omega) (by omega)
end
theorem RH {n : Nat} : ∀ (s : Sl), ∀ x ∈ n8 s, Refs n x
 | .nil, x, hx => by simp [n8] at hx
 | .cons k nm e r as' th el rest, x, hx => by
  simp only [n8, aU, List.cons_append, List.nil_append, List.mem_cons] at hx
  rcases hx with rfl | rfl | rfl | rfl | rfl | rfl | rfl | rfl | rfl | rfl | rfl | hx
  ·exact .int _ _
  ·exact .str _
  ·exact .int _ _
  ·exact .int _ _
  ·exact .str _
  ·exact .vec _ _
  ·exact .str _
  ·exact .vec _ _
  ·exact .vec _ _
  ·exact .vec _ _
  ·exact .vec _ _
  ·exact RH rest x hx
theorem frz_S {n d : Nat} {H : c6} : ∀ (s : Sl), o6 (jY n H (d + 1)) (n8 s) = some (n8 s)
 | .nil => rfl
 | .cons k nm e r as' th el rest => by
  have ih := frz_S (n := n) (d := d) (H := H) rest
  simp only [n8, aU, List.cons_append, List.nil_append, o6, qU, nP, lM, ih]
theorem aF {k : Int} {nm : BA} {x : Ex} {r : Rf} {xs : List Ar} {th el : Sl} {a b c d f : AV} (ha : a = .vec x.args.length (l8 x.args) ∨ (a = .j6 ∧ x.args = [])) (hb : b = .vec r.idx.length (l8 r.idx) ∨ (b = .j6 ∧ r.idx = [])) (hc : c = .vec xs.length (aO xs) ∨ (c = .j6 ∧ xs = []))
  (hd : d = .vec th.len (n8 th) ∨ (d = .j6 ∧ th = .nil)) (hf : f = .vec el.len (n8 el) ∨ (f = .j6 ∧ el = .nil)) :
  mW (n8 (row k nm x r xs th el)) [.int .i64 k, .str nm, .int .i64 x.op, .int .i64 x.num, .str x.name, a, .str r.name, b, c, d, f] := by
 simp only [row, n8, aU, List.cons_append, List.nil_append]
 refine ⟨.inl rfl, .inl rfl, .inl rfl, .inl rfl, .inl rfl, ?_, .inl rfl, ?_, ?_, ?_, ?_, trivial⟩
 ·rcases ha with rfl | ⟨rfl, h⟩
  ·exact .inl rfl
  ·rw [h]; exact .inr ⟨rfl, rfl⟩
 ·rcases hb with rfl | ⟨rfl, h⟩
  ·exact .inl rfl
  ·rw [h]; exact .inr ⟨rfl, rfl⟩
 ·rcases hc with rfl | ⟨rfl, h⟩
  ·exact .inl rfl
  ·rw [h]; exact .inr ⟨rfl, rfl⟩
 ·rcases hd with rfl | ⟨rfl, h⟩
  ·exact .inl rfl
  ·rw [h]; exact .inr ⟨rfl, rfl⟩
 ·rcases hf with rfl | ⟨rfl, h⟩
  ·exact .inl rfl
  ·rw [h]; exact .inr ⟨rfl, rfl⟩
theorem iT {k : Int} {nm : BA} {x : Ex} {r : Rf} {xs : List Ar} {th el : Sl} : n8 (row k nm x r xs th el) = [.int .i64 k, .str nm, .int .i64 x.op, .int .i64 x.num, .str x.name, .vec x.args.length (l8 x.args), .str r.name, .vec r.idx.length (l8 r.idx), .vec xs.length (aO xs), .vec th.len (n8 th), .vec el.len (n8 el)] := by
 simp only [row, n8, aU, List.cons_append, List.nil_append]
theorem wrap8 {n : Int} (h1 : 0 ≤ n) (h2 : n < 256) : IntKind.wrap .u8 n = n := by
 unfold IntKind.wrap
 have e1 : (2 : Int) ^ IntKind.bits .u8 = 256 := rfl
 have e3 : IntKind.signed .u8 = false := rfl
 simp only [e1, e3, Bool.false_and, Bool.false_eq_true, if_false]
 omega
theorem vnm_eq {l : Int} (h0 : 0 ≤ l) (h1 : l < 24) : (⟨#[118]⟩ : BA) ++ (⟨#[UInt8.ofNat (97 + l.tmod 26).toNat, UInt8.ofNat (97 + (l.tdiv 26).tmod 26).toNat]⟩ : BA) = vnm l.toNat := by
 obtain ⟨n, rfl⟩ := Int.eq_ofNat_of_zero_le h0
 have key : ∀ n : Fin 24, (⟨#[118]⟩ : BA) ++ (⟨#[UInt8.ofNat (97 + ((n.1 : Nat) : Int).tmod 26).toNat, UInt8.ofNat (97 + (((n.1 : Nat) : Int).tdiv 26).tmod 26).toNat]⟩ : BA) = vnm n.1 := by decide +kernel
 exact key ⟨n, by omega⟩
theorem tm26 {l : Int} (h0 : 0 ≤ l) : 0 ≤ l.tmod 26 ∧ l.tmod 26 < 26 := ⟨Int.tmod_nonneg _ h0, Int.tmod_lt_of_pos _ (by omega)⟩
theorem td26 {l : Int} (h0 : 0 ≤ l) (h1 : l < 24) : l.tdiv 26 = 0 := by
 obtain ⟨n, rfl⟩ := Int.eq_ofNat_of_zero_le h0
 have key : ∀ n : Fin 24, (((n.1 : Nat) : Int).tdiv 26) = 0 := by decide
 exact key ⟨n, by omega⟩
end Go.Proofs.YtfbjlfhjkojmkaaGreat
end
