/- My own texts, put together by a program of mine. -/
import Derived.Test.YtfbjlfhjkojmkaaGreatG16
set_option linter.unusedSimpArgs false
set_option linter.unusedVariables false
set_option maxRecDepth 100000
set_option maxHeartbeats 4000000
section
namespace Go.Proofs.YtfbjlfhjkojmkaaGreat
open Go.Ab Go.Un
variable {i : Nat}
theorem pC {l : List (List Int)} (h : i < l.length) : List.take 1 (List.drop i (w4 l)) = [.vec (l.getD i []).length (j4 (l.getD i []))] := by
  unfold w4
  rw [← List.map_drop, ← List.map_take, List.drop_eq_getElem_cons h, List.take_succ_cons, List.take_zero]
  simp [List.getD, h]
variable {c : Clo}
theorem jP (h : i < c.insts.length) : List.take 2 (List.drop (i * 2) (q9 c.insts)) = [.int .i64 (itI c i).proc, .vec (itI c i).j0.length (j4 (itI c i).j0)] := BC h
variable {k : Nat}
theorem W3 : (((k + 1 : Nat) : Int) - 1) = ((k : Nat) : Int) := by omega
theorem pD (n : Nat) : (List.replicate n [AV.j6]).flatten = List.replicate n AV.j6 := by
  induction n with
  | zero => rfl
  | succ n ih => rw [List.replicate_succ, List.flatten_cons, ih]; rfl
variable {r : List Nat}
theorem uX {T : List (List Nat)} (h : i < T.length) : List.take i (cU T) ++ AV.vec r.length (r.map aA) :: List.drop (i + 1) (cU T) = cU (T.set i r) := overT h
theorem jQ : (1 ≤ maxLen) = True := eq_true (by decide)
theorem overT0 {T : List (List Nat)} (h : 0 < T.length) : cR r :: List.drop 1 (cU T) = cU (T.set 0 r) := overT (i := 0) h
variable {n : Nat} {Z : List Nat}
theorem uY (h : 0 < n) : AV.vec r.length (r.map aA) :: List.drop 1 (cU (List.replicate n Z)) = cU ((List.replicate n Z).set 0 r) := overT0 (by rw [List.length_replicate]; exact h)
variable {h : c6} {u : Un} {mx pc : Nat}
theorem c_relN (hu : WU u) (wc : WC u c) (hmx : mx < u.c4.length) (hi : i < c.insts.length) (hp : pc < W2 u c i) : CB 39 [.agg [.vec u.globals.length (j4 u.globals), .vec u.c4.length (g9 u.c4), .vec u.procs.length (m7 u.procs), .int .i64 u.main], .agg [.int .i64 (itI c i).proc, .vec (itI c i).j0.length (j4 (itI c i).j0)], .int .i64 ((pc : Nat) : Int), .int .i64 ((mx : Nat) : Int)] h (cR (dhN (kM u mx) (chI (itI c i) (F9 u c i pc) mx))) :=
  (c_rel hu (pQ wc hi) hp hmx).mono fun y k hq => ⟨hq.1.trans (P0 _ _), hq.2⟩
theorem c_idN (k : Nat) (hk : k ≤ 8) : CB 70 [.int .i64 ((k : Nat) : Int)] h (cR (dhN k 0)) :=
  (c_id k hk).mono fun y k hq => ⟨hq.1.trans (P0 _ _), hq.2⟩
def xS (n i : Nat) (Z : List Nat) : List AV := cU (List.replicate i Z) ++ List.replicate (n - i) AV.j6
theorem lO (h : i ≤ n) : (xS n i Z).length = n := by simp [xS, bN]; omega
theorem A1 : xS n 0 Z = List.replicate n AV.j6 := by simp [xS, cU]
theorem P2 : xS n n Z = cU (List.replicate n Z) := by simp [xS]
theorem FM : List.take i (xS n i Z) = cU (List.replicate i Z) := by
  unfold xS
  rw [List.take_append_of_le_length (by simp [bN]), List.take_of_length_le (by simp [bN])]
theorem FN : List.drop (i + 1) (xS n i Z) = List.replicate (n - (i + 1)) AV.j6 := by
  unfold xS
  rw [List.drop_append, List.drop_of_length_le (by simp [bN]), bN, List.length_replicate, List.nil_append, List.drop_replicate]
  congr 1
  omega
theorem W4 {x : AV} : List.take i (xS n i Z) ++ x :: List.drop (i + 1) (xS n i Z) = cU (List.replicate i Z) ++ x :: List.replicate (n - (i + 1)) AV.j6 := by rw [FM, FN]
theorem FO : cU (List.replicate i Z) ++ cR Z :: List.replicate (n - (i + 1)) AV.j6 = xS n (i + 1) Z := by
  unfold xS
  rw [List.replicate_succ', cU, cU, List.map_append, List.append_assoc]
  rfl
theorem W5 : cU (List.replicate i (List.replicate (k + 1) 0)) ++ AV.vec (k + 1) ((List.replicate (k + 1) 0).map aA) :: List.replicate (n - (i + 1)) AV.j6 = xS n (i + 1) (List.replicate (k + 1) 0) := by
  rw [← FO]
  simp [cR]
theorem A2 (N : Nat) : ∀ x ∈ xS n i Z, Refs N x := fun x hx => by
  rcases List.mem_append.1 hx with hx | hx
  · exact (Ei _).refs _ x hx
  · rw [List.eq_of_mem_replicate hx]; exact .j6
theorem c9.seenF {c : Code} {sl : List AV} {H : c6} {Q : Exit → St → Prop} {β γ len e e' : Nat} {A R : List AV} {zs : List Nat} (hβ : H[β]? = some ⟨0, false, e, 1, A ++ .own γ 0 0 len :: R, 0⟩) (hγ : H[γ]? = some ⟨0, false, e', 1, zs.map aA, 0⟩) (hz : zs.length = len) (hne : β ≠ γ)
    (r : c9 Tryz.prog cfg c ⟨sl, (H.set γ ⟨0, false, e', 1, zs.map aA, len⟩).set β ⟨0, false, e, 1, A ++ .vec len (zs.map aA) :: R, 0⟩⟩ Q) : c9 Tryz.prog cfg c ⟨sl, H⟩ Q := by
  subst hz
  refine c9.C2 (γ := γ) (β := β) (k := A.length) (off := 0) (len := zs.length) (cs := zs.map aA) hγ rfl (by simp) ?_ hβ hne (by simp) ?_
  · show o2 oJ (List.take (zs.length * 1) (List.drop 0 (zs.map aA))) = _
    rw [List.drop_zero, Nat.mul_one, List.take_of_length_le (by simp)]
    exact (plnN zs).QD
  · have e1 : dG ⟨0, false, e', 1, zs.map aA, 0⟩ (0 + zs.length * 1) = ⟨0, false, e', 1, zs.map aA, zs.length⟩ := by
      simp only [dG, Nat.zero_add, Nat.mul_one, Nat.zero_max]
    have e2 : (A ++ AV.own γ 0 0 zs.length :: R).set A.length (.vec zs.length (zs.map aA)) = A ++ .vec zs.length (zs.map aA) :: R := by simp
    show c9 Tryz.prog cfg c ⟨sl, (H.set γ (dG ⟨0, false, e', 1, zs.map aA, 0⟩ (0 + zs.length * 1))).set β ⟨0, false, e, 1, (A ++ AV.own γ 0 0 zs.length :: R).set A.length (.vec zs.length (zs.map aA)), 0⟩⟩ Q
    rw [e1, e2]
    exact r
def A3 (W : List Nat) (l q : Nat) : List Nat := if l + 1 ≤ W.length then W.set l q else W.take l ++ [q]
def FP (W : List Nat) (g l : Nat) : Nat := if l + 1 ≤ W.length then g else g + 1
variable {W : List Nat} {q : Nat}
theorem W6 {l : Nat} (h : l ≤ W.length) : (A3 W l q).take (l + 1) = W.take l ++ [q] := by
  unfold A3
  split
  · rename_i h1
    rw [List.take_add_one, List.take_set, List.set_eq_of_length_le t54, List.getElem?_set_self (by omega)]
    rfl
  · rw [List.take_of_length_le t54]
theorem FQ {l : Nat} (h : l ≤ W.length) : l + 1 ≤ (A3 W l q).length := by
  unfold A3
  split
  · rw [List.length_set]; assumption
  · rw [List.length_append, List.length_take, List.length_singleton]; omega
theorem FR (h : k + 1 ≤ W.length) : W.take (k + 1) = W.take k ++ [W.getD k 0] := by
  rw [List.take_add_one, List.getElem?_eq_getElem (by omega)]
  simp [List.getD, show k < W.length from by omega]
theorem MM {l : c6} {b0 b1 : Blk} {g : Nat} (hn : n ≤ W.length) (hl : n < 1000000000) : j5 cfg 3 (h ++ (b0 :: b1 :: ⟨g, false, 3, 1, W.map aA, 0⟩ :: ⟨0, false, 3, 1, [.int .i64 ((q : Nat) : Int)], 0⟩ :: l)) (.own (h.length + 2) g 0 n) (.own (h.length + 3) 0 0 1) = some (.own (h.length + 2) (FP W g n) 0 (n + 1), h ++ (b0 :: b1 :: ⟨FP W g n, false, 3, 1, (A3 W n q).map aA, 0⟩ :: ⟨0, false, 3, 1, [.int .i64 ((q : Nat) : Int)], 0⟩ :: l)) := by
  have e1 : cfg.sz 3 = 1 := rfl
  have e2 : (cfg.ti 3).bytes = 8 := rfl
  have h1 : n + 1 ≤ maxLen := by
    have : (1000000001 : Nat) ≤ maxLen := by decide
    omega
  have h2 : (n + 1) * 8 ≤ 140737488355328 := by omega
  by_cases hc : n + 1 ≤ W.length
  · have e3 : List.take n (W.map aA) ++ AV.int .i64 ((q : Nat) : Int) :: List.drop (n + 1) (W.map aA) = (W.set n q).map aA := PA (by omega)
    simp [j5, rd, lenOf, e1, e2, h1, h2, hc, hn, over, p5, p9, A3, FP]
    rw [e3]
    simp
  · have h3 : List.take n (W.map aA) = W.map aA := List.take_of_length_le t54
    have h4 : List.take n W = W := List.take_of_length_le (by omega)
    simp [j5, rd, lenOf, e1, e2, h1, h2, hc, hn, p5, p9, A3, FP, h4, aA]
    exact h3
attribute [local go_sem] rd cR u3 aH r8 m9 l7 dM bN Int.natCast_nonneg Int.natCast_inj nU dB lL jM gV jN kX pC G0 uX jQ uY W4 lO tD tE pD List.length_set List.length_replicate Int.toNat_natCast_add_one kQ wrap64 W3 List.length_map
variable {S : List (List Nat)}
theorem c_stepA (hu : WU u) (wc : WC u c) (hmx : mx < u.c4.length) (hS : Tb (kM u mx) c.insts.length S) (hi : i < c.insts.length) (hp : pc < W2 u c i) (l : c6) : CB 38 [.int .i64 ((pc : Nat) : Int), .ptr h.length 0 0, .ptr (h.length + 5) 0 0, .ptr (h.length + 3) 0 0, .ptr (h.length + 1) 0 0, .ptr (h.length + 4) 0 0, .ptr (h.length + 2) 0 0] (h ++ (⟨0, false, 30, 4, [.vec u.globals.length (j4 u.globals), .vec u.c4.length (g9 u.c4), .vec u.procs.length (m7 u.procs), .int .i64 u.main], 0⟩ :: ⟨0, false, 34, 3, [.vec c.insts.length (q9 c.insts), .vec c.calls.length (w4 c.calls), .vec c.roots.length (j4 c.roots)], 0⟩ :: ⟨0, false, 3, 1, [.int .i64 ((mx : Nat) : Int)], 0⟩ :: ⟨0, false, 32, 1, [.vec c.insts.length (cU S)], 0⟩ :: ⟨0, false, 3, 1, [.int .i64 ((i : Nat) : Int)], 0⟩ :: ⟨0, false, 69, 2, [.int .i64 (itI c i).proc, .vec (itI c i).j0.length (j4 (itI c i).j0)], 0⟩ :: l)) (cR (stS u c mx S i pc)) := by
  refine .bz Tryz.f38 37 ?_
  have w := pQ wc hi
  have w1 := w.lo; have w2 := w.hi
  have hsz : (c8 u (itI c i)).length ≤ 1664 := v7 hu w
  have hcl := wc.cl
  have hcll : (c.calls.getD i []).length = (c8 u (itI c i)).length := wc.cll i hi
  have hp2 : pc < (c8 u (itI c i)).length := hp
  have hSl := hS.1
  have hwl := wc.len
  have hcall : (F9 u c i pc).op = 2 → 0 ≤ (c.calls.getD i []).getD pc 0 ∧ (c.calls.getD i []).getD pc 0 < c.insts.length := fun ho => by have := (wc.call i hi pc hp).1 (.inl ho); exact ⟨this.1, this.2.1⟩
  have hop : F9 u c i pc = (c8 u (itI c i)).getD pc g5 := rfl
  rw [hop] at hcall
  refine c28z ?_
  refine c170z ?_
  refine u2z ?_ ?_
  ·intro e1 qe1
   refine .c7 [0, 3, 4, 5] ?_
   obtain ⟨hc1, hc2⟩ := hcall (by omega)
   refine .ss s7 (mkP 12 [0, 0, 2, 0, 14, 30, 0, 126, 254, 511, 1023, 2047] []) ?_
   refine c120z ?_
   exact .ret (.ex (hq := t103))
  intro e1 qe1
  refine .sk ?_
  refine .c7 [0, 1, 2, 6] ?_
  refine c27z ?_
  refine .ca rfl rfl (c_relN hu wc hmx hi hp) ?_
  refine .n ?_
  exact .ret (.ex (hq := t103))
section
end
def A4 (u : Un) (c : Clo) (mx : Nat) (S : List (List Nat)) (i : Nat) (sv : AV) (h : c6) : Prop := ∀ pc, pc < W2 u c i → ∀ l, CallA Tryz.prog cfg 38 [.int .i64 ((pc : Nat) : Int), .ptr h.length 0 0, .ptr (h.length + 5) 0 0, .ptr (h.length + 3) 0 0, .ptr (h.length + 1) 0 0, .ptr (h.length + 4) 0 0, .ptr (h.length + 2) 0 0] (h ++ (⟨0, false, 30, 4, [.vec u.globals.length (j4 u.globals), .vec u.c4.length (g9 u.c4), .vec u.procs.length (m7 u.procs), .int .i64 u.main], 0⟩ :: ⟨0, false, 34, 3, [.vec c.insts.length (q9 c.insts), .vec c.calls.length (w4 c.calls), .vec c.roots.length (j4 c.roots)], 0⟩ :: ⟨0, false, 3, 1, [.int .i64 ((mx : Nat) : Int)], 0⟩ :: ⟨0, false, 32, 1, [sv], 0⟩ :: ⟨0, false, 3, 1, [.int .i64 ((i : Nat) : Int)], 0⟩ :: ⟨0, false, 69, 2, [.int .i64 (itI c i).proc, .vec (itI c i).j0.length (j4 (itI c i).j0)], 0⟩ :: l)) (fun y' h' => y' = cR (stS u c mx S i pc) ∧ h' = h ++ (⟨0, false, 30, 4, [.vec u.globals.length (j4 u.globals), .vec u.c4.length (g9 u.c4), .vec u.procs.length (m7 u.procs), .int .i64 u.main], 0⟩ :: ⟨0, false, 34, 3, [.vec c.insts.length (q9 c.insts), .vec c.calls.length (w4 c.calls), .vec c.roots.length (j4 c.roots)], 0⟩ :: ⟨0, false, 3, 1, [.int .i64 ((mx : Nat) : Int)], 0⟩ :: ⟨0, false, 32, 1, [sv], 0⟩ :: ⟨0, false, 3, 1, [.int .i64 ((i : Nat) : Int)], 0⟩ :: ⟨0, false, 69, 2, [.int .i64 (itI c i).proc, .vec (itI c i).j0.length (j4 (itI c i).j0)], 0⟩ :: l))
theorem W7 (hu : WU u) (wc : WC u c) (hmx : mx < u.c4.length) (hS : Tb (kM u mx) c.insts.length S) (hi : i < c.insts.length) (h : c6) : A4 u c mx S i (.vec c.insts.length (cU S)) h := fun pc hp l => c_stepA hu wc hmx hS hi hp l
theorem A4.shift {sv : AV} (hs : ∀ l0, A4 u c mx S i sv (h ++ l0)) (hp : pc < W2 u c i) {b : Blk} (l : c6) : CB 38 [.int .i64 ((pc : Nat) : Int), .ptr h.length 0 0, .ptr (h.length + 5) 0 0, .ptr (h.length + 3) 0 0, .ptr (h.length + 1) 0 0, .ptr (h.length + 4) 0 0, .ptr (h.length + 2) 0 0] ((h ++ [⟨0, false, 30, 4, [.vec u.globals.length (j4 u.globals), .vec u.c4.length (g9 u.c4), .vec u.procs.length (m7 u.procs), .int .i64 u.main], 0⟩, ⟨0, false, 34, 3, [.vec c.insts.length (q9 c.insts), .vec c.calls.length (w4 c.calls), .vec c.roots.length (j4 c.roots)], 0⟩, ⟨0, false, 3, 1, [.int .i64 ((mx : Nat) : Int)], 0⟩, ⟨0, false, 32, 1, [sv], 0⟩, ⟨0, false, 3, 1, [.int .i64 ((i : Nat) : Int)], 0⟩, ⟨0, false, 69, 2, [.int .i64 (itI c i).proc, .vec (itI c i).j0.length (j4 (itI c i).j0)], 0⟩, b]) ++ l) (cR (stS u c mx S i pc)) := by
  have := hs [] pc hp (b :: l)
  simpa only [List.append_nil, List.append_assoc, List.cons_append, List.nil_append] using this
theorem c_nextV (hu : WU u) {it : s8} (w : WIt u it) (hpc : pc < (c8 u it).length) : CB 72 [.agg [.vec u.globals.length (j4 u.globals), .vec u.c4.length (g9 u.c4), .vec u.procs.length (m7 u.procs), .int .i64 u.main], .agg [.int .i64 it.proc, .vec it.j0.length (j4 it.j0)], .int .i64 ((pc : Nat) : Int)] h (.vec (s5 ((c8 u it).getD pc g5) pc).length (j4 (s5 ((c8 u it).getD pc g5) pc))) := c_nextF hu w hpc
section
attribute [local go_sem] MM
theorem c_run (hu : WU u) {it : s8} (w : WIt u it) (hmx : mx < u.c4.length) (hk : V4 (u.c4.getD mx z6) = k) {sp : Nat → List Nat} {caps : List AV} (p : Pro k (c8 u it).length (fun pc => s5 ((c8 u it).getD pc g5) pc) sp) (hst : ∀ pc, pc < (c8 u it).length → ∀ l, CB 38 (.int .i64 ((pc : Nat) : Int) :: caps) (h ++ l) (cR (sp pc))) : CB 40 [.agg [.vec u.globals.length (j4 u.globals), .vec u.c4.length (g9 u.c4), .vec u.procs.length (m7 u.procs), .int .i64 u.main, .int .i64 it.proc, .vec it.j0.length (j4 it.j0), .int .i64 ((mx : Nat) : Int), .fn (.func 38) [] caps]] h (.vec (c8 u it).length (cU (dC k (c8 u it).length (fun pc => s5 ((c8 u it).getD pc g5) pc) sp))) := by
  refine .bz Tryz.f40 105 ?_
  have w1 := w.lo; have w2 := w.hi
  have hsz : (c8 u it).length ≤ 1664 := v7 hu w
  have hk8 : k ≤ 8 := by rw [← hk]; exact xK
  have hps := p.pos
  have hml := hu.ml
  have hcd := (mF hu w).1
  refine .z ?_
  refine .s ?_
  refine .e 7 ?_
  refine .ca rfl rfl (c_cap (u.c4.getD mx z6)) ?_
  refine .n ?_
  refine .c7 [1, 3] ?_
  refine c170z ?_
  refine .c7 [1, 3, 4] ?_
  refine c55z ?_
  refine .aW (fun m st => ∃ (i : Nat), (m = (c8 u it).length - i ∧ (i ≤ (c8 u it).length)) ∧ st = ⟨mkS 105 [(1, AV.ptr h.length 0 0), (3, AV.int .i64 ((k : Nat) : Int)), (5, AV.own (h.length + 1) 0 0 (c8 u it).length), (33, AV.int .i64 (((c8 u it).length : Nat) : Int)), (34, AV.int .i64 ((i : Nat) : Int))], h ++ [⟨0, false, 84, 8, [.vec u.globals.length (j4 u.globals), .vec u.c4.length (g9 u.c4), .vec u.procs.length (m7 u.procs), .int .i64 u.main, .int .i64 it.proc, .vec it.j0.length (j4 it.j0), .int .i64 ((mx : Nat) : Int), .fn (.func 38) [] caps], 0⟩, ⟨0, false, 22, 1, xS (c8 u it).length i (List.replicate (k + 1) 0), 0⟩]⟩) (.v ⟨0, ⟨rfl, by omega⟩, rfl⟩) ?_ (he := by (rw [A1]))
  rintro m sl h' ⟨i, ⟨hm, hi⟩, hst⟩
  obtain ⟨rfl, rfl⟩ := St.mk.inj hst; clear hst
  refine c28z ?_
  refine u2z ?_ ?_
  ·intro e1 qe1
   refine c129z ?_
   refine c1z ?_
   refine .c7 [1, 3, 5, 33, 34] ?_
   refine c9.seenF (β := h.length + 1) (γ := h.length + 2) (A := cU (List.replicate i (List.replicate (k + 1) 0))) (R := List.replicate ((c8 u it).length - (i + 1)) AV.j6) (zs := (List.replicate (k + 1) 0)) (len := k + 1) t36 t36 (by simp) (by omega) ?_
   simp only [List.append_assoc, List.cons_append, List.nil_append, p5, p9, List.set_cons_succ, List.set_cons_zero, List.length_append, List.length_cons, List.length_nil, Nat.reduceAdd, Nat.zero_add]
   refine .rz ?_
   exact ⟨_, by omega, .v ⟨(i + 1), ⟨rfl, by omega⟩, rfl⟩ (he := t153) (hk := by exact (aK.refl _).app rfl ⟨.inl rfl, .inr (A2 _), trivial⟩)⟩
  intro e1 qe1
  refine .exit ?_
  obtain rfl : i = (c8 u it).length := by omega
  simp only [P2]
  change c9 ..
  refine c36z ?_
  refine .ca rfl rfl (c_idN _ hk8) ?_
  refine .n ?_
  refine .c7 [1, 5] ?_
  refine .z ?_
  refine .sb ?_
  refine .aW (fun m st => ∃ (T : List (List Nat)) (W : List Nat) (l : Nat) (g : Nat), (m = PE (c8 u it).length T l ∧ (GV k (c8 u it).length (fun pc => s5 ((c8 u it).getD pc g5) pc) sp T (W.take l) ∧ l ≤ W.length ∧ PE (c8 u it).length T l ≤ 20000000)) ∧ st = ⟨mkS 105 [(1, AV.ptr h.length 0 0), (5, AV.own (h.length + 1) 0 0 (c8 u it).length), (7, AV.own (h.length + 2) g 0 l)], h ++ [⟨0, false, 84, 8, [.vec u.globals.length (j4 u.globals), .vec u.c4.length (g9 u.c4), .vec u.procs.length (m7 u.procs), .int .i64 u.main, .int .i64 it.proc, .vec it.j0.length (j4 it.j0), .int .i64 ((mx : Nat) : Int), .fn (.func 38) [] caps], 0⟩, ⟨0, false, 22, 1, cU T, 0⟩, ⟨g, false, 3, 1, W.map aA, 0⟩]⟩) (.v ⟨((List.replicate (c8 u it).length (List.replicate (k + 1) 0)).set 0 (dhN k 0)), [0], 1, 0, ⟨rfl, ⟨GV.start p, by simp, by unfold PE; omega⟩⟩, rfl⟩) ?_
  rintro m sl h' ⟨T, W, l, g, ⟨hm, ⟨hI, hl, hlb⟩⟩, hst⟩
  obtain ⟨rfl, rfl⟩ := St.mk.inj hst; clear hst
  have hTl : T.length = (c8 u it).length := hI.g.tb.1
  have hlm : l ≤ PE (c8 u it).length T l := by unfold PE; omega
  refine c0z ?_
  refine u2z ?_ ?_
  ·intro e2 qe2
   refine c187z ?_
   obtain ⟨k1, rfl⟩ : ∃ k1, l = k1 + 1 := ⟨l - 1, by omega⟩
   refine .z ?_
   refine .c7 [1, 5, 7, 8] ?_
   refine .z ?_
   rw [FR (by omega)] at hI
   generalize W.getD k1 0 = pc at hI ⊢
   obtain ⟨hpc, hJ0⟩ := hI.pop
   have hst1 := p.st pc hpc
   have hTp := hI.g.tb.get hpc
   obtain ⟨hR, hle⟩ := hI.g.aft p hpc
   refine .ss s7 (mkP 10 [0, 0, 3, 7, 0, 16, 0, 112, 255, 511] []) ?_
   refine .k 7 [] ?_
   refine gG.cq rfl (rfl) hb38 (hst pc hpc _) ?_
   refine .ca rfl rfl (c_comp _ _ (hst1.lt hk8) (by have := hst1.1; omega) (hTp.lt hk8) (by have := hTp.1; omega)) ?_
   refine .n [] ?_
   refine .c7 [1, 5, 7, 8, 9] ?_
   have hnl := tA (x := (c8 u it).getD pc g5) (pc := pc)
   refine c24z ?_
   refine .ca rfl rfl (c_nextV hu w hpc) ?_
   refine c171z ?_
   refine .aW (fun m st => ∃ (T1 : List (List Nat)) (W1 : List Nat) (l1 : Nat) (g1 : Nat) (j : Nat), (m = (s5 ((c8 u it).getD pc g5) pc).length - j ∧ (FK k (c8 u it).length (fun pc => s5 ((c8 u it).getD pc g5) pc) sp pc (T.getD pc []) (tot T) (W.take k1).length T1 (W1.take l1) j ∧ l1 ≤ W1.length ∧ j ≤ (s5 ((c8 u it).getD pc g5) pc).length ∧ l1 ≤ k1 + j)) ∧ st = ⟨mkS 105 [(1, AV.ptr h.length 0 0), (5, AV.own (h.length + 1) 0 0 (c8 u it).length), (7, AV.own (h.length + 2) g1 0 l1), (9, cR (o1 (T.getD pc []) (sp pc))), (77, AV.vec (s5 ((c8 u it).getD pc g5) pc).length (j4 (s5 ((c8 u it).getD pc g5) pc))), (78, AV.int .i64 (((s5 ((c8 u it).getD pc g5) pc).length : Nat) : Int)), (79, AV.int .i64 ((j : Nat) : Int))], h ++ [⟨0, false, 84, 8, [.vec u.globals.length (j4 u.globals), .vec u.c4.length (g9 u.c4), .vec u.procs.length (m7 u.procs), .int .i64 u.main, .int .i64 it.proc, .vec it.j0.length (j4 it.j0), .int .i64 ((mx : Nat) : Int), .fn (.func 38) [] caps], 0⟩, ⟨0, false, 22, 1, cU T1, 0⟩, ⟨g1, false, 3, 1, W1.map aA, 0⟩]⟩) (.v ⟨T, W, k1, g, 0, ⟨rfl, ⟨hJ0, by omega, by omega, by omega⟩⟩, rfl⟩) ?_
   rintro m sl h' ⟨T1, W1, l1, g1, j, ⟨hm, ⟨hJ, hl1, hj, hlj⟩⟩, hst⟩
   obtain ⟨rfl, rfl⟩ := St.mk.inj hst; clear hst
   have hT1 : T1.length = (c8 u it).length := hJ.g.tb.1
   refine c28z ?_
   refine u2z ?_ ?_
   ·intro e3 qe3
    refine c129z ?_
    obtain ⟨hq1, hq2⟩ := p.nx pc hpc _ (j9 (d := 0) (show j < (s5 ((c8 u it).getD pc g5) pc).length from by omega))
    obtain ⟨q, hqe⟩ : ∃ q : Nat, (s5 ((c8 u it).getD pc g5) pc).getD j 0 = (q : Int) := ⟨((s5 ((c8 u it).getD pc g5) pc).getD j 0).toNat, by omega⟩
    rw [hqe] at hq1 hq2 ⊢
    have hq3 : q < (c8 u it).length := by omega
    have hRq := hJ.g.tb.get hq3
    have hqt : ((s5 ((c8 u it).getD pc g5) pc).getD j 0).toNat = q := by rw [hqe]; rfl
    refine c24z ?_
    refine .ca rfl rfl (FJ _ _ (by have := hR.1; omega) t147) ?_
    refine .n ?_
    refine u2z ?_ ?_
    ·intro e4 qe4
     refine .c7 [1, 5, 7, 9, 11, 77, 78, 79] ?_
     refine .s ?_
     refine .e 7 ?_
     refine .ca rfl rfl (c_union _ _ (hR.lt hk8) (hRq.lt hk8) (by have := hRq.1; omega) t147) ?_
     refine .n ?_
     refine .c7 [1, 5, 7, 9, 11, 77, 78, 79] ?_
     refine c56z ?_
     exact ⟨_, by omega, .v ⟨(T1.set q (cN (T1.getD q []) (o1 (T.getD pc []) (sp pc)))), (A3 W1 l1 q), (l1 + 1), (FP W1 g1 l1), (j + 1), ⟨rfl, ⟨by rw [W6 hl1]; exact hJ.grow p hpc hR hle (by omega) hqt (fun hs => absurd ((FA hk8 hR hRq).2 hs) (by assumption)), FQ hl1, by omega, by omega⟩⟩, rfl⟩ (he := t34) (hk := t96)⟩
    intro e4 qe4
    refine c6z ?_
    refine .c7 [1, 5, 7, 9, 77, 78, 79] ?_
    refine .rz ?_
    exact ⟨_, by omega, .v ⟨T1, W1, l1, g1, (j + 1), ⟨rfl, ⟨hJ.skip ((FA hk8 hR (by rw [hqt]; exact hRq)).1 (by rw [hqt]; assumption)), hl1, by omega, by omega⟩⟩, rfl⟩ (he := t34) (hk := t96)⟩
   intro e3 qe3
   refine .exit ?_
   obtain rfl : j = (s5 ((c8 u it).getD pc g5) pc).length := by omega
   have hmr := mRun_lt hk8 hJ hI.g
   rw [List.length_take, List.length_take, Nat.min_eq_left hl1, Nat.min_eq_left (show k1 ≤ W.length from by omega)] at hmr
   exact ⟨_, by omega, .v ⟨T1, W1, l1, g1, ⟨rfl, ⟨hJ.fin hpc, hl1, by omega⟩⟩, rfl⟩ (he := t34) (hk := t96)⟩
  intro e2 qe2
  refine .exit ?_
  obtain rfl : l = 0 := by omega
  have hT : T = (dC k (c8 u it).length (fun pc => s5 ((c8 u it).getD pc g5) pc) sp) := GV.done p (by simpa using hI)
  change c9 ..
  refine c35z ?_
  exact ⟨_, _, rfl, VA t36 (by omega) hTl, by (rw [hT])⟩
end
section
attribute [local go_sem] jP
theorem FT (hu : WU u) (wc : WC u c) (hmx : mx < u.c4.length) (hS : Tb (kM u mx) c.insts.length S) (hi : i < c.insts.length) (hsv : ∀ l0, A4 u c mx S i (.vec c.insts.length (cU S)) (h ++ l0)) : CB 18 [.agg [.vec u.globals.length (j4 u.globals), .vec u.c4.length (g9 u.c4), .vec u.procs.length (m7 u.procs), .int .i64 u.main], .agg [.vec c.insts.length (q9 c.insts), .vec c.calls.length (w4 c.calls), .vec c.roots.length (j4 c.roots)], .int .i64 ((mx : Nat) : Int), .vec c.insts.length (cU S), .int .i64 ((i : Nat) : Int)] h (.vec (W2 u c i) (cU (innT u c mx S i))) := by
  refine .bz Tryz.f18 25 ?_
  have w := pQ wc hi
  have w1 := w.lo; have w2 := w.hi
  have hwl := wc.len
  refine c18z ?_
  refine .c7 [5, 6, 7, 8, 9, 11] ?_
  refine .z ?_
  refine .c7 [12] ?_
  refine c79z ?_
  refine .ca rfl rfl (c_run hu (pQ wc hi) hmx rfl (proS hu wc hS hi) (fun pc hp l => A4.shift hsv hp l)) ?_
  refine .n ?_
  exact .ret (.ex (hq := by rfl))
end
section
attribute [local go_sem] jP
end
end Go.Proofs.YtfbjlfhjkojmkaaGreat
end
section
namespace Go.Proofs.YtfbjlfhjkojmkaaGreat
open Go.Ab Go.Un
attribute [local go_sem] rd cR u3 aH r8 m9 l7 dM bN Int.natCast_nonneg Int.natCast_inj dB lL jM gV jN kX pC G0 uX jQ uY W4 lO tD tE pD List.length_set List.length_replicate Int.toNat_natCast_add_one kQ wrap64 W3 List.length_map jP
end Go.Proofs.YtfbjlfhjkojmkaaGreat
end
section
namespace Go.Proofs.YtfbjlfhjkojmkaaGreat
open Go.Ab Go.Un
variable {h : c6}
theorem FU (u : Un) (mx : Nat) : CB 36 [.agg [.str (u.c4.getD mx z6).name, .bool (u.c4.getD mx z6).re, .int .i64 (u.c4.getD mx z6).size]] h (.int .i64 ((kM u mx : Nat) : Int)) := OU _
theorem MN (k : Nat) (hk : k ≤ 8) : CB 41 [.int .i64 ((k : Nat) : Int), .int .i64 0] h (cR (dhN k 0)) :=
  (EP k 0 hk (by omega) (by omega)).mono fun y k hq => ⟨hq.1.trans (P0 _ _), hq.2⟩
variable {u : Un}
theorem c_relRN {c : Clo} (hu : WU u) (wc : WC u c) {mx : Nat} (hmx : mx < u.c4.length) {i : Nat} (hi : i < c.insts.length) {pc : Nat} (hp : pc < W2 u c i) : CB 42 [.agg [.vec u.globals.length (j4 u.globals), .vec u.c4.length (g9 u.c4), .vec u.procs.length (m7 u.procs), .int .i64 u.main], .agg [.int .i64 (itI c i).proc, .vec (itI c i).j0.length (j4 (itI c i).j0)], .int .i64 ((pc : Nat) : Int), .int .i64 ((mx : Nat) : Int)] h (cR (dhN (kM u mx) (chI (itI c i) (F9 u c i pc) mx))) :=
  (c_relR hu (pQ wc hi) hp hmx).mono fun y k hq => ⟨hq.1.trans (P0 _ _), hq.2⟩
theorem P3 (hu : WU u) {it : s8} (w : WIt u it) {pc : Nat} (hpc : pc < (c8 u it).length) : CB 44 [.agg [.vec u.globals.length (j4 u.globals), .vec u.c4.length (g9 u.c4), .vec u.procs.length (m7 u.procs), .int .i64 u.main], .agg [.int .i64 it.proc, .vec it.j0.length (j4 it.j0)], .int .i64 ((pc : Nat) : Int)] h (.vec (s5 ((c8 u it).getD pc g5) pc).length (j4 (s5 ((c8 u it).getD pc g5) pc))) := c_nextR hu w hpc
attribute [local go_sem] rd cR u3 aH r8 m9 l7 dM bN Int.natCast_nonneg Int.natCast_inj dB jM gV jN kX pC G0 uX jQ uY W4 lO tD tE pD List.length_set List.length_replicate Int.toNat_natCast_add_one kQ wrap64 W3 List.length_map jP
theorem FV {c : Clo} (hu : WU u) (wc : WC u c) {mx : Nat} (hmx : mx < u.c4.length) {S : List (List Nat)} (hS : Tb (kM u mx) c.insts.length S) {i : Nat} (hi : i < c.insts.length) : CB 19 [.agg [.vec u.globals.length (j4 u.globals), .vec u.c4.length (g9 u.c4), .vec u.procs.length (m7 u.procs), .int .i64 u.main], .agg [.vec c.insts.length (q9 c.insts), .vec c.calls.length (w4 c.calls), .vec c.roots.length (j4 c.roots)], .int .i64 ((mx : Nat) : Int), .vec c.insts.length (cU S), .int .i64 ((i : Nat) : Int)] h (.vec (W2 u c i) (cU (innT u c mx S i))) := by
  refine .bz Tryz.f19 136 ?_
  have w := pQ wc hi
  have w1 := w.lo; have w2 := w.hi
  have hsz : (c8 u (itI c i)).length ≤ 1664 := v7 hu w
  have hwl := wc.len
  have hk8 : kM u mx ≤ 8 := UZ
  have hk9 : V4 (u.c4.getD mx z6) ≤ 8 := hk8
  have hml := hu.ml
  have p : Pro (kM u mx) (c8 u (itI c i)).length (nxI u c i) (stS u c mx S i) := proS hu wc hS hi
  have hps := p.pos
  have hcl := wc.cl
  have hcll : (c.calls.getD i []).length = (c8 u (itI c i)).length := wc.cll i hi
  have hSl := hS.1
  have hcall : ∀ pc, pc < (c8 u (itI c i)).length → (F9 u c i pc).op = 2 → 0 ≤ (c.calls.getD i []).getD pc 0 ∧ (c.calls.getD i []).getD pc 0 < c.insts.length := fun pc hp ho => by have := (wc.call i hi pc hp).1 (.inl ho); exact ⟨this.1, this.2.1⟩
  refine c18z ?_
  refine .c7 [2, 3, 4, 5, 6, 11] ?_
  refine c24z ?_
  refine .ca rfl rfl (FU u mx) ?_
  refine .n ?_
  refine c69z ?_
  refine c41z ?_
  refine .c7 [2, 3, 4, 5, 6, 11, 12, 13] ?_
  refine c22z ?_
  refine .aW (fun m st => ∃ (j : Nat), (m = (c8 u (itI c i)).length - j ∧ (j ≤ (c8 u (itI c i)).length)) ∧ st = ⟨mkS 136 [(2, AV.int .i64 ((mx : Nat) : Int)), (3, AV.vec c.insts.length (cU S)), (4, AV.int .i64 ((i : Nat) : Int)), (5, AV.ptr h.length 0 0), (6, AV.ptr (h.length + 1) 0 0), (11, AV.ptr (h.length + 2) 0 0), (12, AV.int .i64 (((kM u mx) : Nat) : Int)), (13, AV.own (h.length + 3) 0 0 (c8 u (itI c i)).length), (14, AV.int .i64 ((j : Nat) : Int))], h ++ [⟨0, false, 30, 4, [.vec u.globals.length (j4 u.globals), .vec u.c4.length (g9 u.c4), .vec u.procs.length (m7 u.procs), .int .i64 u.main], 0⟩, ⟨0, false, 34, 3, [.vec c.insts.length (q9 c.insts), .vec c.calls.length (w4 c.calls), .vec c.roots.length (j4 c.roots)], 0⟩, ⟨0, false, 69, 2, [.int .i64 (itI c i).proc, .vec (itI c i).j0.length (j4 (itI c i).j0)], 0⟩, ⟨0, false, 22, 1, xS (c8 u (itI c i)).length j (List.replicate (kM u mx + 1) 0), 0⟩]⟩) (.v ⟨0, ⟨rfl, by omega⟩, rfl⟩) ?_ (he := by (rw [A1]))
  rintro m sl h' ⟨j, ⟨hm, hj⟩, hst⟩
  obtain ⟨rfl, rfl⟩ := St.mk.inj hst; clear hst
  refine c0z ?_
  refine u2z ?_ ?_
  ·intro e1 qe1
   refine c7z ?_
   refine c1z ?_
   refine .c7 [2, 3, 4, 5, 6, 11, 12, 13, 14] ?_
   refine c9.seenF (β := h.length + 3) (γ := h.length + 4) (A := cU (List.replicate j (List.replicate (kM u mx + 1) 0))) (R := List.replicate ((c8 u (itI c i)).length - (j + 1)) AV.j6) (zs := (List.replicate (kM u mx + 1) 0)) (len := kM u mx + 1) t36 t36 (by simp) (by omega) ?_
   simp only [List.append_assoc, List.cons_append, List.nil_append, p5, p9, List.set_cons_succ, List.set_cons_zero, List.length_append, List.length_cons, List.length_nil, Nat.reduceAdd, Nat.zero_add]
   refine .rz ?_
   exact ⟨_, by omega, .v ⟨(j + 1), ⟨rfl, by omega⟩, rfl⟩ (he := t153) (hk := by exact (aK.refl _).app rfl ⟨.inl rfl, .inl rfl, .inl rfl, .inr (A2 _), trivial⟩)⟩
  intro e1 qe1
  refine .exit ?_
  obtain rfl : j = (c8 u (itI c i)).length := by omega
  simp only [P2]
  change c9 ..
  refine c36z ?_
  refine .ca rfl rfl (MN _ hk8) ?_
  refine c41z ?_
  refine .c7 [2, 3, 4, 5, 6, 11, 13] ?_
  refine c22z ?_
  refine .aW (fun m st => ∃ (T : List (List Nat)) (ag : Bool), (m = mPas (c8 u (itI c i)).length T ag ∧ (Gro (kM u mx) (c8 u (itI c i)).length (nxI u c i) (stS u c mx S i) T ∧ (ag = false → T = dC (kM u mx) (c8 u (itI c i)).length (nxI u c i) (stS u c mx S i)))) ∧ st = ⟨mkS 136 [(2, AV.int .i64 ((mx : Nat) : Int)), (3, AV.vec c.insts.length (cU S)), (4, AV.int .i64 ((i : Nat) : Int)), (5, AV.ptr h.length 0 0), (6, AV.ptr (h.length + 1) 0 0), (11, AV.ptr (h.length + 2) 0 0), (13, AV.own (h.length + 3) 0 0 (c8 u (itI c i)).length), (15, AV.bool ag)], h ++ [⟨0, false, 30, 4, [.vec u.globals.length (j4 u.globals), .vec u.c4.length (g9 u.c4), .vec u.procs.length (m7 u.procs), .int .i64 u.main], 0⟩, ⟨0, false, 34, 3, [.vec c.insts.length (q9 c.insts), .vec c.calls.length (w4 c.calls), .vec c.roots.length (j4 c.roots)], 0⟩, ⟨0, false, 69, 2, [.int .i64 (itI c i).proc, .vec (itI c i).j0.length (j4 (itI c i).j0)], 0⟩, ⟨0, false, 22, 1, cU T, 0⟩]⟩) (.v ⟨((List.replicate (c8 u (itI c i)).length (List.replicate (kM u mx + 1) 0)).set 0 (dhN (kM u mx) 0)), true, ⟨rfl, ⟨Gro.start p, fun hf => by cases hf⟩⟩, rfl⟩) ?_
  rintro m sl h' ⟨T, ag, ⟨hm, ⟨hG, hdone⟩⟩, hst⟩
  obtain ⟨rfl, rfl⟩ := St.mk.inj hst; clear hst
  refine c0z ?_
  refine u2z ?_ ?_
  ·intro e2 qe2
   refine c187z ?_
   have hag : ag = true := by assumption
   subst hag
   refine c18z ?_
   refine .block ?_
   refine .aW (fun m st => ∃ (T1 : List (List Nat)) (a1 : Bool) (pc : Nat), (m = (c8 u (itI c i)).length - pc ∧ (GW (kM u mx) (c8 u (itI c i)).length (nxI u c i) (stS u c mx S i) T T1 a1 pc ∧ pc ≤ (c8 u (itI c i)).length)) ∧ st = ⟨mkS 136 [(2, AV.int .i64 ((mx : Nat) : Int)), (3, AV.vec c.insts.length (cU S)), (4, AV.int .i64 ((i : Nat) : Int)), (5, AV.ptr h.length 0 0), (6, AV.ptr (h.length + 1) 0 0), (11, AV.ptr (h.length + 2) 0 0), (13, AV.own (h.length + 3) 0 0 (c8 u (itI c i)).length), (15, AV.bool a1), (16, AV.int .i64 ((pc : Nat) : Int))], h ++ [⟨0, false, 30, 4, [.vec u.globals.length (j4 u.globals), .vec u.c4.length (g9 u.c4), .vec u.procs.length (m7 u.procs), .int .i64 u.main], 0⟩, ⟨0, false, 34, 3, [.vec c.insts.length (q9 c.insts), .vec c.calls.length (w4 c.calls), .vec c.roots.length (j4 c.roots)], 0⟩, ⟨0, false, 69, 2, [.int .i64 (itI c i).proc, .vec (itI c i).j0.length (j4 (itI c i).j0)], 0⟩, ⟨0, false, 22, 1, cU T1, 0⟩]⟩) (.v ⟨T, false, 0, ⟨rfl, ⟨GW.start hG, by omega⟩⟩, rfl⟩) ?_
   rintro m sl h' ⟨T1, a1, pc, ⟨hm, ⟨hP, hpl⟩⟩, hst⟩
   obtain ⟨rfl, rfl⟩ := St.mk.inj hst; clear hst
   have hT1 : T1.length = (c8 u (itI c i)).length := hP.g.tb.1
   refine c0z ?_
   refine u2z ?_ ?_
   ·intro e3 qe3
    refine c7z ?_
    have hpc : pc < (c8 u (itI c i)).length := by omega
    have hop : F9 u c i pc = (c8 u (itI c i)).getD pc g5 := rfl
    refine c27z ?_
    refine .ca rfl rfl (c_relRN hu wc hmx hi (show pc < W2 u c i by show pc < (c8 u (itI c i)).length; omega)) ?_
    refine c41z ?_
    refine .c7 [2, 3, 4, 5, 6, 11, 13, 15, 16, 17] ?_
    refine c170z ?_
    refine u2z ?_ ?_
    ·intro e4 qe4
     refine .c7 [2, 3, 4, 5, 6, 11, 13, 15, 16] ?_
     obtain ⟨hc1, hc2⟩ := hcall pc hpc (by rw [hop]; omega)
     refine c122z ?_
     refine .c7 [2, 3, 4, 5, 6, 11, 13, 15, 16, 17] ?_
     have hst2 : S.getD ((c.calls.getD i []).getD pc 0).toNat [] = stS u c mx S i pc := by unfold stS; rw [if_pos (show (F9 u c i pc).op = 2 from by rw [hop]; omega)]; first | done | rfl
     rw [hst2]
     have hst1 := p.st pc hpc
     have hTp := hP.g.tb.get hpc
     obtain ⟨hR, hle⟩ := hP.g.aft p hpc
     have hnl := tA (x := (c8 u (itI c i)).getD pc g5) (pc := pc)
     refine .ss s7 (mkP 12 [0, 0, 3, 7, 0, 31, 0, 0, 0, 511, 1023, 2047] []) ?_
     refine .k 5 [] ?_
     refine .ca rfl rfl (FI _ _ (hst1.lt hk8) (by have := hst1.1; omega) (hTp.lt hk8) (by have := hTp.1; omega)) ?_
     refine .k 3 [] ?_
     refine .ca rfl rfl (P3 hu w hpc) ?_
     refine .n [] ?_
     refine .c7 [2, 3, 4, 5, 6, 11, 13, 15, 16, 18, 19] ?_
     refine c22z ?_
     refine .aW (fun m st => ∃ (T2 : List (List Nat)) (a2 : Bool) (j : Nat), (m = (s5 ((c8 u (itI c i)).getD pc g5) pc).length - j ∧ (FL (kM u mx) (c8 u (itI c i)).length (nxI u c i) (stS u c mx S i) T T2 a2 pc (T1.getD pc []) j ∧ j ≤ (s5 ((c8 u (itI c i)).getD pc g5) pc).length)) ∧ st = ⟨mkS 136 [(2, AV.int .i64 ((mx : Nat) : Int)), (3, AV.vec c.insts.length (cU S)), (4, AV.int .i64 ((i : Nat) : Int)), (5, AV.ptr h.length 0 0), (6, AV.ptr (h.length + 1) 0 0), (11, AV.ptr (h.length + 2) 0 0), (13, AV.own (h.length + 3) 0 0 (c8 u (itI c i)).length), (15, AV.bool a2), (16, AV.int .i64 ((pc : Nat) : Int)), (18, cR (o1 (T1.getD pc []) (stS u c mx S i pc))), (19, AV.vec (s5 ((c8 u (itI c i)).getD pc g5) pc).length (j4 (s5 ((c8 u (itI c i)).getD pc g5) pc))), (20, AV.int .i64 ((j : Nat) : Int))], h ++ [⟨0, false, 30, 4, [.vec u.globals.length (j4 u.globals), .vec u.c4.length (g9 u.c4), .vec u.procs.length (m7 u.procs), .int .i64 u.main], 0⟩, ⟨0, false, 34, 3, [.vec c.insts.length (q9 c.insts), .vec c.calls.length (w4 c.calls), .vec c.roots.length (j4 c.roots)], 0⟩, ⟨0, false, 69, 2, [.int .i64 (itI c i).proc, .vec (itI c i).j0.length (j4 (itI c i).j0)], 0⟩, ⟨0, false, 22, 1, cU T2, 0⟩]⟩) (.v ⟨T1, a1, 0, ⟨rfl, ⟨hP.go, by omega⟩⟩, rfl⟩) ?_
     rintro m sl h' ⟨T2, a2, j, ⟨hm, ⟨hQ, hj⟩⟩, hst⟩
     obtain ⟨rfl, rfl⟩ := St.mk.inj hst; clear hst
     have hT2 : T2.length = (c8 u (itI c i)).length := hQ.g.tb.1
     refine c0z ?_
     refine u2z ?_ ?_
     ·intro e5 qe5
      refine c7z ?_
      obtain ⟨hq1, hq2⟩ := p.nx pc hpc _ (j9 (d := 0) (show j < (nxI u c i pc).length from by show j < (s5 ((c8 u (itI c i)).getD pc g5) pc).length; omega))
      rw [show nxI u c i pc = (s5 ((c8 u (itI c i)).getD pc g5) pc) from rfl] at hq1 hq2
      have hjn : j < (nxI u c i pc).length := by show j < (s5 ((c8 u (itI c i)).getD pc g5) pc).length; omega
      have hq3 : ((s5 ((c8 u (itI c i)).getD pc g5) pc).getD j 0).toNat < (c8 u (itI c i)).length := by omega
      have hRq := hQ.g.tb.get hq3
      refine c69z ?_
      refine .ca rfl rfl (P1 _ _ (hR.lt hk8) (hRq.lt hk8) (by have := hRq.1; omega) t147) ?_
      refine .n ?_
      refine .c7 [2, 3, 4, 5, 6, 11, 13, 15, 16, 18, 19, 20, 21] ?_
      refine c69z ?_
      refine .ca rfl rfl (G1 _ _ (by rw [nX]; have := hRq.1; omega)) ?_
      refine .n ?_
      refine u2z ?_ ?_
      ·intro e6 qe6
       refine .c7 [2, 3, 4, 5, 6, 11, 13, 16, 18, 19, 20, 21] ?_
       refine c122z ?_
       refine c116z ?_
       exact ⟨_, by omega, .v ⟨(T2.set ((s5 ((c8 u (itI c i)).getD pc g5) pc).getD j 0).toNat (cN (T2.getD ((s5 ((c8 u (itI c i)).getD pc g5) pc).getD j 0).toNat []) (o1 (T1.getD pc []) (stS u c mx S i pc)))), true, (j + 1), ⟨rfl, ⟨hQ.grow p hpc hR hle hjn rfl (fun hs => absurd ((dN hRq hR).2 hs) (by assumption)), by omega⟩⟩, rfl⟩ (he := t34) (hk := t49)⟩
      intro e6 qe6
      refine c6z ?_
      refine c116z ?_
      exact ⟨_, by omega, .v ⟨T2, a2, (j + 1), ⟨rfl, ⟨hQ.skip ((dN hRq hR).1 (by assumption)), by omega⟩⟩, rfl⟩ (he := t34) (hk := t49)⟩
     intro e5 qe5
     refine .exit ?_
     obtain rfl : j = (s5 ((c8 u (itI c i)).getD pc g5) pc).length := by omega
     change c9 ..
     refine .rz ?_
     exact ⟨_, by omega, .v ⟨T2, a2, (pc + 1), ⟨rfl, ⟨hQ.fin, by omega⟩⟩, rfl⟩ (he := t34) (hk := t49)⟩
    intro e4 qe4
    refine .sk ?_
    refine .c7 [2, 3, 4, 5, 6, 11, 13, 15, 16, 17] ?_
    have hst2 : dhN (kM u mx) (chI (itI c i) (F9 u c i pc) mx) = stS u c mx S i pc := by unfold stS; rw [if_neg (show ¬ (F9 u c i pc).op = 2 from by rw [hop]; omega)]; first | done | rfl
    rw [hst2]
    have hst1 := p.st pc hpc
    have hTp := hP.g.tb.get hpc
    obtain ⟨hR, hle⟩ := hP.g.aft p hpc
    have hnl := tA (x := (c8 u (itI c i)).getD pc g5) (pc := pc)
    refine .ss s7 (mkP 12 [0, 0, 3, 7, 0, 31, 0, 0, 0, 511, 1023, 2047] []) ?_
    refine .k 5 [] ?_
    refine .ca rfl rfl (FI _ _ (hst1.lt hk8) (by have := hst1.1; omega) (hTp.lt hk8) (by have := hTp.1; omega)) ?_
    refine .k 3 [] ?_
    refine .ca rfl rfl (P3 hu w hpc) ?_
    refine .n [] ?_
    refine .c7 [2, 3, 4, 5, 6, 11, 13, 15, 16, 18, 19] ?_
    refine c22z ?_
    refine .aW (fun m st => ∃ (T2 : List (List Nat)) (a2 : Bool) (j : Nat), (m = (s5 ((c8 u (itI c i)).getD pc g5) pc).length - j ∧ (FL (kM u mx) (c8 u (itI c i)).length (nxI u c i) (stS u c mx S i) T T2 a2 pc (T1.getD pc []) j ∧ j ≤ (s5 ((c8 u (itI c i)).getD pc g5) pc).length)) ∧ st = ⟨mkS 136 [(2, AV.int .i64 ((mx : Nat) : Int)), (3, AV.vec c.insts.length (cU S)), (4, AV.int .i64 ((i : Nat) : Int)), (5, AV.ptr h.length 0 0), (6, AV.ptr (h.length + 1) 0 0), (11, AV.ptr (h.length + 2) 0 0), (13, AV.own (h.length + 3) 0 0 (c8 u (itI c i)).length), (15, AV.bool a2), (16, AV.int .i64 ((pc : Nat) : Int)), (18, cR (o1 (T1.getD pc []) (stS u c mx S i pc))), (19, AV.vec (s5 ((c8 u (itI c i)).getD pc g5) pc).length (j4 (s5 ((c8 u (itI c i)).getD pc g5) pc))), (20, AV.int .i64 ((j : Nat) : Int))], h ++ [⟨0, false, 30, 4, [.vec u.globals.length (j4 u.globals), .vec u.c4.length (g9 u.c4), .vec u.procs.length (m7 u.procs), .int .i64 u.main], 0⟩, ⟨0, false, 34, 3, [.vec c.insts.length (q9 c.insts), .vec c.calls.length (w4 c.calls), .vec c.roots.length (j4 c.roots)], 0⟩, ⟨0, false, 69, 2, [.int .i64 (itI c i).proc, .vec (itI c i).j0.length (j4 (itI c i).j0)], 0⟩, ⟨0, false, 22, 1, cU T2, 0⟩]⟩) (.v ⟨T1, a1, 0, ⟨rfl, ⟨hP.go, by omega⟩⟩, rfl⟩) ?_
    rintro m sl h' ⟨T2, a2, j, ⟨hm, ⟨hQ, hj⟩⟩, hst⟩
    obtain ⟨rfl, rfl⟩ := St.mk.inj hst; clear hst
    have hT2 : T2.length = (c8 u (itI c i)).length := hQ.g.tb.1
    refine c0z ?_
    refine u2z ?_ ?_
    ·intro e7 qe7
     refine c7z ?_
     obtain ⟨hq1, hq2⟩ := p.nx pc hpc _ (j9 (d := 0) (show j < (nxI u c i pc).length from by show j < (s5 ((c8 u (itI c i)).getD pc g5) pc).length; omega))
     rw [show nxI u c i pc = (s5 ((c8 u (itI c i)).getD pc g5) pc) from rfl] at hq1 hq2
     have hjn : j < (nxI u c i pc).length := by show j < (s5 ((c8 u (itI c i)).getD pc g5) pc).length; omega
     have hq3 : ((s5 ((c8 u (itI c i)).getD pc g5) pc).getD j 0).toNat < (c8 u (itI c i)).length := by omega
     have hRq := hQ.g.tb.get hq3
     refine c69z ?_
     refine .ca rfl rfl (P1 _ _ (hR.lt hk8) (hRq.lt hk8) (by have := hRq.1; omega) t147) ?_
     refine .n ?_
     refine .c7 [2, 3, 4, 5, 6, 11, 13, 15, 16, 18, 19, 20, 21] ?_
     refine c69z ?_
     refine .ca rfl rfl (G1 _ _ (by rw [nX]; have := hRq.1; omega)) ?_
     refine .n ?_
     refine u2z ?_ ?_
     ·intro e8 qe8
      refine .c7 [2, 3, 4, 5, 6, 11, 13, 16, 18, 19, 20, 21] ?_
      refine c122z ?_
      refine c116z ?_
      exact ⟨_, by omega, .v ⟨(T2.set ((s5 ((c8 u (itI c i)).getD pc g5) pc).getD j 0).toNat (cN (T2.getD ((s5 ((c8 u (itI c i)).getD pc g5) pc).getD j 0).toNat []) (o1 (T1.getD pc []) (stS u c mx S i pc)))), true, (j + 1), ⟨rfl, ⟨hQ.grow p hpc hR hle hjn rfl (fun hs => absurd ((dN hRq hR).2 hs) (by assumption)), by omega⟩⟩, rfl⟩ (he := t34) (hk := t49)⟩
     intro e8 qe8
     refine c6z ?_
     refine c116z ?_
     exact ⟨_, by omega, .v ⟨T2, a2, (j + 1), ⟨rfl, ⟨hQ.skip ((dN hRq hR).1 (by assumption)), by omega⟩⟩, rfl⟩ (he := t34) (hk := t49)⟩
    intro e7 qe7
    refine .exit ?_
    obtain rfl : j = (s5 ((c8 u (itI c i)).getD pc g5) pc).length := by omega
    change c9 ..
    refine .rz ?_
    exact ⟨_, by omega, .v ⟨T2, a2, (pc + 1), ⟨rfl, ⟨hQ.fin, by omega⟩⟩, rfl⟩ (he := t34) (hk := t49)⟩
   intro e3 qe3
   refine .exit ?_
   obtain rfl : pc = (c8 u (itI c i)).length := by omega
   have hlt := mPas_lt hk8 hP
   exact ⟨_, by omega, .v ⟨T1, a1, ⟨rfl, ⟨hP.g, fun hf => by subst hf; exact hP.done p⟩⟩, rfl⟩ (he := t34) (hk := t49)⟩
  intro e2 qe2
  refine c9z ?_
  refine .c7 [13] ?_
  refine c35z ?_
  exact ⟨_, _, rfl, VA t36 (by omega) hG.tb.1, by (show _ = _; rw [hdone (by assumption)]; rfl)⟩
end Go.Proofs.YtfbjlfhjkojmkaaGreat
end
section
namespace Go.Proofs.YtfbjlfhjkojmkaaGreat
open Go.Ab Go.Un
variable {n : Nat}
theorem xM {h l : c6} {b0 b1 : Blk} {T : List (List Nat)} {r : List Nat} {g : Nat} (hn : T.length = n) (hl : n < 100000) : j5 cfg 22 (h ++ (b0 :: b1 :: o8 22 1 g (cU T) :: ⟨0, false, 22, 1, [.vec r.length (r.map aA)], 0⟩ :: l)) (.own (h.length + 2) g 0 n) (.own (h.length + 3) 0 0 1) = some (.own (h.length + 2) (g + 1) 0 (n + 1), h ++ (b0 :: b1 :: o8 22 1 (g + 1) (cU (T ++ [r])) :: ⟨0, false, 22, 1, [.vec r.length (r.map aA)], 0⟩ :: l)) := by
 subst hn
 rw [y0 (C := cfg) (K := 1) (m := 1) (new := [.vec r.length (r.map aA)]) (zs := cU T) t36 rfl (by omega) (by simp [cU]) rfl (by omega) t173 rfl (by decide) (by omega), p9, show cU T ++ [AV.vec r.length (r.map aA)] = cU (T ++ [r]) from by simp [cU, cR]]
 rfl
variable {l : List Int}
theorem G2 {a : Nat} : List.take (l.length - a) (List.drop a (j4 l)) = j4 (l.drop a) := by
 unfold j4
 rw [← List.map_drop, List.take_of_length_le (by simp)]
theorem frz_O {β g len : Nat} {H : c6} {a : List (List Nat)} (hb : H[β]? = some (o8 22 1 g (cU a))) (hn : n ≤ β) (hl : a.length = len) (hp : 0 < len) : gM n H 6 (.own β g 0 len) = some (.vec len (cU a)) := by
 rw [eY (by intro h0; have := congrArg List.length h0; rw [bN] at this; simp only [List.length_nil] at this; omega)] at hb
 exact VA hb hn hl
def MO (u : Un) (c : Clo) (mx : Nat) (l : List Int) : List (List Nat) := (List.range c.insts.length).map fun i => X3 (l.drop (min l.length (i * (kM u mx + 1)))) (kM u mx)
theorem mI {u : Un} {c : Clo} {mx : Nat} : Tb (kM u mx) c.insts.length (MO u c mx l) := by
 refine ⟨by simp [MO], fun r hr => ?_⟩
 obtain ⟨i, _, rfl⟩ := List.mem_map.1 hr
 refine ⟨EX _ _, fun x hx => ?_⟩
 obtain ⟨d, _, rfl⟩ := List.mem_map.1 hx
 exact relV_lt _ _ _
theorem MP {u : Un} {c : Clo} {mx i : Nat} (hi : i < c.insts.length) : (MO u c mx l).take i ++ [X3 (l.drop (min l.length (i * (kM u mx + 1)))) (kM u mx)] = (MO u c mx l).take (i + 1) := by
 have hl : i < (MO u c mx l).length := by rw [mI.1]; exact hi
 rw [List.take_add_one, List.getElem?_eq_getElem hl]
 simp [MO]
theorem MQ {T : List (List Nat)} (h : T.length = n) : T.take n = T := List.take_of_length_le (by omega)
attribute [local go_sem] rd cR u3 aH r8 m9 l7 dM bN Int.natCast_nonneg Int.natCast_inj dB jM gV jN kX pC G0 uX jQ uY W4 lO tD tE pD List.length_set List.length_replicate Int.toNat_natCast_add_one kQ wrap64 W3 List.length_map jP xM G2 jQ
theorem MR {h : c6} {m : Nat} {a b : List (List Nat)} (ha : a.length = n) (hb : b.length = m) (hl : n < 1000000) (hr : ∀ r ∈ a, r.length < 1000) : CB 12 [.vec n (cU a), .vec m (cU b)] h (.bool (decide (a = b))) := by
 subst ha hb
 exact c_sameT (n := 0) a b hl hr
end Go.Proofs.YtfbjlfhjkojmkaaGreat
end
section
namespace Go.Proofs.YtfbjlfhjkojmkaaGreat
open Go.Ab Go.Un
attribute [local go_sem] l7 w6 m9 z4 l9 Int.natCast_nonneg Int.natCast_inj List.length_map bI hB_1 hB_2 hB_5 RX RY RZ SA dV wZ eA E4
variable {c : Core} {e : Frame} {left I : Int}
theorem PF {l : c6} (hc : OkC c) (hI : OkI c.L I) (hL : c.L.length < 4611686018427387904) (vars : List BA) (hN : vars.length < 1000) (f : Fu) (hp : f.params.length ≤ 2) : CH 75 [.ptr 5 0 0, .agg (cY f), .vec vars.length (v8 vars)] (hB c e I left ++ l) (.agg (K6 (p8 c f.params vars I).1)) (hB c e (p8 c f.params vars I).2 left ++ l) := c_ref (e := ⟨e.b0, e.b1, e.b2, e.z, e.m, e.g, e.rest ++ l⟩) hc hI hL vars hN f hp
variable {n : Nat}
theorem P4 {c : Core} {e : Frame} {I left : Int} {fb rb : Blk} {g : Nat} {zs : List AV} {x1 x2 x3 x4 x5 x6 x7 : AV} (hz : zs.length = n * 7) (hn : n < 1000) :
    j5 cfg 164 (hB c e I left ++ [fb, rb, o8 164 7 g zs, ⟨0, false, 164, 7, [x1, x2, x3, x4, x5, x6, x7], 0⟩]) (.own (e.n + 2) g 0 n) (.own (e.n + 3) 0 0 1) = some (.own (e.n + 2) (g + 1) 0 (n + 1), hB c e I left ++ [fb, rb, o8 164 7 (g + 1) (zs ++ [x1, x2, x3, x4, x5, x6, x7]), ⟨0, false, 164, 7, [x1, x2, x3, x4, x5, x6, x7], 0⟩]) := by
  have hb : (hB c e I left ++ [fb, rb, o8 164 7 g zs, ⟨0, false, 164, 7, [x1, x2, x3, x4, x5, x6, x7], 0⟩])[e.n + 2]? = some (o8 164 7 g zs) := dV
  rw [y0 (C := cfg) (K := 7) (m := 1) (new := [x1, x2, x3, x4, x5, x6, x7]) hb rfl (by omega) hz rfl (by omega) t124 rfl (by decide) (by omega), eA]
  rfl
theorem FW {c : Core} {e : Frame} {I left : Int} {fb rb : Blk} {g : Nat} {zs : List AV} {x1 x2 x3 : AV} {x : Ex} (hz : zs.length = n * 7) (hn : n < 1000) :
    j5 cfg 164 (hB c e I left ++ [fb, rb, o8 164 7 g zs, ⟨0, false, 164, 7, x1 :: x2 :: x3 :: p7 x, 0⟩]) (.own (e.n + 2) g 0 n) (.own (e.n + 3) 0 0 1) = some (.own (e.n + 2) (g + 1) 0 (n + 1), hB c e I left ++ [fb, rb, o8 164 7 (g + 1) (zs ++ x1 :: x2 :: x3 :: p7 x), ⟨0, false, 164, 7, x1 :: x2 :: x3 :: p7 x, 0⟩]) := by
  rw [aR]
  exact P4 hz hn
variable {ps l : List Pm} {vars : List BA} {j : Nat} {J : Int}
theorem args_t (h : j < l.length) (hm : (l.getD j fP).mu = true) : u4 c ps vars (l.drop j) J = (⟨true, (p8 c ps vars J).1, j8⟩ :: (u4 c ps vars (l.drop (j + 1)) (p8 c ps vars J).2).1, (u4 c ps vars (l.drop (j + 1)) (p8 c ps vars J).2).2) := by
  rw [List.drop_eq_getElem_cons h, u4, if_pos (by simpa [List.getD, h] using hm)]
theorem args_f (h : j < l.length) (hm : (l.getD j fP).mu = false) : u4 c ps vars (l.drop j) J = (⟨false, l5, (g6 c vars J).1⟩ :: (u4 c ps vars (l.drop (j + 1)) (g6 c vars J).2).1, (u4 c ps vars (l.drop (j + 1)) (g6 c vars J).2).2) := by
  rw [List.drop_eq_getElem_cons h, u4, if_neg (by rw [show l[j].mu = (l.getD j fP).mu from by simp [List.getD, h], hm]; decide)]
theorem uZ {l : List Ar} {a : Ar} : aM (l ++ [a]) = aM l ++ X2 a := by simp [aM]
theorem refs_A {l : List Ar} : ∀ x ∈ aM l, Refs n x := by
  intro x hx
  obtain ⟨a, _, hx⟩ := List.mem_flatMap.1 hx
  simp only [X2, aR, List.mem_cons, List.not_mem_nil, or_false] at hx
  rcases hx with rfl | rfl | rfl | rfl | rfl | rfl | rfl
  · exact .bool _
  · exact .str _
  · exact .vec _ _
  · exact .int _ _
  · exact .int _ _
  · exact .str _
  · exact .vec _ _
theorem A5 {J' : Int} {xs : List Ar} {a : Ar} (h : u4 c ps vars l I = (xs ++ (u4 c ps vars (l.drop j) J).1, (u4 c ps vars (l.drop j) J).2)) (hs : u4 c ps vars (l.drop j) J = (a :: (u4 c ps vars (l.drop (j + 1)) J').1, (u4 c ps vars (l.drop (j + 1)) J').2)) : u4 c ps vars l I = ((xs ++ [a]) ++ (u4 c ps vars (l.drop (j + 1)) J').1, (u4 c ps vars (l.drop (j + 1)) J').2) := by
  rw [h, hs]
  simp only [List.append_assoc, List.cons_append, List.nil_append]
section
attribute [local go_sem] eH wrap64 cY K6 P4 FW jJ zH wP
theorem c_args (hc : OkC c) (hI : OkI c.L I) (hL : c.L.length < 4611686018427387904) (vars : List BA) (hN : vars.length < 1000) (f g : Fu) (hp : f.params.length ≤ 2) (hq : g.params.length ≤ 2) : CH 77 [.ptr 5 0 0, .agg (cY f), .agg (cY g), .vec vars.length (v8 vars)] (hB c e I left) (.vec (u4 c f.params vars g.params I).1.length (aM (u4 c f.params vars g.params I).1)) (hB c e (u4 c f.params vars g.params I).2 left) := by
  refine .wz Tryz.f77 40 ?_
  refine c54z ?_
  refine c9.C5 9 rfl ?_
  refine .aW (fun m st => ∃ (j : Nat) (J : Int) (xs : List Ar), (m = g.params.length - j ∧ (j ≤ g.params.length ∧ OkI c.L J ∧ xs.length = j ∧ u4 c f.params vars g.params I = (xs ++ (u4 c f.params vars (g.params.drop j) J).1, (u4 c f.params vars (g.params.drop j) J).2))) ∧ st = ⟨mkS 40 [(0, AV.ptr 5 0 0), (3, AV.vec vars.length (v8 vars)), (5, AV.ptr e.n 0 0), (6, AV.ptr (e.n + 1) 0 0), (9, AV.own (e.n + 2) j 0 j), (10, AV.int .i64 ((j : Nat) : Int))], hB c e J left ++ [⟨0, false, 101, 3, [.str f.name, .vec f.params.length (r7 f.params), .vec f.body.len (n6 f.body)], 0⟩, ⟨0, false, 101, 3, [.str g.name, .vec g.params.length (r7 g.params), .vec g.body.len (n6 g.body)], 0⟩, o8 164 7 j (aM xs)]⟩) (.v ⟨0, I, [], ⟨rfl, ⟨by omega, hI, rfl, rfl⟩⟩, rfl⟩ (hs := t32) (hr := t1)) ?_
  rintro m sl h' ⟨j, J, xs, ⟨hm, ⟨hj, hJ, hal, hA⟩⟩, hst⟩
  obtain ⟨rfl, rfl⟩ := St.mk.inj hst; clear hst
  have hz7 : (aM xs).length = j * 7 := by rw [bP, hal]; omega
  refine c0z ?_
  refine u2z ?_ ?_
  ·intro e1 qe1
   refine c129z ?_
   refine u2z ?_ ?_
   ·intro e2 qe2
    refine .c7 [0, 3, 5, 6, 9, 10] ?_
    refine c148z ?_
    refine .ch rfl rfl (PF hc hJ hL vars hN f hp) ?_
    refine c34z ?_
    refine .c7 [0, 3, 5, 6, 9, 10] ?_
    refine c9.nilsO (β := e.n + 2) (aM (xs ++ [(⟨true, (p8 c f.params vars J).1, j8⟩ : Ar)])) t61 (by rw [uZ]; exact (mK.refl _).app KJ) ?_
    simp only [eA, List.set_cons_succ, List.set_cons_zero]
    refine .rz ?_
    exact ⟨_, by omega, .v ⟨(j + 1), (p8 c f.params vars J).2, (xs ++ [(⟨true, (p8 c f.params vars J).1, j8⟩ : Ar)]), ⟨rfl, ⟨by omega, (nJ hc hJ).2, by simp [hal], A5 hA (args_t (by omega) (by assumption))⟩⟩, rfl⟩ (he := t134) (hl := t24) (hk := t155) (hs := t32) (hr := t1)⟩
   intro e2 qe2
   refine .c7 [0, 3, 5, 6, 9, 10] ?_
   refine .r ?_
   refine .e 3 ?_
   refine .ch rfl rfl (N0 hc hJ hL vars hN) ?_
   refine c34z ?_
   refine c9.nilsO (β := e.n + 2) (aM (xs ++ [(⟨false, l5, (g6 c vars J).1⟩ : Ar)])) t61 (by rw [uZ]; exact (mK.refl _).app DA) ?_
   simp only [eA, List.set_cons_succ, List.set_cons_zero]
   refine .rz ?_
   exact ⟨_, by omega, .v ⟨(j + 1), (g6 c vars J).2, (xs ++ [(⟨false, l5, (g6 c vars J).1⟩ : Ar)]), ⟨rfl, ⟨by omega, (gR hJ).2, by simp [hal], A5 hA (args_f (by omega) (by assumption))⟩⟩, rfl⟩ (he := t134) (hl := t24) (hk := t155) (hs := t32) (hr := t1)⟩
  intro e1 qe1
  refine c9z ?_
  refine .c7 [9] ?_
  refine c35z ?_
  exact ⟨hB _ _ _ _, _, .vec xs.length (aM xs), rfl, t65, fC, by (show gM _ (hB c e J left ++ _) 6 (.own (e.n + 2) j 0 j) = _; rw [bI, eN, if_neg (by omega), hal]; exact iH dV (by omega) (by rw [bP, hal]; omega) (by omega) frz_A), by refine ⟨?_, ?_⟩ <;> (rw [hA, List.drop_of_length_le (by omega)]; simp only [u4, List.append_nil])⟩
end
end Go.Proofs.YtfbjlfhjkojmkaaGreat
end
section
namespace Go.Proofs.YtfbjlfhjkojmkaaGreat
open Go.Ab Go.Un
theorem c_argsA {c : Core} {e : Frame} {left I : Int} {l : c6} (hc : OkC c) (hI : OkI c.L I) (hL : c.L.length < 4611686018427387904) (vars : List BA) (hN : vars.length < 1000) (f g : Fu) (hp : f.params.length ≤ 2) (hq : g.params.length ≤ 2) : CH 77 [.ptr 5 0 0, .agg (cY f), .agg (cY g), .vec vars.length (v8 vars)] (hB c e I left ++ l) (.vec (u4 c f.params vars g.params I).1.length (aM (u4 c f.params vars g.params I).1)) (hB c e (u4 c f.params vars g.params I).2 left ++ l) := c_args (e := ⟨e.b0, e.b1, e.b2, e.z, e.m, e.g, e.rest ++ l⟩) hc hI hL vars hN f g hp hq
theorem sealC_n {l : List BA} : o2 oJ (v8 l) = some (v8 l) := by
 induction l with
 | nil => rfl
 | cons x l ih =>
  have e : oJ (.str x) = some (.str x) := rfl
  simp only [v8, List.map_cons, o2, e] at ih ⊢
  rw [ih]
variable {β : Nat}
theorem MS {H : c6} {b : Blk} (h : H[β]? = some b) : H.set β b = H := by
 obtain ⟨h1, h2⟩ := List.getElem?_eq_some_iff.1 h
 rw [← h2]
 exact List.set_getElem_self h1
variable {g : Nat}
theorem C3 {f : FuncId} {args args' : List AV} {H : c6} {Q : AV → c6 → Prop} {vs : List BA} (hb : H[β]? = some ⟨g, false, 9, 1, v8 vs, vs.length⟩) (ha : R5 β g 0 vs.length (v8 vs) args' args) (r : CallA Tryz.prog cfg f args' H Q) : CallA Tryz.prog cfg f args H Q := by
 have e : H.set β (dG ⟨g, false, 9, 1, v8 vs, vs.length⟩ (0 + vs.length * 1)) = H := by
  rw [show dG ⟨g, false, 9, 1, v8 vs, vs.length⟩ (0 + vs.length * 1) = ⟨g, false, 9, 1, v8 vs, vs.length⟩ from by simp [dG]]
  exact MS hb
 refine CallA.AK (β := β) (off := 0) (len := vs.length) (cs := v8 vs) hb rfl (by simp [w6]) ?_ ha (by rw [e]; exact r)
 simp only [List.drop_zero, Nat.mul_one]
 rw [List.take_of_length_le t146]
 exact sealC_n
theorem raise {c : Code} {sl : List AV} {h : c6} {Q : Exit → St → Prop} {k : Nat} {b : Blk} (hb : h[β]? = some b) (hk : b.frz ≤ k) (r : c9 Tryz.prog cfg c ⟨sl, h.set β ⟨b.gen, b.bG, b.elem, b.esz, b.cells, k⟩⟩ Q) : c9 Tryz.prog cfg c ⟨sl, h⟩ Q := by
 refine c9.step _ (fun B φ w i => ?_) r
 have := mW k i hb
 have e : dG b k = ⟨b.gen, b.bG, b.elem, b.esz, b.cells, k⟩ := by
  simp only [dG, Nat.max_eq_right hk]
 rw [e] at this
 exact this
section
variable {c : Core} {e : Frame} {I left : Int} {l : c6} {fb : Blk} {gv : Nat} {vs : List BA}
theorem hB_v : (hB c e I left ++ (fb :: ⟨gv, false, 9, 1, v8 vs, vs.length⟩ :: l))[e.n + 1]? = some ⟨gv, false, 9, 1, v8 vs, vs.length⟩ := dV
theorem lP (hc : OkC c) (hI : OkI c.L I) (hL : c.L.length < 4611686018427387904) (hN : vs.length < 1000) : CH 76 [.ptr 5 0 0, .own (e.n + 1) gv 0 vs.length] (hB c e I left ++ (fb :: ⟨gv, false, 9, 1, v8 vs, vs.length⟩ :: l)) (.agg (p7 (g6 c vs I).1)) (hB c e (g6 c vs I).2 left ++ (fb :: ⟨gv, false, 9, 1, v8 vs, vs.length⟩ :: l)) :=
 C3 (args' := [.ptr 5 0 0, .vec vs.length (v8 vs)]) hB_v ⟨.inl rfl, .inr ⟨rfl, rfl⟩, trivial⟩ (N0 hc hI hL vs hN)
theorem P5 (hc : OkC c) (hI : OkI c.L I) (hL : c.L.length < 4611686018427387904) (hN : vs.length < 1000) (f : Fu) (hp : f.params.length ≤ 2) : CH 75 [.ptr 5 0 0, .agg (cY f), .own (e.n + 1) gv 0 vs.length] (hB c e I left ++ (fb :: ⟨gv, false, 9, 1, v8 vs, vs.length⟩ :: l)) (.agg (K6 (p8 c f.params vs I).1)) (hB c e (p8 c f.params vs I).2 left ++ (fb :: ⟨gv, false, 9, 1, v8 vs, vs.length⟩ :: l)) :=
 C3 (args' := [.ptr 5 0 0, .agg (cY f), .vec vs.length (v8 vs)]) hB_v ⟨.inl rfl, .inl rfl, .inr ⟨rfl, rfl⟩, trivial⟩ (PF hc hI hL vs hN f hp)
theorem FX (hc : OkC c) (hI : OkI c.L I) (hL : c.L.length < 4611686018427387904) (hN : vs.length < 1000) (f g : Fu) (hp : f.params.length ≤ 2) (hq : g.params.length ≤ 2) : CH 77 [.ptr 5 0 0, .agg (cY f), .agg (cY g), .own (e.n + 1) gv 0 vs.length] (hB c e I left ++ (fb :: ⟨gv, false, 9, 1, v8 vs, vs.length⟩ :: l)) (.vec (u4 c f.params vs g.params I).1.length (aM (u4 c f.params vs g.params I).1)) (hB c e (u4 c f.params vs g.params I).2 left ++ (fb :: ⟨gv, false, 9, 1, v8 vs, vs.length⟩ :: l)) :=
 C3 (args' := [.ptr 5 0 0, .agg (cY f), .agg (cY g), .vec vs.length (v8 vs)]) hB_v ⟨.inl rfl, .inl rfl, .inl rfl, .inr ⟨rfl, rfl⟩, trivial⟩ (c_argsA hc hI hL vs hN f g hp hq)
def A6 (c : Core) (f : Fu) (fu : Nat) (left : Int) : Prop := ∀ {e : Frame} (I l' : Int) (vs all : List BA) (d m : Int), OkI c.L I → 0 ≤ l' → l' < left → 0 ≤ d → d ≤ 100 → 0 ≤ m → m ≤ 100 → (∀ x ∈ vs, x ∈ all) → Fr l'.toNat all → vs.length + l'.toNat ≤ 500 →
 CallA Tryz.prog cfg 48 [.ptr 5 0 0, .agg (cY f), .vec vs.length (v8 vs), .int .i64 d, .int .i64 m] (hB c e I l') (fun y' h' => y' = .vec (g0 c f.params fu vs d m I l').1.len (n6 (g0 c f.params fu vs d m I l').1) ∧ h' = hB c e (g0 c f.params fu vs d m I l').2.1 (g0 c f.params fu vs d m I l').2.2)
theorem A6.V {f : Fu} {fu : Nat} {left0 : Int} (h : A6 c f fu left0) (l' : Int) (all : List BA) (d m : Int) (hI : OkI c.L I) (h1 : 0 ≤ l') (h2 : l' < left0) (h3 : 0 ≤ d) (h4 : d ≤ 100) (h5 : 0 ≤ m) (h6 : m ≤ 100) (h7 : ∀ x ∈ vs, x ∈ all) (h8 : Fr l'.toNat all) (h9 : vs.length + l'.toNat ≤ 500) :
  CallA Tryz.prog cfg 48 [.ptr 5 0 0, .agg (cY f), .own (e.n + 1) gv 0 vs.length, .int .i64 d, .int .i64 m] (hB c e I l' ++ (fb :: ⟨gv, false, 9, 1, v8 vs, vs.length⟩ :: l)) (fun y' h' => y' = .vec (g0 c f.params fu vs d m I l').1.len (n6 (g0 c f.params fu vs d m I l').1) ∧ h' = hB c e (g0 c f.params fu vs d m I l').2.1 (g0 c f.params fu vs d m I l').2.2 ++ (fb :: ⟨gv, false, 9, 1, v8 vs, vs.length⟩ :: l)) :=
 C3 (args' := [.ptr 5 0 0, .agg (cY f), .vec vs.length (v8 vs), .int .i64 d, .int .i64 m]) hB_v ⟨.inl rfl, .inl rfl, .inr ⟨rfl, rfl⟩, .inl rfl, .inl rfl, trivial⟩ (h (e := ⟨e.b0, e.b1, e.b2, e.z, e.m, e.g, e.rest ++ (fb :: ⟨gv, false, 9, 1, v8 vs, vs.length⟩ :: l)⟩) I l' vs all d m hI h1 h2 h3 h4 h5 h6 h7 h8 h9)
def gO (g n : Nat) : Nat := if n = 0 then g else g + 1
theorem MT (hn : vs.length < 1000) : j5 cfg 9 (hB c e I left ++ [fb, ⟨0, false, 9, 1, [], 0⟩]) (.own (e.n + 1) 0 0 0) (.vec vs.length (v8 vs)) = some (.own (e.n + 1) (gO 0 vs.length) 0 vs.length, hB c e I left ++ [fb, ⟨gO 0 vs.length, false, 9, 1, v8 vs, 0⟩]) := by
 have e1 : cfg.sz 9 = 1 := rfl
 have e2 : (cfg.ti 9).bytes = 16 := rfl
 have hm : vs.length ≤ maxLen := by
  have : (1000 : Nat) ≤ maxLen := by decide
  omega
 have hb : vs.length * 16 ≤ 140737488355328 := by omega
 cases vs with
 | nil => simp [j5, rd, lenOf, e1, e2, dV, gO, v8]
 | cons x vs =>
  have h0 : (v8 (x :: vs)).length = vs.length + 1 := by simp [v8]
  simp only [List.length_cons] at hm hb
  simp [j5, rd, lenOf, e1, e2, dV, gO, h0, hm, hb, eA]
variable {t : Blk}
theorem app_vs {O p : Blk} {x : BA} (hn : vs.length < 1000) : j5 cfg 9 (hB c e I left ++ [fb, ⟨gv, false, 9, 1, v8 vs, vs.length⟩, O, t, p, ⟨0, false, 9, 1, [.str x], 0⟩]) (.own (e.n + 1) gv 0 vs.length) (.own (e.n + 5) 0 0 1) = some (.own (e.n + 1) (gv + 1) 0 (vs.length + 1), hB c e I left ++ [fb, ⟨gv + 1, false, 9, 1, v8 (vs ++ [x]), vs.length⟩, O, t, p, ⟨0, false, 9, 1, [.str x], 0⟩]) := by
 have e1 : cfg.sz 9 = 1 := rfl
 have e2 : (cfg.ti 9).bytes = 16 := rfl
 have hm : vs.length + 1 ≤ maxLen := by
  have : (1001 : Nat) ≤ maxLen := by decide
  omega
 have hb : (vs.length + 1) * 16 ≤ 140737488355328 := by omega
 have ht : List.take vs.length (v8 vs) = v8 vs := List.take_of_length_le t146
 have hnl : ¬ vs.length + 1 ≤ vs.length := by omega
 simp [j5, rd, lenOf, e1, e2, dV, w6, hm, hb, eA, ht, hnl, iI]
variable {n : Nat} {zs : List AV}
theorem MU {vb t : Blk} {g : Nat} {x1 x2 x3 x4 x5 x6 x7 x8 x9 x10 x11 : AV} (hz : zs.length = n * 11) (hn : n < 1000) :
  j5 cfg 140 (hB c e I left ++ [fb, vb, o8 140 11 g zs, t, ⟨0, false, 140, 11, [x1, x2, x3, x4, x5, x6, x7, x8, x9, x10, x11], 0⟩]) (.own (e.n + 2) g 0 n) (.own (e.n + 4) 0 0 1) = some (.own (e.n + 2) (g + 1) 0 (n + 1), hB c e I left ++ [fb, vb, o8 140 11 (g + 1) (zs ++ [x1, x2, x3, x4, x5, x6, x7, x8, x9, x10, x11]), t, ⟨0, false, 140, 11, [x1, x2, x3, x4, x5, x6, x7, x8, x9, x10, x11], 0⟩]) := by
 have hb : (hB c e I left ++ [fb, vb, o8 140 11 g zs, t, ⟨0, false, 140, 11, [x1, x2, x3, x4, x5, x6, x7, x8, x9, x10, x11], 0⟩])[e.n + 2]? = some (o8 140 11 g zs) := dV
 rw [y0 (C := cfg) (K := 11) (m := 1) (new := [x1, x2, x3, x4, x5, x6, x7, x8, x9, x10, x11]) hb rfl (by omega) hz rfl (by omega) t124 rfl (by decide) (by omega), eA]
 rfl
theorem MV {vb t u : Blk} {g : Nat} {x1 x2 x3 x4 x5 x6 x7 x8 x9 x10 x11 : AV} (hz : zs.length = n * 11) (hn : n < 1000) :
  j5 cfg 140 (hB c e I left ++ [fb, vb, o8 140 11 g zs, t, u, ⟨0, false, 140, 11, [x1, x2, x3, x4, x5, x6, x7, x8, x9, x10, x11], 0⟩]) (.own (e.n + 2) g 0 n) (.own (e.n + 5) 0 0 1) = some (.own (e.n + 2) (g + 1) 0 (n + 1), hB c e I left ++ [fb, vb, o8 140 11 (g + 1) (zs ++ [x1, x2, x3, x4, x5, x6, x7, x8, x9, x10, x11]), t, u, ⟨0, false, 140, 11, [x1, x2, x3, x4, x5, x6, x7, x8, x9, x10, x11], 0⟩]) := by
 have hb : (hB c e I left ++ [fb, vb, o8 140 11 g zs, t, u, ⟨0, false, 140, 11, [x1, x2, x3, x4, x5, x6, x7, x8, x9, x10, x11], 0⟩])[e.n + 2]? = some (o8 140 11 g zs) := dV
 rw [y0 (C := cfg) (K := 11) (m := 1) (new := [x1, x2, x3, x4, x5, x6, x7, x8, x9, x10, x11]) hb rfl (by omega) hz rfl (by omega) t124 rfl (by decide) (by omega), eA]
 rfl
theorem P6 {vb t u v : Blk} {g : Nat} {x1 x2 x3 x4 x5 x6 x7 x8 x9 x10 x11 : AV} (hz : zs.length = n * 11) (hn : n < 1000) :
  j5 cfg 140 (hB c e I left ++ [fb, vb, o8 140 11 g zs, t, u, v, ⟨0, false, 140, 11, [x1, x2, x3, x4, x5, x6, x7, x8, x9, x10, x11], 0⟩]) (.own (e.n + 2) g 0 n) (.own (e.n + 6) 0 0 1) = some (.own (e.n + 2) (g + 1) 0 (n + 1), hB c e I left ++ [fb, vb, o8 140 11 (g + 1) (zs ++ [x1, x2, x3, x4, x5, x6, x7, x8, x9, x10, x11]), t, u, v, ⟨0, false, 140, 11, [x1, x2, x3, x4, x5, x6, x7, x8, x9, x10, x11], 0⟩]) := by
 have hb : (hB c e I left ++ [fb, vb, o8 140 11 g zs, t, u, v, ⟨0, false, 140, 11, [x1, x2, x3, x4, x5, x6, x7, x8, x9, x10, x11], 0⟩])[e.n + 2]? = some (o8 140 11 g zs) := dV
 rw [y0 (C := cfg) (K := 11) (m := 1) (new := [x1, x2, x3, x4, x5, x6, x7, x8, x9, x10, x11]) hb rfl (by omega) hz rfl (by omega) t124 rfl (by decide) (by omega), eA]
 rfl
variable {m : Nat} {cs : List AV}
theorem FY {vb t u s : Blk} {g : Nat} (hz : zs.length = n * 11) (hcs : cs.length = m * 11) (hn : n < 1000) (hm : m < 1000) :
  j5 cfg 140 (hB c e I left ++ [fb, vb, o8 140 11 g zs, t, u, s]) (.own (e.n + 2) g 0 n) (.vec m cs) = some (.own (e.n + 2) (gO g m) 0 (n + m), hB c e I left ++ [fb, vb, o8 140 11 (gO g m) (zs ++ cs), t, u, s]) := by
 have hb : (hB c e I left ++ [fb, vb, o8 140 11 g zs, t, u, s])[e.n + 2]? = some (o8 140 11 g zs) := dV
 by_cases h0 : m = 0
 ·subst h0
  obtain rfl : cs = [] := List.length_eq_zero_iff.1 (by simpa using hcs)
  have e1 : cfg.sz 140 = 11 := rfl
  have e2 : (cfg.ti 140).bytes = 192 := rfl
  have hmx : n ≤ maxLen := by
   have : (1000 : Nat) ≤ maxLen := by decide
   omega
  have hbd : n * 192 ≤ 140737488355328 := by omega
  simp [j5, rd, lenOf, e1, e2, hb, J5, gO, hmx, hbd]
 ·rw [y0 (C := cfg) (K := 11) (m := m) (new := cs) hb rfl (by omega) hz hcs (by omega) rfl rfl (by decide) (by omega), eA]
  simp only [gO, h0, if_false]
  rfl
theorem MW {vb t u s : Blk} {g : Nat} {y1 y2 y3 y4 y5 y6 y7 y8 y9 y10 y11 : AV} (hz : zs.length = n * 11) (hcs : cs.length = m * 11) (hn : n < 900) (hm : m < 1000) :
  j5 cfg 140 (hB c e I left ++ [fb, vb, o8 140 11 g (zs ++ [y1, y2, y3, y4, y5, y6, y7, y8, y9, y10, y11]), t, u, s]) (.own (e.n + 2) g 0 (n + 1)) (.vec m cs) = some (.own (e.n + 2) (gO g m) 0 (n + 1 + m), hB c e I left ++ [fb, vb, o8 140 11 (gO g m) ((zs ++ [y1, y2, y3, y4, y5, y6, y7, y8, y9, y10, y11]) ++ cs), t, u, s]) :=
 FY (by rw [List.length_append, hz]; simp; omega) hcs (by omega) hm
theorem MX {vb t u v : Blk} {g : Nat} {y1 y2 y3 y4 y5 y6 y7 y8 y9 y10 y11 x1 x2 x3 x4 x5 x6 x7 x8 x9 x10 x11 : AV} (hz : zs.length = n * 11) (hcs : cs.length = m * 11) (hn : n < 400) (hm : m < 400) :
  j5 cfg 140 (hB c e I left ++ [fb, vb, o8 140 11 g (zs ++ y1 :: y2 :: y3 :: y4 :: y5 :: y6 :: y7 :: y8 :: y9 :: y10 :: y11 :: cs), t, u, v, ⟨0, false, 140, 11, [x1, x2, x3, x4, x5, x6, x7, x8, x9, x10, x11], 0⟩]) (.own (e.n + 2) g 0 (n + 1 + m)) (.own (e.n + 6) 0 0 1) = some (.own (e.n + 2) (g + 1) 0 (n + 1 + m + 1), hB c e I left ++ [fb, vb, o8 140 11 (g + 1) ((zs ++ y1 :: y2 :: y3 :: y4 :: y5 :: y6 :: y7 :: y8 :: y9 :: y10 :: y11 :: cs) ++ [x1, x2, x3, x4, x5, x6, x7, x8, x9, x10, x11]), t, u, v, ⟨0, false, 140, 11, [x1, x2, x3, x4, x5, x6, x7, x8, x9, x10, x11], 0⟩]) :=
 P6 (by rw [List.length_append, hz]; simp only [List.length_cons, hcs]; omega) (by omega)
end
theorem PG {n : Nat} : ∀ (s : Sl), ∀ x ∈ n6 s, Refs n x
 | .nil, x, hx => by simp [n6] at hx
 | .cons k nm e r as' th el rest, x, hx => by
  simp only [n6, aR, List.cons_append, List.nil_append, List.mem_cons] at hx
  rcases hx with rfl | rfl | rfl | rfl | rfl | rfl | rfl | rfl | rfl | rfl | rfl | hx
  ·exact .int _ _
  ·exact .str _
  ·exact .int _ _
  ·exact .int _ _
  ·exact .str _
  ·exact .vec _ _
  ·exact .str _
  ·exact .vec _ _
  ·exact .vec _ _
  ·exact .vec _ _
  ·exact .vec _ _
  ·exact PG rest x hx
theorem frz_S {n d : Nat} {H : c6} : ∀ (s : Sl), o2 (jT n H (d + 1)) (n6 s) = some (n6 s)
 | .nil => rfl
 | .cons k nm e r as' th el rest => by
  have ih := frz_S (n := n) (d := d) (H := H) rest
  simp only [n6, aR, List.cons_append, List.nil_append, o2, qI, nD, lF, ih]
theorem aC {k : Int} {nm : BA} {x : Ex} {r : Rf} {xs : List Ar} {th el : Sl} {a b c d f : AV} (ha : a = .vec x.args.length (l6 x.args) ∨ (a = .j6 ∧ x.args = [])) (hb : b = .vec r.idx.length (l6 r.idx) ∨ (b = .j6 ∧ r.idx = [])) (hc : c = .vec xs.length (aM xs) ∨ (c = .j6 ∧ xs = []))
  (hd : d = .vec th.len (n6 th) ∨ (d = .j6 ∧ th = .nil)) (hf : f = .vec el.len (n6 el) ∨ (f = .j6 ∧ el = .nil)) :
  mK (n6 (row k nm x r xs th el)) [.int .i64 k, .str nm, .int .i64 x.op, .int .i64 x.num, .str x.name, a, .str r.name, b, c, d, f] := by
 simp only [row, n6, aR, List.cons_append, List.nil_append]
 refine ⟨.inl rfl, .inl rfl, .inl rfl, .inl rfl, .inl rfl, ?_, .inl rfl, ?_, ?_, ?_, ?_, trivial⟩
 ·rcases ha with rfl | ⟨rfl, h⟩
  ·exact .inl rfl
  ·rw [h]; exact .inr ⟨rfl, rfl⟩
 ·rcases hb with rfl | ⟨rfl, h⟩
  ·exact .inl rfl
  ·rw [h]; exact .inr ⟨rfl, rfl⟩
 ·rcases hc with rfl | ⟨rfl, h⟩
  ·exact .inl rfl
  ·rw [h]; exact .inr ⟨rfl, rfl⟩
 ·rcases hd with rfl | ⟨rfl, h⟩
  ·exact .inl rfl
  ·rw [h]; exact .inr ⟨rfl, rfl⟩
 ·rcases hf with rfl | ⟨rfl, h⟩
  ·exact .inl rfl
  ·rw [h]; exact .inr ⟨rfl, rfl⟩
theorem iO {k : Int} {nm : BA} {x : Ex} {r : Rf} {xs : List Ar} {th el : Sl} : n6 (row k nm x r xs th el) = [.int .i64 k, .str nm, .int .i64 x.op, .int .i64 x.num, .str x.name, .vec x.args.length (l6 x.args), .str r.name, .vec r.idx.length (l6 r.idx), .vec xs.length (aM xs), .vec th.len (n6 th), .vec el.len (n6 el)] := by
 simp only [row, n6, aR, List.cons_append, List.nil_append]
theorem wrap8 {n : Int} (h1 : 0 ≤ n) (h2 : n < 256) : IntKind.wrap .u8 n = n := by
 unfold IntKind.wrap
 have e1 : (2 : Int) ^ IntKind.bits .u8 = 256 := rfl
 have e3 : IntKind.signed .u8 = false := rfl
 simp only [e1, e3, Bool.false_and, Bool.false_eq_true, if_false]
 omega
theorem vnm_eq {l : Int} (h0 : 0 ≤ l) (h1 : l < 24) : (⟨#[118]⟩ : BA) ++ (⟨#[UInt8.ofNat (97 + l.tmod 26).toNat, UInt8.ofNat (97 + (l.tdiv 26).tmod 26).toNat]⟩ : BA) = vnm l.toNat := by
 obtain ⟨n, rfl⟩ := Int.eq_ofNat_of_zero_le h0
 have key : ∀ n : Fin 24, (⟨#[118]⟩ : BA) ++ (⟨#[UInt8.ofNat (97 + ((n.1 : Nat) : Int).tmod 26).toNat, UInt8.ofNat (97 + (((n.1 : Nat) : Int).tdiv 26).tmod 26).toNat]⟩ : BA) = vnm n.1 := by decide +kernel
 exact key ⟨n, by omega⟩
theorem tm26 {l : Int} (h0 : 0 ≤ l) : 0 ≤ l.tmod 26 ∧ l.tmod 26 < 26 := ⟨Int.tmod_nonneg _ h0, Int.tmod_lt_of_pos _ (by omega)⟩
theorem td26 {l : Int} (h0 : 0 ≤ l) (h1 : l < 24) : l.tdiv 26 = 0 := by
 obtain ⟨n, rfl⟩ := Int.eq_ofNat_of_zero_le h0
 have key : ∀ n : Fin 24, (((n.1 : Nat) : Int).tdiv 26) = 0 := by decide
 exact key ⟨n, by omega⟩
end Go.Proofs.YtfbjlfhjkojmkaaGreat
end
