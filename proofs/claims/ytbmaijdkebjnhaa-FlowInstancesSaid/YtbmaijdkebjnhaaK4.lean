/- My own texts, put together by a program of mine. -/
import Derived.Test.YtbmaijdkebjnhaaK3
set_option linter.unusedSimpArgs false
set_option linter.unusedVariables false
set_option maxRecDepth 100000
set_option maxHeartbeats 4000000
section
namespace Go.Proofs.Ytbmaijdkebjnhaa
open Go.Ab Go.Un
structure Sco where
  p : Go.Un.Pg
  l : List Ent
  loc : Int
  st : Int
  code : List Ins
  sites : List Int
structure Frm where
  pre : c6
  rest : c6
def Frm.k (e : Frm) : Nat := e.pre.length
def Frm.n (e : Frm) : Nat := e.pre.length + (e.rest.length + 3)
def s8 (k : Nat) (s : Sco) : Blk := ⟨0, false, 164, 10, [.vec s.p.globals.length (o7 s.p.globals), .vec s.p.c4.length (j6 s.p.c4), .vec s.p.funcs.length (n4 s.p.funcs), .vec s.l.length (j5 s.l), .int .i64 s.loc, .int .i64 s.st, .int .i64 0, .int .i64 0, .own (k + 1) s.code.length 0 s.code.length, .own (k + 2) s.sites.length 0 s.sites.length], 0⟩
def hT (e : Frm) (b : Blk) (c : List Ins) (ss : List Int) : c6 := e.pre ++ (b :: p9 56 12 c.length (o6 c) :: p9 3 1 ss.length (l6 ss) :: e.rest)
section
variable {e : Frm} {b b' : Blk} {c c' : List Ins} {ss ss' : List Int} {l : c6} {j : Nat}
theorem aB : (hT e b c ss).length = e.n := by simp [hT, Frm.n]
theorem Frm.lt (e : Frm) : e.k < e.n ∧ e.k + 1 < e.n ∧ e.k + 2 < e.n := by unfold Frm.k Frm.n; omega
theorem hT_0 : (hT e b c ss)[e.k]? = some b := by rw [hT, Frm.k, List.getElem?_append_right (Nat.le_refl _), Nat.sub_self]; rfl
theorem hT_1 : (hT e b c ss)[e.k + 1]? = some (p9 56 12 c.length (o6 c)) := by rw [hT, Frm.k, List.getElem?_append_right (by omega), Nat.add_sub_cancel_left]; rfl
theorem hT_2 : (hT e b c ss)[e.k + 2]? = some (p9 3 1 ss.length (l6 ss)) := by rw [hT, Frm.k, List.getElem?_append_right (by omega), Nat.add_sub_cancel_left]; rfl
theorem HN : (hT e b c ss ++ l)[e.k]? = some b := by rw [List.getElem?_append_left (by rw [aB]; exact e.lt.1), hT_0]
theorem HO : (hT e b c ss ++ l)[e.k + 1]? = some (p9 56 12 c.length (o6 c)) := by rw [List.getElem?_append_left (by rw [aB]; exact e.lt.2.1), hT_1]
theorem HP : (hT e b c ss ++ l)[e.k + 2]? = some (p9 3 1 ss.length (l6 ss)) := by rw [List.getElem?_append_left (by rw [aB]; exact e.lt.2.2), hT_2]
theorem dQ : (hT e b c ss ++ l)[e.n + j]? = l[j]? := by rw [List.getElem?_append_right (by rw [aB]; omega), aB, Nat.add_sub_cancel_left]
theorem sO : (hT e b c ss ++ l)[e.n]? = l[0]? := by rw [List.getElem?_append_right (by rw [aB]; omega), aB, Nat.sub_self]
theorem gE : (hT e b c ss ++ l).set (e.n + j) b' = hT e b c ss ++ l.set j b' := by rw [List.set_append_right _ _ (by rw [aB]; omega), aB, Nat.add_sub_cancel_left]
theorem C4 : (hT e b c ss ++ l).set e.n b' = hT e b c ss ++ l.set 0 b' := by rw [List.set_append_right _ _ (by rw [aB]; omega), aB, Nat.sub_self]
theorem HQ : (hT e b c ss).set e.k b' = hT e b' c ss := by
  rw [hT, Frm.k, List.set_append_right _ _ (Nat.le_refl _), Nat.sub_self]; rfl
theorem K1 : (hT e b c ss ++ l).set e.k b' = hT e b' c ss ++ l := by
  rw [List.set_append_left _ _ (by rw [aB]; exact e.lt.1), HQ]
theorem hT_p1 : (hT e b c ss).set (e.k + 1) (p9 56 12 c'.length (o6 c')) = hT e b c' ss := by
  rw [hT, Frm.k, List.set_append_right _ _ (by omega), Nat.add_sub_cancel_left]; rfl
theorem hT_p2 : (hT e b c ss).set (e.k + 2) (p9 3 1 ss'.length (l6 ss')) = hT e b c ss' := by
  rw [hT, Frm.k, List.set_append_right _ _ (by omega), Nat.add_sub_cancel_left]; rfl
theorem KP : (hT e b c ss ++ l).set (e.k + 1) (p9 56 12 c'.length (o6 c')) = hT e b c' ss ++ l := by
  rw [List.set_append_left _ _ (by rw [aB]; exact e.lt.2.1), hT_p1]
theorem hT_p2a : (hT e b c ss ++ l).set (e.k + 2) (p9 3 1 ss'.length (l6 ss')) = hT e b c ss' ++ l := by
  rw [List.set_append_left _ _ (by rw [aB]; exact e.lt.2.2), hT_p2]
theorem KQ : hT e b c ss ++ l = hT ⟨e.pre, e.rest ++ l⟩ b c ss := by simp [hT]
end
theorem KR (l : List Ins) : bE (o6 l) := bE.flat fun i => by
  rw [eF, bR]
  exact .cons .int (.cons .int (.cons .bool (.cons .int (.cons .int (.cons .str (.cons .vec (.cons .bool (.cons .int (.cons .vec (.cons .vec (.cons .vec .nil)))))))))))
theorem tM (l : List Int) : bE (l6 l) := bE.map fun _ => .int
theorem wG {e : Frm} {b b' : Blk} {c c' : List Ins} {ss ss' : List Int} (hb : ∀ x ∈ b'.cells, Refs e.n x) : cI (hT e b c ss) (hT e b' c' ss') := by
  unfold hT
  refine cI.app (cI.refl _) rfl ⟨.inr ?_, .inr (by rw [o9]; exact (KR _).refs _), .inr (by rw [o9]; exact (tM _).refs _), lY.refl _ _⟩
  rw [show e.pre.length + (b' :: p9 56 12 c'.length (o6 c') :: p9 3 1 ss'.length (l6 ss') :: e.rest).length = e.n from by simp [Frm.n]]
  exact hb
theorem hT_keep {e : Frm} {k : Nat} {s s' : Sco} : k = e.k → cI (hT e (s8 k s) s.code s.sites) (hT e (s8 k s') s'.code s'.sites) := by
  rintro rfl
  refine wG (fR.get ⟨.vec _ _, .vec _ _, .vec _ _, .vec _ _, .int _ _, .int _ _, .int _ _, .int _ _, .own _ _ _ _ ?_, .own _ _ _ _ ?_, trivial⟩)
  · exact e.lt.2.1
  · exact e.lt.2.2
theorem dW {f : FuncId} {args : List AV} {x : AV} {s s' : Sco} {l : c6} {e : Frm} (h : CallA Try.prog cfg f args (hT ⟨e.pre, e.rest ++ l⟩ (s8 e.k s) s.code s.sites) (fun y' h' => y' = x ∧ h' = hT ⟨e.pre, e.rest ++ l⟩ (s8 e.k s') s'.code s'.sites)) : CallA Try.prog cfg f args (hT e (s8 e.k s) s.code s.sites ++ l) (fun y' h' => y' = x ∧ h' = hT e (s8 e.k s') s'.code s'.sites ++ l) := by
  rw [KQ, KQ]
  exact h
theorem Q3 {α : Type} (f : α → List AV) (K j : Nat) (hK : ∀ a, (f a).length = K) (hj : j < K) (d : α) {l : List α} {i : Nat} (h : i < l.length) : List.take 1 (List.drop (i * K + j) (l.flatMap f)) = List.take 1 (List.drop j (f (l.getD i d))) := by
  rw [← cP f K hK d h, List.drop_take, List.take_take, List.drop_drop, Nat.min_eq_left (by omega)]
theorem jE {l : List Ent} {i : Nat} (h : i < l.length) : List.take 1 (List.drop (i * 3) (j5 l)) = [.str (l.getD i iV).name] := Q3 gX 3 0 (fun _ => rfl) (by omega) iV h
theorem BE {l : List Ent} {x : BA} : ∀ {i : Nat}, i < l.length → (∀ d, d < i → ((l.getD d iV).name.toList == x.toList) = false) → ((l.getD i iV).name.toList == x.toList) = true → bT l x = some (l.getD i iV) := by
  have tl : ∀ {a b : BA}, (a.toList == b.toList) = decide (a = b) := by
    intro a b
    rw [ByteArray.toList_eq, ByteArray.toList_eq, Bool.eq_iff_iff]
    simp only [beq_iff_eq, decide_eq_true_eq]
    constructor
    · intro h
      exact ByteArray.ext (Array.toList_inj.1 h)
    · rintro rfl; rfl
  induction l with
  | nil => intro i h; simp at h
  | cons e l ih =>
    intro i hi h1 h2
    rw [bT, List.find?_cons]
    cases i with
    | zero =>
      rw [tl] at h2
      simp only [List.getD_cons_zero] at h2 ⊢
      rw [h2]
    | succ i =>
      have h0 := h1 0 (by omega)
      rw [tl] at h0
      simp only [List.getD_cons_zero] at h0
      rw [h0]
      simp only [List.getD_cons_succ] at h2 ⊢
      exact ih (by simpa using hi) (fun d hd => by have := h1 (d + 1) (by omega); simpa using this) h2
theorem BF {l : List Ent} {x : BA} (h : ∀ d, d < l.length → ((l.getD d iV).name.toList == x.toList) = false) : bT l x = none := by
  rw [bT, List.find?_eq_none]
  intro e he
  obtain ⟨i, hi, rfl⟩ := bZ (d := iV) he
  have := h i hi
  intro hc
  simp only [decide_eq_true_eq] at hc
  rw [hc] at this
  simp at this
theorem find_nx {l : List Ent} {x : BA} {i : Nat} (h : ∀ d, d < i → ((l.getD d iV).name.toList == x.toList) = false) (e : ((l.getD i iV).name.toList == x.toList) = false) : ∀ d, d < i + 1 → ((l.getD d iV).name.toList == x.toList) = false := fun d hd => by
  by_cases hdi : d = i
  · rw [hdi]; exact e
  · exact h d (by omega)
theorem wH {l : List Ent} {x : BA} {v : Ent} (h : bT l x = some v) : AV.tup [.agg [.str v.name, .int .i64 v.kind, .int .i64 v.n], .bool true] = .tup [.agg (gX (eK l x)), .bool (bT l x).isSome] := by
  rw [dN h, h]; rfl
theorem wI {l : List Ent} {x : BA} (h : bT l x = none) : AV.tup [.agg [.str ByteArray.empty, .int .i64 0, .int .i64 0], .bool false] = .tup [.agg (gX (eK l x)), .bool (bT l x).isSome] := by
  rw [eK, h]; rfl
theorem iO {i : Ins} : eF i = [.int .i64 i.op, .int .i64 i.target, .bool i.global, .int .i64 i.e.op, .int .i64 i.e.num, .str i.e.name, .vec i.e.args.length (m7 i.e.args), .bool i.pl.param, .int .i64 i.pl.index, .vec i.pl.at'.length (m7 i.pl.at'), .vec i.ints.length (m7 i.ints), .vec i.y0.length (dD i.y0)] := by rw [eF, bR]; rfl
theorem C5 {l : List Ins} {i : Ins} : o6 (l ++ [i]) = o6 l ++ eF i := by simp [o6]
theorem nW {l : List Int} {i : Int} : l6 (l ++ [i]) = l6 l ++ [.int .i64 i] := by simp [l6]
theorem OH (l : List Ex) : bE (m7 l) := bE.flat fun e => by rw [bR]; exact .cons .int (.cons .int (.cons .str (.cons .vec .nil)))
theorem BG (l : List Pl) : bE (dD l) := bE.flat fun p => .cons .bool (.cons .int (.cons .vec .nil))
theorem sP {i : Ins} : List.take 12 (eF i) = eF i := List.take_of_length_le (by rw [aS]; omega)
theorem HR {e : Frm} {b b0 : Blk} {c : List Ins} {ss : List Int} {l : c6} {i : Ins} {n : Nat} (hn : c.length = n) (hl : n < 100000) : j7 cfg 56 (hT e b c ss ++ (b0 :: ⟨1, false, 56, 12, eF i, 0⟩ :: l)) (.own (e.k + 1) n 0 n) (.own (e.n + 1) 1 0 1) = some (.own (e.k + 1) (n + 1) 0 (n + 1), hT e b (c ++ [i]) ss ++ (b0 :: ⟨1, false, 56, 12, eF i, 0⟩ :: l)) := by
  subst hn
  have h1 : (c ++ [i]).length = c.length + 1 := by simp
  rw [aR (C := cfg) (K := 12) (m := 1) (new := eF i) HO rfl (by omega) (by rw [cC, Nat.mul_comm]) (by rw [aS]) (by omega) (by simp [rd, dQ, aS, sP]) rfl (by decide) (by omega), ← C5, ← h1, KP]
theorem yY {e : Frm} {b b0 : Blk} {c : List Ins} {ss : List Int} {l : c6} {i : Ins} {n : Nat} (hn : c.length = n) (hl : n < 100000) : j7 cfg 56 (hT e b c ss ++ (b0 :: ⟨1, false, 56, 12, [.int .i64 i.op, .int .i64 i.target, .bool i.global, .int .i64 i.e.op, .int .i64 i.e.num, .str i.e.name, .vec i.e.args.length (m7 i.e.args), .bool i.pl.param, .int .i64 i.pl.index, .vec i.pl.at'.length (m7 i.pl.at'), .vec i.ints.length (m7 i.ints), .vec i.y0.length (dD i.y0)], 0⟩ :: l)) (.own (e.k + 1) n 0 n) (.own (e.n + 1) 1 0 1) = some (.own (e.k + 1) (n + 1) 0 (n + 1), hT e b (c ++ [i]) ss ++ (b0 :: ⟨1, false, 56, 12, [.int .i64 i.op, .int .i64 i.target, .bool i.global, .int .i64 i.e.op, .int .i64 i.e.num, .str i.e.name, .vec i.e.args.length (m7 i.e.args), .bool i.pl.param, .int .i64 i.pl.index, .vec i.pl.at'.length (m7 i.pl.at'), .vec i.ints.length (m7 i.ints), .vec i.y0.length (dD i.y0)], 0⟩ :: l)) := by
  rw [← iO]; exact HR hn hl
theorem K2 {e : Frm} {b b0 b1 : Blk} {c : List Ins} {ss : List Int} {l : c6} {t : Int} {n : Nat} (hn : ss.length = n) (hl : n < 100000) : j7 cfg 3 (hT e b c ss ++ (b0 :: b1 :: ⟨1, false, 3, 1, [.int .i64 t], 0⟩ :: l)) (.own (e.k + 2) n 0 n) (.own (e.n + 2) 1 0 1) = some (.own (e.k + 2) (n + 1) 0 (n + 1), hT e b c (ss ++ [t]) ++ (b0 :: b1 :: ⟨1, false, 3, 1, [.int .i64 t], 0⟩ :: l)) := by
  subst hn
  have h1 : (ss ++ [t]).length = ss.length + 1 := by simp
  rw [aR (C := cfg) (K := 1) (m := 1) (new := [.int .i64 t]) HP rfl (by omega) (by rw [n5, Nat.mul_one]) rfl (by omega) (by simp [rd, dQ]) rfl (by decide) (by omega), ← nW, ← h1, hT_p2a]
attribute [local go_sem] j7 rd p6 j8 bI cQ cC aS dM dL s9 bF aP n5 bK Int.natCast_nonneg Int.natCast_inj List.length_map wrap64 bW iM iN I7 yJ A9 I8 wU max2 eP cV bN Nat.reduceMul lR jE s8 gX nV kA sP aB hT_0 hT_1 hT_2 HN HO HP dQ sO gE C4 HQ K1
theorem KS {h : c6} (l : List Ent) (x : BA) (hl : l.length < 1000000) : CallA Try.prog cfg 45 [.vec l.length (j5 l), .str x] h (fun y' h' => y' = .tup [.agg (gX (eK l x)), .bool (bT l x).isSome] ∧ h' = h) := by
  refine .b fn45 ntm45 ?_
  refine c22z ?_
  refine .iB (fun m st => ∃ (i : Nat), (m = l.length - i ∧ ((∀ d, d < i → ((l.getD d iV).name.toList == x.toList) = false) ∧ i ≤ l.length)) ∧ st = ⟨mkS 25 [(0, AV.vec l.length (j5 l)), (1, AV.str x), (4, AV.ptr h.length 0 0), (6, AV.int .i64 ((i : Nat) : Int))], h ++ [⟨0, false, 113, 3, [.str ByteArray.empty, .int .i64 0, .int .i64 0], 0⟩]⟩) _ (.v ⟨0, ⟨rfl, ⟨by intro d hd; omega, by omega⟩⟩, rfl⟩) ?_
  rintro m sl h' ⟨i, ⟨hm, ⟨hI, hi⟩⟩, hst⟩
  obtain ⟨rfl, rfl⟩ := St.mk.inj hst
  refine c0z ?_
  refine .spl 10 rfl rfl (fun e1 => ?_) (fun e1 => ?_)
  ·try simp only [e1]
   have qe1 := fact e1
   refine c11z ?_
   refine .z ?_
   refine .spl 19 rfl rfl (fun e2 => ?_) (fun e2 => ?_)
   ·try simp only [e2]
    have qe2 := fact e2
    refine .T ?_
    refine .c7 [0, 4, 6] ?_
    refine .z ?_
    exact .ret (.ex (hq := by first | exact wH (BE (by omega) hI (by assumption)) | exact wI (BF hI)))
   try simp only [e2]
   have qe2 := fact e2
   refine c13z ?_
   refine .c7 [0, 1, 4, 6] ?_
   refine .rz ?_
   exact ⟨_, by omega, .v ⟨(i + 1), ⟨rfl, ⟨find_nx hI (by assumption), by omega⟩⟩, rfl⟩⟩
  try simp only [e1]
  have qe1 := fact e1
  refine c3z ?_
  obtain rfl : i = l.length := by omega
  change c8 ..
  refine .z ?_
  exact .ret (.ex (hq := by first | exact wH (BE (by omega) hI (by assumption)) | exact wI (BF hI)))
theorem mR {h : c6} {l : List Ent} {x : BA} {v : Ent} (hf : bT l x = some v) (hl : l.length < 1000000) : CallA Try.prog cfg 45 [.vec l.length (j5 l), .str x] h (fun y' h' => y' = .tup [.agg [.str v.name, .int .i64 v.kind, .int .i64 v.n], .bool true] ∧ h' = h) := by
  have := KS (h := h) l x hl
  rw [← wH hf] at this
  exact this
theorem BH {h : c6} {l : List Ent} {x : BA} (hf : bT l x = none) (hl : l.length < 1000000) : CallA Try.prog cfg 45 [.vec l.length (j5 l), .str x] h (fun y' h' => y' = .tup [.agg [.str ByteArray.empty, .int .i64 0, .int .i64 0], .bool false] ∧ h' = h) := by
  have := KS (h := h) l x hl
  rw [← wI hf] at this
  exact this
theorem c_var {e : Frm} {s : Sco} (hl : s.l.length < 1000000) (t : Int) {x : BA} {v : Ent} (hf : bT s.l x = some v) (hk : v.kind = 1 ∨ v.kind = 4) : CallA Try.prog cfg 95 [.ptr e.k 0 0, .str x, .int .i64 t] (hT e (s8 e.k s) s.code s.sites) (fun y' h' => y' = .agg [.str v.name, .int .i64 v.kind, .int .i64 v.n] ∧ h' = (hT e (s8 e.k s) s.code s.sites)) := by
  refine .b fn95 ntm95 ?_
  refine .z ?_
  refine c31z ?_
  refine .ca rfl rfl (mR hf hl) ?_
  refine .n ?_
  refine .sb ?_
  refine .c7 [0, 2, 6, 7, 8] ?_
  refine .z ?_
  refine .F ?_
  refine c24z ?_
  refine .spl 28 rfl rfl (fun e1 => ?_) (fun e1 => ?_)
  ·try simp only [e1]
   have qe1 := fact e1
   refine .m [(3, 28)] ?_
   refine .spl 24 rfl rfl (fun e2 => by exfalso; have q := fact e2; omega) (fun e2 => ?_)
   try simp only [e2]
   have qe2 := fact e2
   refine c13z ?_
   refine .c7 [6, 7] ?_
   refine .z ?_
   exact .ret (.ex (hf := t3) (hq := by rfl))
  try simp only [e1]
  have qe1 := fact e1
  refine .m [(3, 28)] ?_
  refine c13z ?_
  refine .c7 [6, 7] ?_
  refine .z ?_
  exact .ret (.ex (hf := t3) (hq := by rfl))
theorem c_ex1 {e : Frm} {s : Sco} (hl : s.l.length < 1000000) (t : Int) (n : Int) : CallA Try.prog cfg 94 [.ptr e.k 0 0, .agg (q9 (.leaf 1 n ByteArray.empty)), .int .i64 t] (hT e (s8 e.k s) s.code s.sites) (fun y' h' => y' = .agg (q9 (eM s.l (.leaf 1 n ByteArray.empty))) ∧ h' = (hT e (s8 e.k s) s.code s.sites)) := by
  refine .b fn94 FD ?_
  refine c79z ?_
  refine c4z ?_
  refine c33z ?_
  refine .c7 [0, 2, 4, 6, 8] ?_
  refine c110z ?_
  refine .c7 [6, 8] ?_
  refine .z ?_
  exact .ret (.ex (hf := t3) (hq := by rfl))
theorem c_ex2 {e : Frm} {s : Sco} (hl : s.l.length < 1000000) (t : Int) (n : Int) {x : BA} {v : Ent} (hf : bT s.l x = some v) (hk : v.kind = 1 ∨ v.kind = 4) : CallA Try.prog cfg 94 [.ptr e.k 0 0, .agg (q9 (.leaf 2 n x)), .int .i64 t] (hT e (s8 e.k s) s.code s.sites) (fun y' h' => y' = .agg (q9 (eM s.l (.leaf 2 n x))) ∧ h' = (hT e (s8 e.k s) s.code s.sites)) := by
  refine .b fn94 FD ?_
  refine c79z ?_
  refine .T ?_
  refine c24z ?_
  refine .ca rfl rfl (dW (c_var hl t hf hk)) ?_
  refine .n ?_
  refine .seq ?_
  refine .c7 [6, 7] ?_
  refine .z ?_
  refine .spl 20 rfl rfl (fun e1 => ?_) (fun e1 => ?_)
  ·try simp only [e1]
   have qe1 := fact e1
   refine c108z ?_
   exact .ret (.ex (hf := t3) (hq := by (simp only [eM, dN hf, if_true]; simp_all [q9])))
  try simp only [e1]
  have qe1 := fact e1
  refine c83z ?_
  exact .ret (.ex (hf := t3) (hq := by (simp only [eM, dN hf, if_true]; simp_all [q9])))
theorem c_exU {e : Frm} {s : Sco} (hl : s.l.length < 1000000) (t : Int) (o : Int) (a : Ex) (ho : o ≠ 2) (iha : ∀ e : Frm, CallA Try.prog cfg 94 [.ptr e.k 0 0, .agg (q9 a), .int .i64 t] (hT e (s8 e.k s) s.code s.sites) (fun y' h' => y' = .agg (q9 (eM s.l a)) ∧ h' = (hT e (s8 e.k s) s.code s.sites))) : CallA Try.prog cfg 94 [.ptr e.k 0 0, .agg (q9 (.un o a)), .int .i64 t] (hT e (s8 e.k s) s.code s.sites) (fun y' h' => y' = .agg (q9 (eM s.l (.un o a))) ∧ h' = (hT e (s8 e.k s) s.code s.sites)) := by
  refine .b fn94 FD ?_
  refine c79z ?_
  refine .spl 12 rfl rfl (fun e1 => by exfalso; have q := fact e1; omega) (fun e1 => ?_)
  try simp only [e1]
  have qe1 := fact e1
  refine c4z ?_
  refine c33z ?_
  refine .c7 [0, 2, 4, 6, 8] ?_
  refine c28z ?_
  refine c8.rounds 2 ?_
  refine c60z ?_
  refine c17z ?_
  refine c145z ?_
  refine c58z ?_
  refine .p 1 ?_
  refine .cn [true] [512, 0] [_] rfl rfl (by simp only [jL, and_true, List.cons_append, List.nil_append]; exact dW (iha _)) ?_
  refine c70z ?_
  refine c89z ?_
  refine c44z ?_
  change c8 ..
  refine .c7 [0, 2, 4, 6, 8, 9, 51] ?_
  refine .rz ?_
  refine c37z ?_
  refine .c7 [6, 8, 51] ?_
  refine .z ?_
  exact .ret (.ex (hf := t3) (hq := by rfl))
theorem c_exB {e : Frm} {s : Sco} (hl : s.l.length < 1000000) (t : Int) (o : Int) (a b : Ex) (ho : o ≠ 2) (iha : ∀ e : Frm, CallA Try.prog cfg 94 [.ptr e.k 0 0, .agg (q9 a), .int .i64 t] (hT e (s8 e.k s) s.code s.sites) (fun y' h' => y' = .agg (q9 (eM s.l a)) ∧ h' = (hT e (s8 e.k s) s.code s.sites))) (ihb : ∀ e : Frm, CallA Try.prog cfg 94 [.ptr e.k 0 0, .agg (q9 b), .int .i64 t] (hT e (s8 e.k s) s.code s.sites) (fun y' h' => y' = .agg (q9 (eM s.l b)) ∧ h' = (hT e (s8 e.k s) s.code s.sites))) : CallA Try.prog cfg 94 [.ptr e.k 0 0, .agg (q9 (.bin o a b)), .int .i64 t] (hT e (s8 e.k s) s.code s.sites) (fun y' h' => y' = .agg (q9 (eM s.l (.bin o a b))) ∧ h' = (hT e (s8 e.k s) s.code s.sites)) := by
  refine .b fn94 FD ?_
  refine c79z ?_
  refine .spl 12 rfl rfl (fun e1 => by exfalso; have q := fact e1; omega) (fun e1 => ?_)
  try simp only [e1]
  have qe1 := fact e1
  refine c4z ?_
  refine c33z ?_
  refine .c7 [0, 2, 4, 6, 8] ?_
  refine c28z ?_
  refine c8.rounds 3 ?_
  refine c60z ?_
  refine c17z ?_
  refine c145z ?_
  refine c58z ?_
  refine .p 1 ?_
  refine .cn [true] [512, 0] [_] rfl rfl (by simp only [jL, and_true, List.cons_append, List.nil_append]; exact dW (iha _)) ?_
  refine c70z ?_
  refine c89z ?_
  refine c44z ?_
  change c8 ..
  refine .c7 [0, 2, 4, 6, 8, 9, 51] ?_
  refine .rz ?_
  refine c60z ?_
  refine .c7 [0, 2, 4, 6, 8, 9] ?_
  refine c17z ?_
  refine c145z ?_
  refine c58z ?_
  refine .p 1 ?_
  refine .cn [true] [512, 0] [_] rfl rfl (by simp only [jL, and_true, List.cons_append, List.nil_append]; exact dW (ihb _)) ?_
  refine c70z ?_
  refine c89z ?_
  refine c44z ?_
  change c8 ..
  refine .c7 [0, 2, 4, 6, 8, 9, 51] ?_
  refine .rz ?_
  refine c37z ?_
  refine .c7 [6, 8, 51] ?_
  refine .z ?_
  exact .ret (.ex (hf := t3) (hq := by rfl))
theorem VS {s : Sco} (hl : s.l.length < 1000000) (t : Int) {vars : List BA} (hv : ∀ x ∈ vars, ∃ v, bT s.l x = some v ∧ (v.kind = 1 ∨ v.kind = 4)) : ∀ {d : Nat} {a : Ex}, GE vars d a → ∀ e : Frm, CallA Try.prog cfg 94 [.ptr e.k 0 0, .agg (q9 a), .int .i64 t] (hT e (s8 e.k s) s.code s.sites) (fun y' h' => y' = .agg (q9 (eM s.l a)) ∧ h' = (hT e (s8 e.k s) s.code s.sites))
  | d, .leaf o n x, hg, e => by
    rcases iX.1 hg with ⟨rfl, _, _, rfl⟩ | ⟨rfl, _, h1⟩
    · exact c_ex1 hl t n
    · obtain ⟨v, h2, h3⟩ := hv x h1
      exact c_ex2 hl t n h2 h3
  | 0, .un o a, hg, e => hg.elim
  | 0, .bin o a b, hg, e => hg.elim
  | d + 1, .un o a, hg, e => c_exU hl t o a (by have := hg.1; omega) (VS hl t hv hg.2)
  | d + 1, .bin o a b, hg, e => c_exB hl t o a b (by have := hg.1; omega) (VS hl t hv hg.2.1) (VS hl t hv hg.2.2)
theorem sz_0 {m : Int} (h : m = 0) : decide (m > 0) = false := by simp; omega
theorem sz_1 {m : Int} (h : 0 < m) : decide (m > 0) = true := by simp; omega
theorem lU {l : List Fu} {i : Nat} (h : i < l.length) : List.take 1 (List.drop (i * 3 + 1) (n4 l)) = [AV.vec (l.getD i j4).params.length (v8 (l.getD i j4).params)] := Q3 dZ 3 1 (fun _ => rfl) (by omega) j4 h
theorem c_ref5 {e : Frm} {s : Sco} (hl : s.l.length < 1000000) (t : Int) {x y : BA} {n : Int} (hf : bT s.l x = some ⟨y, 5, n⟩) : CallA Try.prog cfg 97 [.ptr e.k 0 0, .agg [.str x, .vec 0 []], .int .i64 t] (hT e (s8 e.k s) s.code s.sites) (fun y' h' => y' = .agg [.bool true, .int .i64 n, .vec 0 []] ∧ h' = (hT e (s8 e.k s) s.code s.sites)) := by
  refine .b fn97 MK ?_
  refine .z ?_
  refine c5z ?_
  refine c84z ?_
  refine .cl rfl rfl (fun _ => mR hf hl) ?_
  refine .p 3 ?_
  refine c53z ?_
  refine .p 1 ?_
  refine c113z ?_
  refine c115z ?_
  refine .sb ?_
  refine .z ?_
  refine .F ?_
  refine .c7 [0, 2, 4, 6, 7, 9, 53] ?_
  refine .s ?_
  refine .k 8 [(3, 63)] ?_
  refine .n ?_
  refine .F ?_
  refine c71z ?_
  refine .k 8 [(3, 31)] ?_
  refine .k 8 [(3, 31)] ?_
  refine .n [] ?_
  refine .c7 [0, 2, 4, 6, 9, 10, 53] ?_
  refine .z ?_
  refine c13z ?_
  refine c12z ?_
  refine c49z ?_
  refine .c7 [6, 9, 53] ?_
  refine .z ?_
  exact .ret (.ex (hf := t3) (hq := by rfl))
section
attribute [local go_sem] sz_0
theorem c_ref2 {e : Frm} {s : Sco} (hl : s.l.length < 1000000) (t : Int) {x y : BA} {n : Int} (hf : bT s.l x = some ⟨y, 2, n⟩) (hn : 0 ≤ n ∧ n < s.p.c4.length) (hz : (s.p.c4.getD n.toNat bL).size = 0) : CallA Try.prog cfg 97 [.ptr e.k 0 0, .agg [.str x, .vec 0 []], .int .i64 t] (hT e (s8 e.k s) s.code s.sites) (fun y' h' => y' = .agg [.bool false, .int .i64 n, .vec 0 []] ∧ h' = (hT e (s8 e.k s) s.code s.sites)) := by
  refine .b fn97 MK ?_
  refine .z ?_
  refine c5z ?_
  refine c84z ?_
  refine .cl rfl rfl (fun _ => mR hf hl) ?_
  refine .p 3 ?_
  refine c53z ?_
  refine .p 1 ?_
  refine c113z ?_
  refine c115z ?_
  refine .sb ?_
  refine .z ?_
  refine .F ?_
  refine .c7 [0, 2, 4, 6, 7, 9, 53] ?_
  refine .s ?_
  refine .k 8 [(3, 63)] ?_
  refine .n ?_
  refine .F ?_
  refine c71z ?_
  refine .k 8 [(3, 31)] ?_
  refine .k 8 [(3, 31)] ?_
  refine .n [] ?_
  refine .c7 [0, 2, 4, 6, 9, 10, 53] ?_
  refine .z ?_
  refine c13z ?_
  refine c12z ?_
  refine c49z ?_
  refine .c7 [6, 9, 53] ?_
  refine .z ?_
  exact .ret (.ex (hf := t3) (hq := by rfl))
end
section
attribute [local go_sem] sz_1
theorem c_ref1 {e : Frm} {s : Sco} (hl : s.l.length < 1000000) (t : Int) {x y : BA} {n : Int} (hf : bT s.l x = some ⟨y, 2, n⟩) (hn : 0 ≤ n ∧ n < s.p.c4.length) (hz : 0 < (s.p.c4.getD n.toNat bL).size) {vars : List BA} (hv : ∀ x ∈ vars, ∃ v, bT s.l x = some v ∧ (v.kind = 1 ∨ v.kind = 4)) {d : Nat} {a : Ex} (ha : GE vars d a) : CallA Try.prog cfg 97 [.ptr e.k 0 0, .agg [.str x, .vec 1 (q9 a)], .int .i64 t] (hT e (s8 e.k s) s.code s.sites) (fun y' h' => y' = .agg [.bool false, .int .i64 n, .vec 1 (q9 (eM s.l a))] ∧ h' = (hT e (s8 e.k s) s.code s.sites)) := by
  refine .b fn97 MK ?_
  refine .z ?_
  refine c5z ?_
  refine c84z ?_
  refine .cl rfl rfl (fun _ => mR hf hl) ?_
  refine .p 3 ?_
  refine c53z ?_
  refine .p 1 ?_
  refine c113z ?_
  refine c115z ?_
  refine .sb ?_
  refine .z ?_
  refine .F ?_
  refine .c7 [0, 2, 4, 6, 7, 9, 53] ?_
  refine .s ?_
  refine .k 8 [(3, 63)] ?_
  refine .n ?_
  refine .F ?_
  refine c71z ?_
  refine .k 8 [(3, 31)] ?_
  refine .k 8 [(3, 31)] ?_
  refine .n [] ?_
  refine .c7 [0, 2, 4, 6, 9, 10, 53] ?_
  refine .z ?_
  refine c13z ?_
  refine c12z ?_
  refine c8.rounds 2 ?_
  refine c60z ?_
  refine .c7 [0, 2, 4, 6, 9, 11, 53] ?_
  refine c17z ?_
  refine c145z ?_
  refine c58z ?_
  refine .p 1 ?_
  refine .cn [true] [512, 0] [_] rfl rfl (by simp only [jL, and_true, List.cons_append, List.nil_append]; exact dW (VS hl t hv ha _)) ?_
  refine c70z ?_
  refine c89z ?_
  refine c44z ?_
  change c8 ..
  refine .c7 [0, 2, 4, 6, 9, 11, 53] ?_
  refine .rz ?_
  refine c37z ?_
  refine .c7 [6, 9, 53] ?_
  refine .z ?_
  exact .ret (.ex (hf := t3) (hq := by rfl))
end
theorem c_refL {e : Frm} {s : Sco} (hl : s.l.length < 1000000) (t : Int) {E : Env} {c : Ctx} {vars : List BA} (sc : SC E c vars s.l) (hE : E.c4 = s.p.c4) (hc : c.nm = s.p.c4.length) {r : Rf} (g : GR E vars r) : CallA Try.prog cfg 97 [.ptr e.k 0 0, .agg [.str r.name, .vec r.idx.length (m7 r.idx)], .int .i64 t] (hT e (s8 e.k s) s.code s.sites) (fun y' h' => y' = .agg (yD (oV s.l r)) ∧ h' = (hT e (s8 e.k s) s.code s.sites)) := by
  obtain ⟨x, idx⟩ := r
  rcases g with ⟨m, hm, hn, ⟨hz, a, hi, ha⟩ | ⟨hz, hi⟩⟩ | ⟨p, hp, hmu, hn, hi⟩
  · simp only at hn hi
    subst hn hi
    obtain ⟨v, h1, h2, h3, h4, h5⟩ := sc.mx m hm
    obtain ⟨y, k, n⟩ := v
    simp only at h2 h3 h4 h5
    subst h2
    rw [hE] at h5
    have := c_ref1 (e := e) hl t h1 ⟨h3, by omega⟩ (by rw [h5]; exact hz) sc.var ha
    simp only [oV, dN h1, yD, List.map_cons, List.map_nil, List.length_cons, List.length_nil, m7, List.flatMap_cons, List.flatMap_nil, List.append_nil]
    exact this
  · simp only at hn hi
    subst hn hi
    obtain ⟨v, h1, h2, h3, h4, h5⟩ := sc.mx m hm
    obtain ⟨y, k, n⟩ := v
    simp only at h2 h3 h4 h5
    subst h2
    rw [hE] at h5
    have := c_ref2 (e := e) hl t h1 ⟨h3, by omega⟩ (by rw [h5]; exact hz)
    simp only [oV, dN h1]
    exact this
  · simp only at hn hi
    subst hn hi
    obtain ⟨v, h1, h2, h3, h4⟩ := sc.pm p hp hmu
    obtain ⟨y, k, n⟩ := v
    simp only at h2 h3 h4
    subst h2
    have := c_ref5 (e := e) hl t h1
    simp only [oV, dN h1]
    exact this
end Go.Proofs.Ytbmaijdkebjnhaa
end
section
namespace Go.Proofs.Ytbmaijdkebjnhaa
open Go.Ab Go.Un
theorem Q4 {l : List Ex} {x : Ex} : m7 (l ++ [x]) = m7 l ++ q9 x := by simp [m7]
theorem C6 {l : List Pl} {x : Pl} : dD (l ++ [x]) = dD l ++ yD x := by simp [dD]
section
variable {e : Frm} {b b0 b1 b2 b3 b4 b5 b6 : Blk} {c : List Ins} {ss : List Int} {l : c6} {es : List Ex} {x : Ex} {ps : List Pl} {p : Pl} {g n : Nat}
theorem BI (hn : es.length = n) (hl : n < 100000) : j7 cfg 51 (hT e b c ss ++ (b0 :: b1 :: b2 :: b3 :: p9 51 4 g (m7 es) :: b5 :: b6 :: ⟨0, false, 51, 4, q9 x, 0⟩ :: l)) (.own (e.n + 4) g 0 n) (.own (e.n + 7) 0 0 1) = some (.own (e.n + 4) (g + 1) 0 (n + 1), hT e b c ss ++ (b0 :: b1 :: b2 :: b3 :: p9 51 4 (g + 1) (m7 (es ++ [x])) :: b5 :: b6 :: ⟨0, false, 51, 4, q9 x, 0⟩ :: l)) := by
  subst hn
  rw [aR (C := cfg) (K := 4) (m := 1) (new := q9 x) (zs := m7 es) (by rw [dQ]; rfl) rfl (by omega) (by rw [bI, Nat.mul_comm]) (by rw [j8]) (by omega) (by simp [rd, dQ, j8, bW]) rfl (by decide) (by omega), ← Q4, gE]
  rfl
theorem BJ (hn : ps.length = n) (hl : n < 100000) : j7 cfg 53 (hT e b c ss ++ (b0 :: b1 :: b2 :: b3 :: b4 :: p9 53 3 g (dD ps) :: b6 :: ⟨0, false, 53, 3, [.bool p.param, .int .i64 p.index, .vec p.at'.length (m7 p.at')], 0⟩ :: l)) (.own (e.n + 5) g 0 n) (.own (e.n + 7) 0 0 1) = some (.own (e.n + 5) (g + 1) 0 (n + 1), hT e b c ss ++ (b0 :: b1 :: b2 :: b3 :: b4 :: p9 53 3 (g + 1) (dD (ps ++ [p])) :: b6 :: ⟨0, false, 53, 3, [.bool p.param, .int .i64 p.index, .vec p.at'.length (m7 p.at')], 0⟩ :: l)) := by
  subst hn
  rw [aR (C := cfg) (K := 3) (m := 1) (new := yD p) (zs := dD ps) (by rw [dQ]; rfl) rfl (by omega) (by rw [dM, Nat.mul_comm]) rfl (by omega) (by simp [rd, dQ, yD]) rfl (by decide) (by omega), ← C6, gE]
  rfl
end
theorem hT_same {e : Frm} {b : Blk} {c : List Ins} {ss : List Int} {l l' : c6} (hl : lY (e.n + l'.length) l l') : cI (hT e b c ss ++ l) (hT e b c ss ++ l') :=
  (cI.refl _).app rfl (by rw [aB]; exact hl)
theorem GAs.mu {E : Env} {vars : List BA} {ps : List Pm} {xs : List Ar} (h : GAs E vars ps xs) : ps.length = xs.length ∧ ∀ i, i < xs.length → (xs.getD i dP).mu = (ps.getD i gL).mu := by
  induction ps generalizing xs with
  | nil =>
    cases xs with
    | nil => exact ⟨rfl, fun i hi => by simp at hi⟩
    | cons => exact h.elim
  | cons p ps ih =>
    cases xs with
    | nil => exact h.elim
    | cons a xs =>
      obtain ⟨⟨h1, _⟩, h3⟩ := h
      obtain ⟨i1, i2⟩ := ih h3
      refine ⟨by simp [i1], fun i hi => ?_⟩
      cases i with
      | zero => exact h1
      | succ i => exact i2 i (by simpa using hi)
theorem ar_is {E : Env} {vars : List BA} {ps : List Pm} {xs : List Ar} (h : GAs E vars ps xs) {i : Nat} (hi : i < xs.length) : ((xs.getD i dP).mu = true → GR E vars (xs.getD i dP).r) ∧ ((xs.getD i dP).mu = false → GE vars 2 (xs.getD i dP).e) := by
  induction ps generalizing xs i with
  | nil =>
    cases xs with
    | nil => simp at hi
    | cons => exact h.elim
  | cons p ps ih =>
    cases xs with
    | nil => exact h.elim
    | cons a xs =>
      obtain ⟨⟨h1, h2⟩, h3⟩ := h
      cases i with
      | succ i => exact ih h3 (by simpa using hi)
      | zero =>
        simp only [List.getD_cons_zero]
        rcases h2 with ⟨q1, q2, _⟩ | ⟨q1, _, q3⟩
        · exact ⟨fun _ => q2, fun h => absurd ((h1.trans q1).symm.trans h) (by decide)⟩
        · exact ⟨fun h => absurd ((h1.trans q1).symm.trans h) (by decide), fun _ => q3⟩
theorem wJ {xs : List Ar} {i : Nat} (hi : i < xs.length) : xs.drop i = xs.getD i dP :: xs.drop (i + 1) := by
  rw [List.drop_eq_getElem_cons hi]
  simp [List.getD, hi]
theorem cEx_t {l : List Ent} {xs : List Ar} {i : Nat} (hi : i < xs.length) (h : (xs.getD i dP).mu = true) {es : List Ex} (he : aT l xs = es ++ aT l (xs.drop i)) : aT l xs = es ++ aT l (xs.drop (i + 1)) := by
  rw [he, wJ hi, aT, if_pos h]
theorem cEx_f {l : List Ent} {xs : List Ar} {i : Nat} (hi : i < xs.length) (h : (xs.getD i dP).mu = false) {es : List Ex} (he : aT l xs = es ++ aT l (xs.drop i)) : aT l xs = (es ++ [eM l (xs.getD i dP).e]) ++ aT l (xs.drop (i + 1)) := by
  rw [he, wJ hi, aT, if_neg (by rw [h]; decide)]; simp
theorem cPl_t {l : List Ent} {xs : List Ar} {i : Nat} (hi : i < xs.length) (h : (xs.getD i dP).mu = true) {ps : List Pl} (he : z8 l xs = ps ++ z8 l (xs.drop i)) : z8 l xs = (ps ++ [oV l (xs.getD i dP).r]) ++ z8 l (xs.drop (i + 1)) := by
  rw [he, wJ hi, z8, if_pos h]; simp
theorem cPl_f {l : List Ent} {xs : List Ar} {i : Nat} (hi : i < xs.length) (h : (xs.getD i dP).mu = false) {ps : List Pl} (he : z8 l xs = ps ++ z8 l (xs.drop i)) : z8 l xs = ps ++ z8 l (xs.drop (i + 1)) := by
  rw [he, wJ hi, z8, if_neg (by rw [h]; decide)]
theorem K3 {l : List Ar} {i : Nat} (h : i < l.length) : List.take 7 (List.drop (i * 7) (bJ l)) = [.bool (l.getD i dP).mu, .str (l.getD i dP).r.name, .vec (l.getD i dP).r.idx.length (m7 (l.getD i dP).r.idx), .int .i64 (l.getD i dP).e.op, .int .i64 (l.getD i dP).e.num, .str (l.getD i dP).e.name, .vec (l.getD i dP).e.args.length (m7 (l.getD i dP).e.args)] := by
  rw [rU h, sK]
theorem Q5 {s : Sco} (hl : s.l.length < 1000000) (t : Int) {vars : List BA} (hv : ∀ x ∈ vars, ∃ v, bT s.l x = some v ∧ (v.kind = 1 ∨ v.kind = 4)) {d : Nat} {a : Ex} (g : GE vars d a) (e : Frm) : CallA Try.prog cfg 94 [.ptr e.k 0 0, .agg [.int .i64 a.op, .int .i64 a.num, .str a.name, .vec a.args.length (m7 a.args)], .int .i64 t] (hT e (s8 e.k s) s.code s.sites) (fun y' h' => y' = .agg (q9 (eM s.l a)) ∧ h' = (hT e (s8 e.k s) s.code s.sites)) := by
  rw [← bR]; exact VS hl t hv g e
theorem BK {e : Frm} {s : Sco} (hl : s.l.length < 1000000) (t : Int) {E : Env} {c : Ctx} {vars : List BA} (sc : SC E c vars s.l) (hE : E.c4 = s.p.c4) (hc : c.nm = s.p.c4.length) {r : Rf} (g : GR E vars r) : CallA Try.prog cfg 97 [.ptr e.k 0 0, .agg [.str r.name, .vec r.idx.length (m7 r.idx)], .int .i64 t] (hT e (s8 e.k s) s.code s.sites) (fun y' h' => y' = .agg [.bool (oV s.l r).param, .int .i64 (oV s.l r).index, .vec (oV s.l r).at'.length (m7 (oV s.l r).at')] ∧ h' = (hT e (s8 e.k s) s.code s.sites)) := c_refL hl t sc hE hc g
attribute [local go_sem] rd p6 j8 bI cQ cC aS dM dL s9 bF aP n5 bK Int.natCast_nonneg Int.natCast_inj List.length_map wrap64 bW iM iN I7 yJ A9 I8 wU max2 eP cV bN Nat.reduceMul lR jE s8 gX nV kA sP aB hT_0 hT_1 hT_2 HN HO HP dQ sO gE C4 HQ K1 lU yY K2 BI BJ
section
attribute [local go_sem] yY K2
theorem c_put {e : Frm} {s : Sco} (hc : s.code.length < 10000) (hs : s.sites.length < 10000) (i : Ins) (t : Int) : CallA Try.prog cfg 71 [.ptr e.k 0 0, .agg (eF i), .int .i64 t] (hT e (s8 e.k s) s.code s.sites) (fun y' h' => y' = .int .i64 ((s.code.length : Nat) : Int) ∧ h' = hT e (s8 e.k {s with code := s.code ++ [i], sites := s.sites ++ [t]}) (s.code ++ [i]) (s.sites ++ [t])) := by
  rw [iO]
  refine .w fn71 ntm71 ?_
  refine .z ?_
  refine .sg z7 (mkG 22 [0, 0, 0, 4, 12, 28, 0, 64, 252, 0, 512, 1536, 3584, 0, 8192, 32764, 65533, 131069, 262141, 524287, 1048575, 2097151] [7, 8, 14, 15, 18, 21] [0, 0, 0, 0, 0, 0, 0, 0, 128, 0, 0, 0, 0, 0, 0, 16768, 49536, 49536, 49536, 311680, 311680, 311680] [2359296, 2097152, 2392320, 2392320, 2392320, 2392320, 2392448, 2392320, 2392064, 2392064, 2392064, 2392064, 2392064, 2408448, 2392064, 2359296, 2359296, 2359296, 2097152, 2097152, 2097152, 0] [(7, 0), (14, 1)] [0, 128, 384, 16384, 16512, 16768, 49536, 311680, 2408832] [0, 1, 2, 3, 4, 5, 6, 7, 8, 9, 10, 11, 12]) 2 ?_
  refine .p 5 ?_
  refine .rm [true] ?_
  refine .rm [true] ?_
  refine .em [true] [128, 0] [_] ?_
  refine .em [true, false] [384, 128, 0] [_] ?_
  refine .p 3 ?_
  refine .rm [true, true, true] ?_
  refine .p 1 ?_
  refine .en [true, true, true] [16768, 16512, 16384, 384, 128, 0] [_, _, _] ?_
  refine .en [true, false, false, false, false, false] [49536, 16768, 16512, 16384, 384, 128, 0] [_] ?_
  refine .p 2 ?_
  refine .en [true, false, false, false, false, false, false] [311680, 49536, 16768, 16512, 16384, 384, 128, 0] [_] ?_
  refine .p 2 ?_
  refine .en [true, false, false, false, false, false, false, false] [2408832, 311680, 49536, 16768, 16512, 16384, 384, 128, 0] [_] ?_
  refine .po [false, false, false, true, true, true, true, true, true] ?_
  refine .po [false, false, false, false, true, false, false, true, false] ?_
  refine .po [false, false, false, false, false, true, false, false, true] ?_
  refine .po [false, false, false, false, false, true, false, false, true] ?_
  refine .po [false, false, false, false, true, true, false, true, true] ?_
  refine u9.nil rfl ?_
  refine .c7 [0] ?_
  refine c62z ?_
  exact ⟨hT _ _ _ _, _, _, rfl, by (simp only [aB]; exact Nat.le_refl _), (wG (fR.get ⟨.vec _ _, .vec _ _, .vec _ _, .vec _ _, .int _ _, .int _ _, .int _ _, .int _ _, .own _ _ _ _ e.lt.2.1, .own _ _ _ _ e.lt.2.2, trivial⟩)), by first | rfl | (simp only [List.append_assoc, List.cons_append, List.nil_append, aL, aE, s4, w7, aV, w8, aF, aW, aM, v5, w9, aX, v7, aN, aG, aA, r6, l9, aB, dQ, sO, Nat.lt_irrefl, if_false, reduceIte, List.getElem?_cons_succ, List.getElem?_cons_zero, Nat.not_lt, Nat.le_add_right, Nat.le_refl, and_self, if_true, Bool.false_eq_true, Nat.zero_add, Nat.one_mul, Nat.mul_one, List.drop_zero, j8, iD, bW, eY, iY, eX, Nat.reduceMul, Option.map_some, List.length_append, List.length_cons, List.length_nil]; rfl), by exact ⟨congrArg (AV.int .i64) (by omega), by simp only [s8, List.length_append, List.length_cons, List.length_nil]⟩⟩
end
section
attribute [local go_sem] lU K3 BI BJ
theorem c_call3 {e : Frm} {s : Sco} (hl : s.l.length < 1000000) (t : Int) {E : Env} {c : Ctx} {vars : List BA} (sc : SC E c vars s.l) (hE : E.c4 = s.p.c4) (hc : c.nm = s.p.c4.length) {x y : BA} {n : Int} (hf : bT s.l x = some ⟨y, 3, n⟩) (hn : 0 ≤ n ∧ n < s.p.funcs.length) {ps : List Pm} (hp : (s.p.funcs.getD n.toNat j4).params = ps) (hp2 : ps.length ≤ 2) {xs : List Ar} (ha : GAs E vars ps xs) : CallA Try.prog cfg 96 [.ptr e.k 0 0, .agg [.int .i64 3, .str x, .int .i64 0, .int .i64 0, .str ByteArray.empty, .vec 0 [], .str ByteArray.empty, .vec 0 [], .vec xs.length (bJ xs), .vec 0 [], .vec 0 []], .int .i64 t] (hT e (s8 e.k s) s.code s.sites) (fun y' h' => y' = .agg (eF ⟨2, n, false, l3, bQ, aT s.l xs, z8 s.l xs⟩) ∧ h' = (hT e (s8 e.k s) s.code s.sites)) := by
  refine .b fn96 ntm96 ?_
  refine .z ?_
  refine c79z ?_
  refine c4z ?_
  refine c5z ?_
  refine c84z ?_
  refine .cl rfl rfl (fun _ => mR hf hl) ?_
  refine .p 3 ?_
  refine c53z ?_
  refine .p 1 ?_
  refine c113z ?_
  refine .sb ?_
  refine .c7 [0, 2, 4, 6, 7, 8, 9] ?_
  refine .z ?_
  refine c14z ?_
  refine c13z ?_
  refine c115z ?_
  refine .ss z7 (mkP 11 [0, 1, 3, 7, 15, 0, 32, 127, 255, 511, 1023] []) ?_
  refine c167z ?_
  refine .seq ?_
  refine .c7 [0, 2, 4, 6, 7, 10] ?_
  have hml := GAs.mu ha; have hml1 := hml.1
  rw [hp]
  refine .z ?_
  refine .spl 61 rfl rfl (fun e1 => by exfalso; have hml1 := (GAs.mu ha).1; have q := fact e1; omega) (fun e1 => ?_)
  try simp only [e1]
  have qe1 := fact e1
  refine c4z ?_
  refine c12z ?_
  refine c8.lZ (β := e.n + 2) (k := 10) t65 rfl ?_
  simp only [List.append_assoc, List.cons_append, List.nil_append, dQ, gE, List.set_cons_succ, List.set_cons_zero, List.length_append, aB, List.length_cons, List.length_nil, Nat.reduceAdd, Nat.zero_add]
  refine c8.lZ (β := e.n + 2) (k := 11) t65 rfl ?_
  simp only [List.append_assoc, List.cons_append, List.nil_append, dQ, gE, List.set_cons_succ, List.set_cons_zero, List.length_append, aB, List.length_cons, List.length_nil, Nat.reduceAdd, Nat.zero_add]
  refine .dU (fun m st => ∃ (q : Nat) (es : List Ex) (ps' : List Pl) (gi : Nat) (gp : Nat), (m = ps.length - q ∧ (q ≤ ps.length ∧ aT s.l xs = es ++ aT s.l (xs.drop q) ∧ z8 s.l xs = ps' ++ z8 s.l (xs.drop q) ∧ es.length ≤ q ∧ ps'.length ≤ q)) ∧ st = ⟨mkS 112 [(0, AV.ptr e.k 0 0), (2, AV.int .i64 t), (4, AV.ptr e.n 0 0), (6, AV.ptr (e.n + 1) 0 0), (7, AV.ptr (e.n + 2) 0 0), (10, AV.vec ps.length (v8 ps)), (11, AV.int .i64 ((q : Nat) : Int))], (hT e (s8 e.k s) s.code s.sites) ++ [⟨0, false, 156, 11, [.int .i64 3, .str x, .int .i64 0, .int .i64 0, .str ByteArray.empty, .vec 0 [], .str ByteArray.empty, .vec 0 [], .vec xs.length (bJ xs), .vec 0 [], .vec 0 []], 0⟩, ⟨0, false, 56, 12, [.int .i64 0, .int .i64 0, .bool false, .int .i64 0, .int .i64 0, .str ByteArray.empty, .g6, .bool false, .int .i64 0, .g6, .g6, .g6], 0⟩, ⟨0, false, 56, 12, [.int .i64 2, .int .i64 n, .bool false, .int .i64 0, .int .i64 0, .str ByteArray.empty, .g6, .bool false, .int .i64 0, .g6, .own (e.n + 4) gi 0 es.length, .own (e.n + 5) gp 0 ps'.length], 0⟩, ⟨0, false, 113, 3, [.str y, .int .i64 3, .int .i64 n], 0⟩, p9 51 4 gi (m7 es), p9 53 3 gp (dD ps')]⟩) (.v ⟨0, ([] : List Ex), ([] : List Pl), 0, 0, ⟨rfl, ⟨by omega, by simp, by simp, by simp, by simp⟩⟩, rfl⟩ (hr := t14)) ?_
  rintro m sl h' ⟨q, es, ps', gi, gp, ⟨hm, ⟨hq, hes, hps, hel, hpl⟩⟩, hst⟩
  obtain ⟨rfl, rfl⟩ := St.mk.inj hst; clear hst
  refine c0z ?_
  refine .spl 69 rfl rfl (fun e2 => ?_) (fun e2 => ?_)
  ·try simp only [e2]
   have qe2 := fact e2
   refine c11z ?_
   have har := ar_is ha (i := q) (by omega)
   refine c33z ?_
   refine .c7 [0, 2, 4, 6, 7, 10, 11, 12] ?_
   refine .ss z7 (mkP 8 [0, 1, 0, 0, 12, 28, 60, 127] []) ?_
   refine .n [] ?_
   refine .spl 84 rfl rfl (fun e3 => by exfalso; have hml2 := (GAs.mu ha).2 q (by omega); simp_all) (fun e3 => ?_)
   try simp only [e3]
   have qe3 := fact e3
   refine c4z ?_
   refine .c7 [0, 2, 4, 6, 7, 10, 11, 12] ?_
   refine .z ?_
   refine .spl 90 rfl rfl (fun e4 => ?_) (fun e4 => ?_)
   ·try simp only [e4]
    have qe4 := fact e4
    refine .T ?_
    have hmu : (xs.getD q dP).mu = true := by assumption
    refine c21z ?_
    refine c145z ?_
    refine .p 1 ?_
    refine .cn [true] [64, 0] [_] rfl rfl t103 ?_
    refine c76z ?_
    refine c93z ?_
    refine c44z ?_
    refine c136z ?_
    refine .rz ?_
    exact ⟨_, by omega, .v ⟨(q + 1), es, (ps' ++ [oV s.l (xs.getD q dP).r]), gi, (gp + 1), ⟨rfl, ⟨by omega, cEx_t (by omega) hmu hes, cPl_t (by omega) hmu hps, by omega, by simp; omega⟩⟩, rfl⟩ (he := t29) (hl := t70) (hk := t25) (hr := t14)⟩
   try simp only [e4]
   have qe4 := fact e4
   refine .F ?_
   have hmu : (xs.getD q dP).mu = false := by assumption
   refine c21z ?_
   refine c145z ?_
   refine .p 1 ?_
   refine .cn [true] [64, 0] [_] rfl rfl t104 ?_
   refine c76z ?_
   refine c93z ?_
   refine c44z ?_
   refine c136z ?_
   refine .rz ?_
   exact ⟨_, by omega, .v ⟨(q + 1), (es ++ [eM s.l (xs.getD q dP).e]), ps', (gi + 1), gp, ⟨rfl, ⟨by omega, cEx_f (by omega) hmu hes, cPl_f (by omega) hmu hps, by simp; omega, by omega⟩⟩, rfl⟩ (he := t29) (hl := t70) (hk := t25) (hr := t14)⟩
  try simp only [e2]
  have qe2 := fact e2
  refine c3z ?_
  obtain rfl : q = ps.length := by omega
  rw [List.drop_of_length_le (by omega)] at hes hps; simp only [aT, z8, List.append_nil] at hes hps
  refine c8.lA (γ := e.n + 4) (β := e.n + 2) (k := 10) (len := es.length) t65 (by rw [bI, Nat.mul_comm]) (by omega) (OH _) t65 (by omega) rfl ?_
  simp only [List.append_assoc, List.cons_append, List.nil_append, dQ, gE, List.set_cons_succ, List.set_cons_zero, List.length_append, aB, List.length_cons, List.length_nil, Nat.reduceAdd, Nat.zero_add]
  refine c8.lA (γ := e.n + 5) (β := e.n + 2) (k := 11) (len := ps'.length) t65 (by rw [dM, Nat.mul_comm]) (by omega) (BG _) t65 (by omega) rfl ?_
  simp only [List.append_assoc, List.cons_append, List.nil_append, dQ, gE, List.set_cons_succ, List.set_cons_zero, List.length_append, aB, List.length_cons, List.length_nil, Nat.reduceAdd, Nat.zero_add]
  generalize iC 51 4 gi (m7 es) (es.length * 4) = Eb
  generalize iC 53 3 gp (dD ps') (ps'.length * 3) = Pb
  change c8 ..
  refine .c7 [6, 7] ?_
  refine .z ?_
  exact .ret (.ex (hf := t3) (hq := by (refine congrArg AV.agg ?_; rw [iO, hes, hps]; rfl)))
end
section
attribute [local go_sem] lU K3 BI BJ
theorem c_call4 {e : Frm} {s : Sco} (hl : s.l.length < 1000000) (t : Int) {E : Env} {c : Ctx} {vars : List BA} (sc : SC E c vars s.l) (hE : E.c4 = s.p.c4) (hc : c.nm = s.p.c4.length) {x y : BA} {n : Int} (hf : bT s.l x = some ⟨y, 3, n⟩) (hn : 0 ≤ n ∧ n < s.p.funcs.length) {ps : List Pm} (hp : (s.p.funcs.getD n.toNat j4).params = ps) (hp2 : ps.length ≤ 2) {xs : List Ar} (ha : GAs E vars ps xs) : CallA Try.prog cfg 96 [.ptr e.k 0 0, .agg [.int .i64 4, .str x, .int .i64 0, .int .i64 0, .str ByteArray.empty, .vec 0 [], .str ByteArray.empty, .vec 0 [], .vec xs.length (bJ xs), .vec 0 [], .vec 0 []], .int .i64 t] (hT e (s8 e.k s) s.code s.sites) (fun y' h' => y' = .agg (eF ⟨3, n, false, l3, bQ, aT s.l xs, z8 s.l xs⟩) ∧ h' = (hT e (s8 e.k s) s.code s.sites)) := by
  refine .b fn96 ntm96 ?_
  refine .z ?_
  refine c79z ?_
  refine c64z ?_
  refine c5z ?_
  refine c84z ?_
  refine .cl rfl rfl (fun _ => mR hf hl) ?_
  refine .p 3 ?_
  refine c53z ?_
  refine .p 1 ?_
  refine c113z ?_
  refine .sb ?_
  refine .c7 [0, 2, 4, 6, 7, 8, 9] ?_
  refine .z ?_
  refine c14z ?_
  refine c13z ?_
  refine c115z ?_
  refine .ss z7 (mkP 11 [0, 1, 3, 7, 15, 0, 32, 127, 255, 511, 1023] []) ?_
  refine c167z ?_
  refine .seq ?_
  refine .c7 [0, 2, 4, 6, 7, 10] ?_
  have hml := GAs.mu ha; have hml1 := hml.1
  rw [hp]
  refine .z ?_
  refine .spl 61 rfl rfl (fun e1 => by exfalso; have hml1 := (GAs.mu ha).1; have q := fact e1; omega) (fun e1 => ?_)
  try simp only [e1]
  have qe1 := fact e1
  refine c4z ?_
  refine c12z ?_
  refine c8.lZ (β := e.n + 2) (k := 10) t65 rfl ?_
  simp only [List.append_assoc, List.cons_append, List.nil_append, dQ, gE, List.set_cons_succ, List.set_cons_zero, List.length_append, aB, List.length_cons, List.length_nil, Nat.reduceAdd, Nat.zero_add]
  refine c8.lZ (β := e.n + 2) (k := 11) t65 rfl ?_
  simp only [List.append_assoc, List.cons_append, List.nil_append, dQ, gE, List.set_cons_succ, List.set_cons_zero, List.length_append, aB, List.length_cons, List.length_nil, Nat.reduceAdd, Nat.zero_add]
  refine .dU (fun m st => ∃ (q : Nat) (es : List Ex) (ps' : List Pl) (gi : Nat) (gp : Nat), (m = ps.length - q ∧ (q ≤ ps.length ∧ aT s.l xs = es ++ aT s.l (xs.drop q) ∧ z8 s.l xs = ps' ++ z8 s.l (xs.drop q) ∧ es.length ≤ q ∧ ps'.length ≤ q)) ∧ st = ⟨mkS 112 [(0, AV.ptr e.k 0 0), (2, AV.int .i64 t), (4, AV.ptr e.n 0 0), (6, AV.ptr (e.n + 1) 0 0), (7, AV.ptr (e.n + 2) 0 0), (10, AV.vec ps.length (v8 ps)), (11, AV.int .i64 ((q : Nat) : Int))], (hT e (s8 e.k s) s.code s.sites) ++ [⟨0, false, 156, 11, [.int .i64 4, .str x, .int .i64 0, .int .i64 0, .str ByteArray.empty, .vec 0 [], .str ByteArray.empty, .vec 0 [], .vec xs.length (bJ xs), .vec 0 [], .vec 0 []], 0⟩, ⟨0, false, 56, 12, [.int .i64 0, .int .i64 0, .bool false, .int .i64 0, .int .i64 0, .str ByteArray.empty, .g6, .bool false, .int .i64 0, .g6, .g6, .g6], 0⟩, ⟨0, false, 56, 12, [.int .i64 3, .int .i64 n, .bool false, .int .i64 0, .int .i64 0, .str ByteArray.empty, .g6, .bool false, .int .i64 0, .g6, .own (e.n + 4) gi 0 es.length, .own (e.n + 5) gp 0 ps'.length], 0⟩, ⟨0, false, 113, 3, [.str y, .int .i64 3, .int .i64 n], 0⟩, p9 51 4 gi (m7 es), p9 53 3 gp (dD ps')]⟩) (.v ⟨0, ([] : List Ex), ([] : List Pl), 0, 0, ⟨rfl, ⟨by omega, by simp, by simp, by simp, by simp⟩⟩, rfl⟩ (hr := t14)) ?_
  rintro m sl h' ⟨q, es, ps', gi, gp, ⟨hm, ⟨hq, hes, hps, hel, hpl⟩⟩, hst⟩
  obtain ⟨rfl, rfl⟩ := St.mk.inj hst; clear hst
  refine c0z ?_
  refine .spl 69 rfl rfl (fun e2 => ?_) (fun e2 => ?_)
  ·try simp only [e2]
   have qe2 := fact e2
   refine c11z ?_
   have har := ar_is ha (i := q) (by omega)
   refine c33z ?_
   refine .c7 [0, 2, 4, 6, 7, 10, 11, 12] ?_
   refine .ss z7 (mkP 8 [0, 1, 0, 0, 12, 28, 60, 127] []) ?_
   refine .n [] ?_
   refine .spl 84 rfl rfl (fun e3 => by exfalso; have hml2 := (GAs.mu ha).2 q (by omega); simp_all) (fun e3 => ?_)
   try simp only [e3]
   have qe3 := fact e3
   refine c4z ?_
   refine .c7 [0, 2, 4, 6, 7, 10, 11, 12] ?_
   refine .z ?_
   refine .spl 90 rfl rfl (fun e4 => ?_) (fun e4 => ?_)
   ·try simp only [e4]
    have qe4 := fact e4
    refine .T ?_
    have hmu : (xs.getD q dP).mu = true := by assumption
    refine c21z ?_
    refine c145z ?_
    refine .p 1 ?_
    refine .cn [true] [64, 0] [_] rfl rfl t103 ?_
    refine c76z ?_
    refine c93z ?_
    refine c44z ?_
    refine c136z ?_
    refine .rz ?_
    exact ⟨_, by omega, .v ⟨(q + 1), es, (ps' ++ [oV s.l (xs.getD q dP).r]), gi, (gp + 1), ⟨rfl, ⟨by omega, cEx_t (by omega) hmu hes, cPl_t (by omega) hmu hps, by omega, by simp; omega⟩⟩, rfl⟩ (he := t29) (hl := t70) (hk := t25) (hr := t14)⟩
   try simp only [e4]
   have qe4 := fact e4
   refine .F ?_
   have hmu : (xs.getD q dP).mu = false := by assumption
   refine c21z ?_
   refine c145z ?_
   refine .p 1 ?_
   refine .cn [true] [64, 0] [_] rfl rfl t104 ?_
   refine c76z ?_
   refine c93z ?_
   refine c44z ?_
   refine c136z ?_
   refine .rz ?_
   exact ⟨_, by omega, .v ⟨(q + 1), (es ++ [eM s.l (xs.getD q dP).e]), ps', (gi + 1), gp, ⟨rfl, ⟨by omega, cEx_f (by omega) hmu hes, cPl_f (by omega) hmu hps, by simp; omega, by omega⟩⟩, rfl⟩ (he := t29) (hl := t70) (hk := t25) (hr := t14)⟩
  try simp only [e2]
  have qe2 := fact e2
  refine c3z ?_
  obtain rfl : q = ps.length := by omega
  rw [List.drop_of_length_le (by omega)] at hes hps; simp only [aT, z8, List.append_nil] at hes hps
  refine c8.lA (γ := e.n + 4) (β := e.n + 2) (k := 10) (len := es.length) t65 (by rw [bI, Nat.mul_comm]) (by omega) (OH _) t65 (by omega) rfl ?_
  simp only [List.append_assoc, List.cons_append, List.nil_append, dQ, gE, List.set_cons_succ, List.set_cons_zero, List.length_append, aB, List.length_cons, List.length_nil, Nat.reduceAdd, Nat.zero_add]
  refine c8.lA (γ := e.n + 5) (β := e.n + 2) (k := 11) (len := ps'.length) t65 (by rw [dM, Nat.mul_comm]) (by omega) (BG _) t65 (by omega) rfl ?_
  simp only [List.append_assoc, List.cons_append, List.nil_append, dQ, gE, List.set_cons_succ, List.set_cons_zero, List.length_append, aB, List.length_cons, List.length_nil, Nat.reduceAdd, Nat.zero_add]
  generalize iC 51 4 gi (m7 es) (es.length * 4) = Eb
  generalize iC 53 3 gp (dD ps') (ps'.length * 3) = Pb
  change c8 ..
  refine .c7 [6, 7] ?_
  refine .z ?_
  exact .ret (.ex (hf := t3) (hq := by (refine congrArg AV.agg ?_; rw [iO, hes, hps]; rfl)))
end
end Go.Proofs.Ytbmaijdkebjnhaa
end
section
namespace Go.Proofs.Ytbmaijdkebjnhaa
open Go.Ab Go.Un
def cL : Sl → Int → List Int
  | .nil, _ => []
  | .cons k n e r xs th el rest, t =>
    if k = 7 then t :: (cL th (t + 1) ++ ((if 0 < el.len then t :: cL el (t + 1 + (th.wt : Int)) else []) ++ cL rest (t + 1 + (th.wt : Int) + (el.wt : Int))))
    else if k = 8 then t :: (cL th (t + 1) ++ (t :: cL rest (t + 1 + (th.wt : Int))))
    else t :: cL rest (t + 1)
theorem gS : ∀ (S : Sl) (t : Int), (cL S t).length ≤ 2 * S.wt
  | .nil, t => by simp [cL]
  | .cons k n e r xs th el rest, t => by
    have h1 := gS th (t + 1)
    have h2 := gS el (t + 1 + (th.wt : Int))
    have h3 := gS rest (t + 1 + (th.wt : Int) + (el.wt : Int))
    have h4 := gS rest (t + 1 + (th.wt : Int))
    have h5 := gS rest (t + 1)
    unfold cL
    simp only [Sl.wt]
    split
    · split <;> simp only [List.length_cons, List.length_append, List.length_nil] <;> omega
    · split <;> simp only [List.length_cons, List.length_append] <;> omega
def qA (c : List Ins) (i : Nat) (v : Int) : List Ins := c.set i { c.getD i g9 with target := v }
theorem kB {c : List Ins} {i : Nat} {v : Int} : (qA c i v).length = c.length := by simp [qA]
theorem wK {c d : List Ins} {x : Ins} {i : Nat} {v : Int} (hi : i = c.length) : qA (c ++ (x :: d)) i v = c ++ ({ x with target := v } :: d) := by
  subst hi
  simp [qA, List.getD]
def aZ (s : Sco) : Sco := { s with st := s.st + 1 }
def m9 (s : Sco) (i : Ins) (t : Int) : Sco := { s with code := s.code ++ [i], sites := s.sites ++ [t] }
def cN (s : Sco) (i : Nat) (v : Int) : Sco := { s with code := qA s.code i v }
def oY (s : Sco) (n : BA) : Sco := { s with l := s.l ++ [⟨n, 4, s.loc⟩], loc := s.loc + 1 }
def cS (l0 : List Ent) (s : Sco) (S : Sl) : Sco := { s with l := l0, loc := fF S s.loc, st := s.st + (S.wt : Int), code := s.code ++ n6 S s.l s.loc s.code.length, sites := s.sites ++ cL S s.st }
theorem qY {k : Nat} {s : Sco} {i : Nat} {v : Int} : s8 k (cN s i v) = s8 k s := by simp only [s8, cN, kB]
theorem HS {k : Nat} {s : Sco} {i : Ins} {t : Int} {n : BA} : s8 k (oY (m9 (aZ s) i t) n) = ⟨0, false, 164, 10, [.vec s.p.globals.length (o7 s.p.globals), .vec s.p.c4.length (j6 s.p.c4), .vec s.p.funcs.length (n4 s.p.funcs), .vec (s.l.length + 1) (j5 (s.l ++ [⟨n, 4, s.loc⟩])), .int .i64 (s.loc + 1), .int .i64 (s.st + 1), .int .i64 0, .int .i64 0, .own (k + 1) (s.code.length + 1) 0 (s.code.length + 1), .own (k + 2) (s.sites.length + 1) 0 (s.sites.length + 1)], 0⟩ := by
  simp only [s8, oY, m9, aZ, List.length_append, List.length_cons, List.length_nil, Nat.zero_add]
theorem wL {k : Nat} {s : Sco} : (s8 k s).gen = 0 := rfl
theorem sQ {k : Nat} {s : Sco} : (s8 k s).cJ = false := rfl
theorem sR {k : Nat} {s : Sco} : (s8 k s).elem = 164 := rfl
theorem wM {k : Nat} {s : Sco} : (s8 k s).esz = 10 := rfl
theorem wN {k : Nat} {s : Sco} : (s8 k s).frz = 0 := rfl
theorem oZ {k : Nat} {s : Sco} : (s8 k s).cells = [.vec s.p.globals.length (o7 s.p.globals), .vec s.p.c4.length (j6 s.p.c4), .vec s.p.funcs.length (n4 s.p.funcs), .vec s.l.length (j5 s.l), .int .i64 s.loc, .int .i64 s.st, .int .i64 0, .int .i64 0, .own (k + 1) s.code.length 0 s.code.length, .own (k + 2) s.sites.length 0 s.sites.length] := rfl
theorem uD {s : Sco} : (aZ s).l = s.l := rfl
theorem nX {s : Sco} : (aZ s).loc = s.loc := rfl
theorem stSt_p {s : Sco} : (aZ s).p = s.p := rfl
theorem dH {s : Sco} : (aZ s).code.length = s.code.length := rfl
theorem cG {s : Sco} : (aZ s).sites.length = s.sites.length := rfl
theorem mS {s : Sco} {i : Ins} {t : Int} : (m9 s i t).l = s.l := rfl
theorem hU {s : Sco} {i : Ins} {t : Int} : (m9 s i t).loc = s.loc := rfl
theorem wO {s : Sco} {i : Ins} {t : Int} : (m9 s i t).st = s.st := rfl
theorem stPut_p {s : Sco} {i : Ins} {t : Int} : (m9 s i t).p = s.p := rfl
theorem z5 {s : Sco} {i : Ins} {t : Int} : (m9 s i t).code.length = s.code.length + 1 := by simp [m9]
theorem w5 {s : Sco} {i : Ins} {t : Int} : (m9 s i t).sites.length = s.sites.length + 1 := by simp [m9]
theorem stTgt_l {s : Sco} {i : Nat} {t : Int} : (cN s i t).l = s.l := rfl
theorem jF {s : Sco} {i : Nat} {t : Int} : (cN s i t).code.length = s.code.length := kB
theorem mT {s : Sco} {i : Nat} {t : Int} : (cN s i t).sites.length = s.sites.length := rfl
theorem finS_l {l0 : List Ent} {s : Sco} {S : Sl} : (cS l0 s S).l = l0 := rfl
theorem finS_p {l0 : List Ent} {s : Sco} {S : Sl} : (cS l0 s S).p = s.p := rfl
theorem hY {l0 : List Ent} {s : Sco} {S : Sl} : s.code.length ≤ (cS l0 s S).code.length ∧ (cS l0 s S).code.length ≤ s.code.length + 2 * S.wt := by
  have := eN S s.l s.loc s.code.length
  simp only [cS, List.length_append]; omega
theorem gT {l0 : List Ent} {s : Sco} {S : Sl} : s.sites.length ≤ (cS l0 s S).sites.length ∧ (cS l0 s S).sites.length ≤ s.sites.length + 2 * S.wt := by
  have := gS S s.st
  simp only [cS, List.length_append]; omega
theorem pQ : ∀ (S : Sl) (n : Int), n ≤ fF S n ∧ fF S n ≤ n + (S.wt : Int)
  | .nil, n => by simp [fF, Sl.wt]
  | .cons k nm e r xs th el rest, n => by
    have r1 := pQ rest (n + 1)
    have r2 := pQ rest (fF el (fF th n))
    have r3 := pQ rest (fF th n)
    have r4 := pQ rest n
    have t1 := pQ th n
    have e1 := pQ el (fF th n)
    simp only [fF, Sl.wt]
    split
    · omega
    · split
      · omega
      · split <;> omega
structure Bnd (s : Sco) (W : Nat) : Prop where
  lp : 0 < s.l.length
  lb : s.l.length + W ≤ 900
  cb : s.code.length + 2 * W ≤ 5000
  sb : s.sites.length + 2 * W ≤ 5000
  o0 : 0 ≤ s.loc
  ob : s.loc + (W : Int) ≤ 5000
  t0 : 0 ≤ s.st
  tb : s.st + (W : Int) ≤ 5000
structure Bd (E : Env) (c : Ctx) (p : Go.Un.Pg) : Prop where
  hE : E.c4 = p.c4
  hc : c.nm = p.c4.length
  hf : E.funcs = p.funcs.map fun f => (f.name, f.params)
  fp : ∀ f ∈ E.funcs, f.2.length ≤ 2
theorem Sco.eq {a b : Sco} (h1 : a.p = b.p) (h2 : a.l = b.l) (h3 : a.loc = b.loc) (h4 : a.st = b.st) (h5 : a.code = b.code) (h6 : a.sites = b.sites) : a = b := by
  cases a; cases b; simp_all
theorem fin_var {l0 : List Ent} {s : Sco} {n : BA} {e : Ex} {rest : Sl} : cS l0 (oY (m9 (aZ s) ⟨1, s.loc, false, eM s.l e, bQ, [], []⟩ s.st) n) rest = cS l0 s (.cons 1 n e m8 [] .nil .nil rest) := by
  refine Sco.eq rfl rfl ?_ ?_ ?_ ?_
  · simp only [cS, oY, m9, aZ, fF, if_true]
  · simp only [cS, oY, m9, aZ, Sl.wt]; omega
  · simp only [cS, oY, m9, aZ, n6, if_true, List.append_assoc, List.cons_append, List.nil_append, List.length_append, List.length_cons, List.length_nil, Nat.zero_add]
  · simp only [cS, oY, m9, aZ, cL, show ¬ (1 : Int) = 7 from by decide, show ¬ (1 : Int) = 8 from by decide, if_false, List.append_assoc, List.cons_append, List.nil_append]
theorem pA {l0 : List Ent} {s : Sco} {i : Ins} {k : Int} {n : BA} {e : Ex} {r : Rf} {xs : List Ar} {rest : Sl} (h : n6 (.cons k n e r xs .nil .nil rest) s.l s.loc s.code.length = i :: n6 rest s.l s.loc (s.code.length + 1)) (hk : k ≠ 1 ∧ k ≠ 7 ∧ k ≠ 8) : cS l0 (m9 (aZ s) i s.st) rest = cS l0 s (.cons k n e r xs .nil .nil rest) := by
  refine Sco.eq rfl rfl ?_ ?_ ?_ ?_
  · simp only [cS, m9, aZ, fF, hk.1, hk.2.1, hk.2.2, if_false]
  · simp only [cS, m9, aZ, Sl.wt]; omega
  · simp only [cS, h, m9, aZ, List.append_assoc, List.cons_append, List.nil_append, List.length_append, List.length_cons, List.length_nil, Nat.zero_add]
  · simp only [cS, m9, aZ, cL, hk.2.1, hk.2.2, if_false, List.append_assoc, List.cons_append, List.nil_append]
theorem len_nil {s : Sl} : ¬ 0 < s.len ↔ s = .nil := ⟨fun h => Sl.vK (by omega), fun h => by subst h; simp [Go.Un.Sl.len]⟩
def dR (s : Sco) (e : Ex) (th : Sl) : Sco := cS s.l (m9 (aZ s) ⟨6, 0, false, eM s.l e, bQ, [], []⟩ s.st) th
def stJ (s : Sco) (e : Ex) (th : Sl) : Sco := m9 (dR s e th) ⟨7, 0, false, l3, bQ, [], []⟩ s.st
def dS (s : Sco) (e : Ex) (th el : Sl) : Sco := cS s.l (cN (stJ s e th) s.code.length ((stJ s e th).code.length : Int)) el
def wV (s : Sco) (e : Ex) (th : Sl) : Sco := m9 (dR s e th) ⟨7, ((s.code.length : Nat) : Int), false, l3, bQ, [], []⟩ s.st
theorem nY {s : Sco} {e : Ex} {th : Sl} : (dR s e th).code = s.code ++ ((⟨6, 0, false, eM s.l e, bQ, [], []⟩ : Ins) :: n6 th s.l s.loc (s.code.length + 1)) := by
  simp only [dR, cS, m9, aZ, List.append_assoc, List.cons_append, List.nil_append, List.length_append, List.length_cons, List.length_nil, Nat.zero_add]
theorem nZ {s : Sco} {e : Ex} {th : Sl} : (dR s e th).code.length = s.code.length + 1 + (n6 th s.l s.loc (s.code.length + 1)).length := by
  rw [nY]; simp; omega
theorem HT {s : Sco} {e : Ex} {th : Sl} {v : Int} : (cN (stJ s e th) s.code.length v).code = s.code ++ ((⟨6, v, false, eM s.l e, bQ, [], []⟩ : Ins) :: (n6 th s.l s.loc (s.code.length + 1) ++ [⟨7, 0, false, l3, bQ, [], []⟩])) := by
  simp only [cN, stJ, m9, nY, List.append_assoc, List.cons_append]
  exact wK rfl
theorem sS {s : Sco} {e : Ex} {th el : Sl} : (dS s e th el).code = s.code ++ ((⟨6, ((stJ s e th).code.length : Int), false, eM s.l e, bQ, [], []⟩ : Ins) :: (n6 th s.l s.loc (s.code.length + 1) ++ (⟨7, 0, false, l3, bQ, [], []⟩ :: n6 el s.l (fF th s.loc) ((dR s e th).code.length + 1)))) := by
  have h1 : (cN (stJ s e th) s.code.length ((stJ s e th).code.length : Int)).code.length = (dR s e th).code.length + 1 := by
    simp only [cN, kB, stJ, m9, List.length_append, List.length_cons, List.length_nil, Nat.zero_add]
  show (cN (stJ s e th) s.code.length ((stJ s e th).code.length : Int)).code ++ n6 el s.l (fF th s.loc) _ = _
  rw [h1, HT]
  simp only [List.append_assoc, List.cons_append, List.nil_append]
theorem stJ_len {s : Sco} {e : Ex} {th : Sl} : (stJ s e th).code.length = (dR s e th).code.length + 1 := by simp [stJ, m9]
theorem Q6 {s : Sco} {e : Ex} {th el : Sl} : (dS s e th el).code.length = (dR s e th).code.length + 1 + (n6 el s.l (fF th s.loc) ((dR s e th).code.length + 1)).length := by
  rw [sS, nZ]; simp; omega
theorem fin_if {l0 : List Ent} {s : Sco} {n : BA} {e : Ex} {r : Rf} {xs : List Ar} {th rest : Sl} : cS l0 (cN (dR s e th) s.code.length ((dR s e th).code.length : Int)) rest = cS l0 s (.cons 7 n e r xs th .nil rest) := by
  have hne : ¬ (7 : Int) = 1 ∧ ¬ (7 : Int) = 2 ∧ ¬ ((7 : Int) = 3 ∨ (7 : Int) = 4) ∧ ¬ (7 : Int) = 5 ∧ ¬ (7 : Int) = 6 := by decide
  have h0 : ¬ 0 < Sl.nil.len := by simp [Go.Un.Sl.len]
  refine Sco.eq rfl rfl ?_ ?_ ?_ ?_
  · simp only [cS, cN, dR, m9, aZ, fF, hne.1, if_false, if_true]
  · simp only [cS, cN, dR, m9, aZ, Sl.wt]; omega
  · show qA (dR s e th).code s.code.length _ ++ n6 rest s.l (fF th s.loc) (qA (dR s e th).code s.code.length _).length = s.code ++ n6 _ s.l s.loc s.code.length
    rw [kB, nZ, nY, wK rfl]
    simp only [n6, fF, hne.1, hne.2.1, hne.2.2.1, hne.2.2.2.1, hne.2.2.2.2, h0, if_false, if_true, List.append_assoc, List.cons_append]
  · show s.sites ++ [s.st] ++ cL th (s.st + 1) ++ cL rest (s.st + 1 + (th.wt : Int)) = s.sites ++ cL _ s.st
    simp only [cL, Sl.wt, h0, if_true, if_false, List.append_assoc, List.cons_append, List.nil_append, Int.natCast_zero, Int.add_zero]
theorem HU {l0 : List Ent} {s : Sco} {n : BA} {e : Ex} {r : Rf} {xs : List Ar} {th el rest : Sl} (hel : 0 < el.len) : cS l0 (cN (dS s e th el) (dR s e th).code.length ((dS s e th el).code.length : Int)) rest = cS l0 s (.cons 7 n e r xs th el rest) := by
  have hne : ¬ (7 : Int) = 1 ∧ ¬ (7 : Int) = 2 ∧ ¬ ((7 : Int) = 3 ∨ (7 : Int) = 4) ∧ ¬ (7 : Int) = 5 ∧ ¬ (7 : Int) = 6 := by decide
  refine Sco.eq rfl rfl ?_ ?_ ?_ ?_
  · simp only [cS, cN, dS, stJ, dR, m9, aZ, fF, hne.1, if_false, if_true]
  · simp only [cS, cN, dS, stJ, dR, m9, aZ, Sl.wt]; omega
  · show qA (dS s e th el).code (dR s e th).code.length _ ++ n6 rest s.l (fF el (fF th s.loc)) (qA (dS s e th el).code (dR s e th).code.length _).length = s.code ++ n6 _ s.l s.loc s.code.length
    rw [kB, Q6, sS]
    rw [show s.code ++ ((⟨6, ((stJ s e th).code.length : Int), false, eM s.l e, bQ, [], []⟩ : Ins) :: (n6 th s.l s.loc (s.code.length + 1) ++ (⟨7, 0, false, l3, bQ, [], []⟩ :: n6 el s.l (fF th s.loc) ((dR s e th).code.length + 1)))) = (s.code ++ ((⟨6, ((stJ s e th).code.length : Int), false, eM s.l e, bQ, [], []⟩ : Ins) :: n6 th s.l s.loc (s.code.length + 1))) ++ (⟨7, 0, false, l3, bQ, [], []⟩ :: n6 el s.l (fF th s.loc) ((dR s e th).code.length + 1)) from by simp only [List.append_assoc, List.cons_append]]
    rw [wK (by rw [nZ]; simp; omega), stJ_len, nZ]
    simp only [n6, hne.1, hne.2.1, hne.2.2.1, hne.2.2.2.1, hne.2.2.2.2, hel, if_false, if_true, List.append_assoc, List.cons_append]
  · show s.sites ++ [s.st] ++ cL th (s.st + 1) ++ [s.st] ++ cL el (s.st + 1 + (th.wt : Int)) ++ cL rest (s.st + 1 + (th.wt : Int) + (el.wt : Int)) = s.sites ++ cL _ s.st
    simp only [cL, hel, if_true, List.append_assoc, List.cons_append, List.nil_append]
theorem fin_wh {l0 : List Ent} {s : Sco} {n : BA} {e : Ex} {r : Rf} {xs : List Ar} {th rest : Sl} : cS l0 (cN (wV s e th) s.code.length ((wV s e th).code.length : Int)) rest = cS l0 s (.cons 8 n e r xs th .nil rest) := by
  have hne : ¬ (8 : Int) = 1 ∧ ¬ (8 : Int) = 2 ∧ ¬ ((8 : Int) = 3 ∨ (8 : Int) = 4) ∧ ¬ (8 : Int) = 5 ∧ ¬ (8 : Int) = 6 ∧ ¬ (8 : Int) = 7 := by decide
  rw [show (wV s e th).code.length = (dR s e th).code.length + 1 from by simp [wV, m9]]
  refine Sco.eq rfl rfl ?_ ?_ ?_ ?_
  · simp only [cS, cN, wV, dR, m9, aZ, fF, hne.1, hne.2.2.2.2.2, if_false, if_true]
  · simp only [cS, cN, wV, dR, m9, aZ, Sl.wt]; omega
  · show qA ((dR s e th).code ++ [⟨7, ((s.code.length : Nat) : Int), false, l3, bQ, [], []⟩]) s.code.length _ ++ n6 rest s.l (fF th s.loc) (qA ((dR s e th).code ++ [⟨7, ((s.code.length : Nat) : Int), false, l3, bQ, [], []⟩]) s.code.length _).length = s.code ++ n6 _ s.l s.loc s.code.length
    rw [kB, List.length_append, nZ, nY, List.append_assoc, List.cons_append, wK rfl]
    simp only [n6, hne.1, hne.2.1, hne.2.2.1, hne.2.2.2.1, hne.2.2.2.2.1, hne.2.2.2.2.2, if_false, if_true, List.append_assoc, List.cons_append, List.nil_append, List.length_cons, List.length_nil, Nat.zero_add]
  · show s.sites ++ [s.st] ++ cL th (s.st + 1) ++ [s.st] ++ cL rest (s.st + 1 + (th.wt : Int)) = s.sites ++ cL _ s.st
    simp only [cL, hne.2.2.2.2.2, if_true, if_false, List.append_assoc, List.cons_append, List.nil_append]
theorem agg_nil {h : c6} {φ : Map} {w : World} {xs xs' : List AV} (hn : mV xs' xs) {v : Value} (r : Rel h φ w v (.agg xs)) : Rel h φ w v (.agg xs') := by
  cases r with
  | pure hp => cases hp
  | agg a _ ha h1 hr =>
    obtain ⟨k1, k2⟩ := hn.get
    refine .agg a xs' (by rw [ha, k1]) h1 fun j v y e1 e2 => ?_
    have hj : j < xs.length := by rw [← k1]; exact (List.getElem?_eq_some_iff.1 e2).1
    have hx : xs[j]? = some xs[j] := List.getElem?_eq_getElem hj
    rcases k2 j y _ e2 hx with rfl | ⟨e3, rfl⟩
    · exact hr j v _ e1 hx
    · exact zY (e3 ▸ hr j v _ e1 hx)
def WK : List AV → List AV → Prop
  | [], [] => True
  | x :: xs, y :: ys => (x = y ∨ ∃ a b, x = .agg a ∧ y = .agg b ∧ mV a b) ∧ WK xs ys
  | _, _ => False
theorem WK.get : ∀ {xs ys : List AV}, WK xs ys → xs.length = ys.length ∧ ∀ (t : Nat) (x y : AV), xs[t]? = some x → ys[t]? = some y → x = y ∨ ∃ a b, x = .agg a ∧ y = .agg b ∧ mV a b
  | [], [], _ => ⟨rfl, fun t x y h => by simp at h⟩
  | x :: xs, y :: ys, h => by
    obtain ⟨h1, h2⟩ := h
    obtain ⟨k1, k2⟩ := WK.get h2
    refine ⟨by simp [k1], fun t u v hu hv => ?_⟩
    match t with
    | 0 => simp at hu hv; subst hu; subst hv; exact h1
    | t + 1 => exact k2 t u v t92 t96
  | [], _ :: _, h => h.elim
  | _ :: _, [], h => h.elim
theorem aggArg {f : FuncId} {h : c6} {args args' : List AV} {Q : AV → c6 → Prop} (ha : WK args' args) (r : CallA Try.prog cfg f args' h Q) : CallA Try.prog cfg f args h Q := by
  intro B φ w cargs i hs hr
  obtain ⟨k1, k2⟩ := ha.get
  refine r B φ w cargs i (by rw [k1]; exact hs) fun j v y h1 h2 => ?_
  have hj : j < args.length := by rw [← k1]; exact (List.getElem?_eq_some_iff.1 h2).1
  have hx : args[j]? = some args[j] := List.getElem?_eq_getElem hj
  rcases k2 j y _ h2 hx with rfl | ⟨a, b, rfl, e2, hn⟩
  · exact hr j v _ h1 hx
  · exact agg_nil hn (e2 ▸ hr j v _ h1 hx)
theorem jG {e : Frm} {s : Sco} (hc : s.code.length < 10000) (hs : s.sites.length < 10000) (i : Ins) (t : Int) {zs : List AV} (hz : mV (eF i) zs) : CallA Try.prog cfg 71 [.ptr e.k 0 0, .agg zs, .int .i64 t] (hT e (s8 e.k s) s.code s.sites) (fun y' h' => y' = .int .i64 ((s.code.length : Nat) : Int) ∧ h' = hT e (s8 e.k (m9 s i t)) (m9 s i t).code (m9 s i t).sites) :=
  aggArg (args' := [.ptr e.k 0 0, .agg (eF i), .int .i64 t]) ⟨.inl rfl, .inr ⟨_, _, rfl, rfl, hz⟩, .inl rfl, trivial⟩ (c_put hc hs i t)
theorem BL : ∀ {c : List Ins} {i : Nat} {v : Int}, i < c.length → List.take (i * 12 + 1) (o6 c) ++ AV.int .i64 v :: List.drop (i * 12 + 1 + 1) (o6 c) = o6 (qA c i v)
  | x :: c, 0, v, _ => by
    have e1 : o6 (x :: c) = eF x ++ o6 c := by simp [o6]
    have e2 : qA (x :: c) 0 v = { x with target := v } :: c := by simp [qA]
    have e3 : o6 ({ x with target := v } :: c) = eF { x with target := v } ++ o6 c := by simp [o6]
    rw [e1, e2, e3]
    rfl
  | x :: c, i + 1, v, h => by
    have ih := BL (c := c) (i := i) (v := v) (by simpa using h)
    have e1 : o6 (x :: c) = eF x ++ o6 c := by simp [o6]
    have e2 : qA (x :: c) (i + 1) v = x :: qA c i v := by simp [qA]
    have e3 : o6 (x :: qA c i v) = eF x ++ o6 (qA c i v) := by simp [o6]
    have hl : (eF x).length = 12 := aS x
    rw [e1, e2, e3, ← ih, show (i + 1) * 12 + 1 = (eF x).length + (i * 12 + 1) from by omega, List.take_length_add_append, show (eF x).length + (i * 12 + 1) + 1 = (eF x).length + (i * 12 + 1 + 1) from by omega, List.drop_length_add_append, List.append_assoc]
theorem yZ {c : List Ins} (h : 0 < c.length) : o6 c ≠ [] := by
  intro h0
  have := congrArg List.length h0
  rw [cC] at this
  simp at this
  omega
section
variable {e : Frm} {b : Blk} {c : List Ins} {ss : List Int} {l : c6} {v : Int} {i n : Nat}
theorem hT_1na (h : 0 < c.length) : (hT e b c ss ++ l)[e.k + 1]? = some ⟨c.length, false, 56, 12, o6 c, 0⟩ := by rw [HO, fC (yZ h)]
theorem hT_pn (h : c.length = n) (h0 : 0 < n) : (hT e b c ss ++ l).set (e.k + 1) ⟨n, false, 56, 12, o6 (qA c i v), 0⟩ = hT e b (qA c i v) ss ++ l := by
  subst h
  have hl : (qA c i v).length = c.length := kB
  have : p9 56 12 (qA c i v).length (o6 (qA c i v)) = ⟨c.length, false, 56, 12, o6 (qA c i v), 0⟩ := by rw [fC (yZ (by omega)), hl]
  rw [← this, KP]
theorem app_cpE {b0 b1 b2 : Blk} {es : List Ent} {n : Nat} (hz : es.length = n) (h0 : 0 < n) (hn : n < 1000) : j7 cfg 113 (hT e b c ss ++ (b0 :: b1 :: b2 :: ⟨1, false, 113, 3, [], 0⟩ :: l)) (.own (e.n + 3) 1 0 0) (.vec n (j5 es)) = some (.own (e.n + 3) 2 0 n, hT e b c ss ++ (b0 :: b1 :: b2 :: ⟨2, false, 113, 3, j5 es, 0⟩ :: l)) := by
  subst hz
  have e1 : cfg.sz 113 = 3 := rfl
  have e2 : (cfg.ti 113).bytes = 32 := rfl
  have hm : es.length ≤ maxLen := by
    have : (1000 : Nat) ≤ maxLen := by decide
    omega
  have hb : es.length * 32 ≤ 140737488355328 := by omega
  have h1 : (j5 es).length = es.length * 3 := by rw [p6]; omega
  have h2 : ¬ es.length = 0 := by omega
  have h3 : ¬ es.length * 3 = 0 := by omega
  simp [j7, rd, lenOf, e1, e2, h1, hm, hb, dQ, gE, h0, h2, h3]
theorem app_onE {b0 b1 b2 : Blk} {es : List Ent} {x : BA} {k m : Int} {n : Nat} (hz : es.length = n) (hn : n < 1000) : j7 cfg 113 (hT e b c ss ++ (b0 :: b1 :: b2 :: ⟨2, false, 113, 3, j5 es, 0⟩ :: ⟨1, false, 113, 3, [.str x, .int .i64 k, .int .i64 m], 0⟩ :: l)) (.own (e.n + 3) 2 0 n) (.own (e.n + 4) 1 0 1) = some (.own (e.n + 3) 3 0 (n + 1), hT e b c ss ++ (b0 :: b1 :: b2 :: ⟨3, false, 113, 3, j5 (es ++ [⟨x, k, m⟩]), 0⟩ :: ⟨1, false, 113, 3, [.str x, .int .i64 k, .int .i64 m], 0⟩ :: l)) := by
  subst hz
  have e1 : cfg.sz 113 = 3 := rfl
  have e2 : (cfg.ti 113).bytes = 32 := rfl
  have hm : es.length + 1 ≤ maxLen := by
    have : (1001 : Nat) ≤ maxLen := by decide
    omega
  have hb : (es.length + 1) * 32 ≤ 140737488355328 := by omega
  have h1 : (j5 es).length = es.length * 3 := by rw [p6]; omega
  have ht : List.take (es.length * 3) (j5 es) = j5 es := List.take_of_length_le (by omega)
  have hnl : ¬ (es.length + 1) * 3 ≤ es.length * 3 := by omega
  have hs : j5 (es ++ [⟨x, k, m⟩]) = j5 es ++ [.str x, .int .i64 k, .int .i64 m] := by simp [j5, gX]
  simp [j7, rd, lenOf, e1, e2, h1, hm, hb, ht, hnl, dQ, gE, hs]
end
theorem pB (l : List Ent) : bE (j5 l) := bE.flat fun _ => bE.cons .str (bE.cons .int (bE.cons .int .nil))
theorem stIf_l {s : Sco} {e : Ex} {th : Sl} : (dR s e th).l = s.l := rfl
attribute [local go_sem] rd p6 j8 bI cQ cC aS dM dL s9 bF aP n5 bK Int.natCast_nonneg Int.natCast_inj List.length_map wrap64 bW iM iN I7 yJ A9 I8 wU max2 eP cV bN Nat.reduceMul lR jE gX nV kA sP aB hT_0 hT_2 HN HP dQ sO gE C4 HQ K1 hT_1na hT_pn BL app_cpE app_onE wL sQ sR wM wN oZ wD uD nX stSt_p dH cG mS hU wO stPut_p z5 w5 stTgt_l jF mT finS_l finS_p stIf_l
theorem c_blk1 {e : Frm} {E : Env} {c : Ctx} {vs : List BA} {s : Sco} {l0 : List Ent} (sc : SC E c vs s.l) (bd : Bd E c s.p) {pre rest : Sl} {W : Nat} (B : Bnd s W) (hW : 1 ≤ W) (j : Nat) (hj : j < 24) (hn : vnm j ∉ vs) (a : Ex) (he : GE vs 2 a) : c8 Try.prog cfg (oT [1, 0, 1, 0, 0, 1, 0] (iT Try.f70)) ⟨mkS 253 [(0, AV.ptr e.k 0 0), (1, AV.vec (Go.Un.Sl.len (pre.app (.cons 1 (vnm j) a m8 [] .nil .nil rest))) (n8 (pre.app (.cons 1 (vnm j) a m8 [] .nil .nil rest)))), (4, AV.vec l0.length (j5 l0)), (5, AV.int .i64 ((pre.len : Nat) : Int))], (hT e (s8 e.k s) s.code s.sites)⟩ (Led 253 [(0, AV.ptr e.k 0 0), (1, AV.vec (Go.Un.Sl.len (pre.app (.cons 1 (vnm j) a m8 [] .nil .nil rest))) (n8 (pre.app (.cons 1 (vnm j) a m8 [] .nil .nil rest)))), (4, AV.vec l0.length (j5 l0)), (5, AV.int .i64 ((pre.len : Nat) : Int))] ((hT e (s8 e.k (oY (m9 (aZ s) ⟨1, s.loc, false, eM s.l a, bQ, [], []⟩ s.st) (vnm j))) ((oY (m9 (aZ s) ⟨1, s.loc, false, eM s.l a, bQ, [], []⟩ s.st) (vnm j))).code ((oY (m9 (aZ s) ⟨1, s.loc, false, eM s.l a, bQ, [], []⟩ s.st) (vnm j))).sites))) := by
  obtain ⟨q1, q2, q3, q4, q5, q6, q7, q8⟩ := B
  have hlc := @w6 pre 1 (vnm j) a m8 [] .nil .nil rest
  refine c15z ?_
  refine cO.p (pd := []) 11 ?_
  refine c119z ?_
  refine c8.aD (hT e (s8 e.k (aZ s)) s.code s.sites ++ [⟨0, false, 156, 11, [.int .i64 1, .str (vnm j), .int .i64 a.op, .int .i64 a.num, .str a.name, .vec a.args.length (m7 a.args), .str m8.name, .vec m8.idx.length (m7 m8.idx), .vec (([] : List Ar)).length (bJ ([] : List Ar)), .vec (Go.Un.Sl.len Go.Un.Sl.nil) (n8 Go.Un.Sl.nil), .vec (Go.Un.Sl.len Go.Un.Sl.nil) (n8 Go.Un.Sl.nil)], 0⟩]) rfl ?_
  refine c111z ?_
  refine .T ?_
  refine .seq ?_
  refine c5z ?_
  refine c84z ?_
  refine .cl rfl rfl (fun _ => BH (sc.fr j hj hn) (by omega)) ?_
  refine .p 3 ?_
  refine c53z ?_
  refine .p 1 ?_
  refine c113z ?_
  refine .c7 [0, 1, 4, 5, 6, 7, 9] ?_
  refine .z ?_
  refine c4z ?_
  refine c24z ?_
  refine .ch rfl rfl (dW (Q5 (s := aZ s) t86 s.st sc.var he _)) ?_
  refine .n ?_
  refine .sg z7 (mkG 9 [0, 0, 2, 6, 14, 0, 62, 0, 255] [8] [0, 0, 0, 0, 0, 0, 0, 0, 0] [256, 256, 256, 256, 256, 256, 256, 256, 0] [] [0, 256] []) 0 ?_
  refine u9.aD t19 ?_
  refine .p 4 ?_
  refine .rn [true] ?_
  refine .rn [true] ?_
  refine .p 2 ?_
  refine .cn [true] [256, 0] [_] rfl rfl (by simp only [jL, and_true, List.cons_append, List.nil_append]; exact dW (jG t35 t31 ⟨1, s.loc, false, eM s.l a, bQ, [], []⟩ s.st t18)) ?_
  refine u9.nil rfl ?_
  refine .c7 [0, 1, 4, 5, 6] ?_
  refine .sg z7 (mkG 19 [0, 0, 0, 4, 12, 28, 62, 0, 128, 0, 512, 1536, 3584, 8064, 16256, 32766, 65535, 131071, 262143] [1, 6, 14, 15, 18] [0, 0, 0, 0, 0, 0, 2, 0, 0, 0, 0, 0, 0, 0, 0, 16450, 49218, 49218, 49218] [262144, 294976, 294976, 294976, 294976, 294976, 294912, 311296, 311296, 311296, 311296, 311296, 311296, 311296, 294912, 262144, 262144, 262144, 0] [(1, 0), (14, 1)] [0, 2, 66, 16384, 16386, 16450, 49218, 311362] [0, 1, 2, 3, 4, 5, 6]) 2 ?_
  refine .p 1 ?_
  refine .em [true] [2, 0] [_] ?_
  refine .p 3 ?_
  refine .rm [true, true] ?_
  refine .em [true, false] [66, 2, 0] [_] ?_
  refine .p 1 ?_
  refine .rn [true, true, true] ?_
  refine .p 3 ?_
  refine .rn [true, true, true] ?_
  refine .p 1 ?_
  refine .en [true, true, true] [16450, 16386, 16384, 66, 2, 0] [_, _, _] ?_
  refine .en [true, false, false, false, false, false] [49218, 16450, 16386, 16384, 66, 2, 0] [_] ?_
  refine .p 2 ?_
  refine .en [true, false, false, false, false, false, false] [311362, 49218, 16450, 16386, 16384, 66, 2, 0] [_] ?_
  refine .po [false, false, false, true, false, false, true, false] ?_
  refine .po [false, false, false, true, true, false, true, true] ?_
  refine .po [false, false, false, false, true, false, false, true] ?_
  refine u9.nil rfl ?_
  refine .c7 [0, 1, 4, 5] ?_
  refine c8.O2 (γ := e.n + 3) (β := e.k) (k := 3) (off := 0) (len := s.l.length + 1) (cs := j5 (s.l ++ [⟨vnm j, 4, s.loc⟩])) t65 rfl (by simp only [p6, List.length_append, List.length_cons, List.length_nil]; omega) (by rw [List.drop_zero, List.take_of_length_le (by simp only [p6, List.length_append, List.length_cons, List.length_nil]; omega)]; exact (pB _).QT) (by simp only [HN]; rfl) (by have := e.lt; omega) rfl ?_
  simp only [gE, K1, List.set_cons_succ, List.set_cons_zero]
  refine .rz ?_
  exact .mk _ (by rw [HS]; rfl)
theorem c_blk2 {e : Frm} {E : Env} {c : Ctx} {vs : List BA} {s : Sco} {l0 : List Ent} (sc : SC E c vs s.l) (bd : Bd E c s.p) {pre rest : Sl} {W : Nat} (B : Bnd s W) (hW : 1 ≤ W) (n : BA) (hn : n ∈ vs) (a : Ex) (he : GE vs 2 a) : c8 Try.prog cfg (oT [1, 0, 1, 0, 0, 1, 0] (iT Try.f70)) ⟨mkS 253 [(0, AV.ptr e.k 0 0), (1, AV.vec (Go.Un.Sl.len (pre.app (.cons 2 n a m8 [] .nil .nil rest))) (n8 (pre.app (.cons 2 n a m8 [] .nil .nil rest)))), (4, AV.vec l0.length (j5 l0)), (5, AV.int .i64 ((pre.len : Nat) : Int))], (hT e (s8 e.k s) s.code s.sites)⟩ (Led 253 [(0, AV.ptr e.k 0 0), (1, AV.vec (Go.Un.Sl.len (pre.app (.cons 2 n a m8 [] .nil .nil rest))) (n8 (pre.app (.cons 2 n a m8 [] .nil .nil rest)))), (4, AV.vec l0.length (j5 l0)), (5, AV.int .i64 ((pre.len : Nat) : Int))] ((hT e (s8 e.k (m9 (aZ s) ⟨1, (eK s.l n).n, (eK s.l n).kind == 1, eM s.l a, bQ, [], []⟩ s.st)) ((m9 (aZ s) ⟨1, (eK s.l n).n, (eK s.l n).kind == 1, eM s.l a, bQ, [], []⟩ s.st)).code ((m9 (aZ s) ⟨1, (eK s.l n).n, (eK s.l n).kind == 1, eM s.l a, bQ, [], []⟩ s.st)).sites))) := by
  obtain ⟨q1, q2, q3, q4, q5, q6, q7, q8⟩ := B
  have hlc := @w6 pre 2 n a m8 [] .nil .nil rest
  obtain ⟨v, hv1, hv2⟩ := sc.var n hn
  refine c15z ?_
  refine cO.p (pd := []) 11 ?_
  refine c119z ?_
  refine c8.aD (hT e (s8 e.k (aZ s)) s.code s.sites ++ [⟨0, false, 156, 11, [.int .i64 2, .str n, .int .i64 a.op, .int .i64 a.num, .str a.name, .vec a.args.length (m7 a.args), .str m8.name, .vec m8.idx.length (m7 m8.idx), .vec (([] : List Ar)).length (bJ ([] : List Ar)), .vec (Go.Un.Sl.len Go.Un.Sl.nil) (n8 Go.Un.Sl.nil), .vec (Go.Un.Sl.len Go.Un.Sl.nil) (n8 Go.Un.Sl.nil)], 0⟩]) rfl ?_
  refine c111z ?_
  refine c117z ?_
  refine c24z ?_
  refine .ch rfl rfl (dW (c_var (s := aZ s) t86 s.st hv1 hv2)) ?_
  refine .n ?_
  refine .c7 [0, 1, 4, 5, 6, 7, 11] ?_
  refine .og z7 (mkG 14 [0, 0, 2, 0, 8, 24, 0, 0, 128, 0, 960, 2046, 0, 8191] [10, 13] [0, 0, 0, 0, 0, 0, 0, 0, 0, 0, 0, 1024, 0, 1024] [8192, 8192, 8192, 8192, 8192, 8192, 9216, 9216, 9216, 9216, 8192, 8192, 8192, 0] [] [0, 1024, 9216] [0, 1, 2, 3, 4, 5]) 0 ?_
  refine u9.aD t19 ?_
  refine .p 2 ?_
  refine c84z ?_
  refine .p 3 ?_
  refine .rn [true] ?_
  refine .p 1 ?_
  refine .cn [true] [1024, 0] [_] rfl rfl (by simp only [jL, and_true, List.cons_append, List.nil_append]; exact dW (Q5 (s := aZ s) t86 s.st sc.var he _)) ?_
  refine .p 2 ?_
  refine .cn [true, false] [9216, 1024, 0] [_] rfl rfl (by simp only [jL, and_true, List.cons_append, List.nil_append]; exact dW (jG t35 t31 ⟨1, v.n, v.kind == 1, eM s.l a, bQ, [], []⟩ s.st t18)) ?_
  refine c113z ?_
  exact .mk _ (by rw [dN hv1])
theorem c_blk3 {e : Frm} {E : Env} {c : Ctx} {vs : List BA} {s : Sco} {l0 : List Ent} (sc : SC E c vs s.l) (bd : Bd E c s.p) {pre rest : Sl} {W : Nat} (B : Bnd s W) (hW : 1 ≤ W) (f : BA × List Pm) (hf : f ∈ E.funcs) (xs : List Ar) (ha : GAs E vs f.2 xs) : c8 Try.prog cfg (oT [1, 0, 1, 0, 0, 1, 0] (iT Try.f70)) ⟨mkS 253 [(0, AV.ptr e.k 0 0), (1, AV.vec (Go.Un.Sl.len (pre.app (.cons 3 f.1 l3 m8 xs .nil .nil rest))) (n8 (pre.app (.cons 3 f.1 l3 m8 xs .nil .nil rest)))), (4, AV.vec l0.length (j5 l0)), (5, AV.int .i64 ((pre.len : Nat) : Int))], (hT e (s8 e.k s) s.code s.sites)⟩ (Led 253 [(0, AV.ptr e.k 0 0), (1, AV.vec (Go.Un.Sl.len (pre.app (.cons 3 f.1 l3 m8 xs .nil .nil rest))) (n8 (pre.app (.cons 3 f.1 l3 m8 xs .nil .nil rest)))), (4, AV.vec l0.length (j5 l0)), (5, AV.int .i64 ((pre.len : Nat) : Int))] ((hT e (s8 e.k (m9 (aZ s) ⟨2, (eK s.l f.1).n, false, l3, bQ, aT s.l xs, z8 s.l xs⟩ s.st)) ((m9 (aZ s) ⟨2, (eK s.l f.1).n, false, l3, bQ, aT s.l xs, z8 s.l xs⟩ s.st)).code ((m9 (aZ s) ⟨2, (eK s.l f.1).n, false, l3, bQ, aT s.l xs, z8 s.l xs⟩ s.st)).sites))) := by
  obtain ⟨q1, q2, q3, q4, q5, q6, q7, q8⟩ := B
  have hlc := @w6 pre 3 f.1 l3 m8 xs .nil .nil rest
  obtain ⟨⟨fy, fk, fn⟩, hf1, hfk, hf5, hf6, hf7⟩ := sc.fn f hf
  simp only at hfk hf5 hf6 hf7
  subst hfk
  have hf2 : 0 ≤ fn ∧ fn < s.p.funcs.length := by rw [bd.hf, List.length_map] at hf6; exact ⟨hf5, hf6⟩
  have hf3 : (s.p.funcs.getD fn.toNat j4).params = f.2 := by rw [bd.hf, getD_map (d' := j4) (by omega)] at hf7; rw [← hf7]
  have hf4 := bd.fp f hf
  refine c15z ?_
  refine cO.p (pd := []) 11 ?_
  refine c119z ?_
  refine c8.aD (hT e (s8 e.k (aZ s)) s.code s.sites ++ [⟨0, false, 156, 11, [.int .i64 3, .str f.1, .int .i64 l3.op, .int .i64 l3.num, .str l3.name, .vec l3.args.length (m7 l3.args), .str m8.name, .vec m8.idx.length (m7 m8.idx), .vec (xs).length (bJ xs), .vec (Go.Un.Sl.len Go.Un.Sl.nil) (n8 Go.Un.Sl.nil), .vec (Go.Un.Sl.len Go.Un.Sl.nil) (n8 Go.Un.Sl.nil)], 0⟩]) rfl ?_
  refine c146z ?_
  refine c10z ?_
  refine .T ?_
  refine c142z ?_
  refine .ch rfl rfl (dW (c_call3 (s := aZ s) t86 s.st sc bd.hE bd.hc hf1 hf2 hf3 hf4 ha)) ?_
  refine .e 1 ?_
  refine .ch rfl rfl (dW (jG t35 t31 ⟨2, fn, false, l3, bQ, aT s.l xs, z8 s.l xs⟩ s.st t18)) ?_
  refine .nil ?_
  exact .mk _ (by rw [dN hf1])
theorem c_blk4 {e : Frm} {E : Env} {c : Ctx} {vs : List BA} {s : Sco} {l0 : List Ent} (sc : SC E c vs s.l) (bd : Bd E c s.p) {pre rest : Sl} {W : Nat} (B : Bnd s W) (hW : 1 ≤ W) (f : BA × List Pm) (hf : f ∈ E.funcs) (xs : List Ar) (ha : GAs E vs f.2 xs) : c8 Try.prog cfg (oT [1, 0, 1, 0, 0, 1, 0] (iT Try.f70)) ⟨mkS 253 [(0, AV.ptr e.k 0 0), (1, AV.vec (Go.Un.Sl.len (pre.app (.cons 4 f.1 l3 m8 xs .nil .nil rest))) (n8 (pre.app (.cons 4 f.1 l3 m8 xs .nil .nil rest)))), (4, AV.vec l0.length (j5 l0)), (5, AV.int .i64 ((pre.len : Nat) : Int))], (hT e (s8 e.k s) s.code s.sites)⟩ (Led 253 [(0, AV.ptr e.k 0 0), (1, AV.vec (Go.Un.Sl.len (pre.app (.cons 4 f.1 l3 m8 xs .nil .nil rest))) (n8 (pre.app (.cons 4 f.1 l3 m8 xs .nil .nil rest)))), (4, AV.vec l0.length (j5 l0)), (5, AV.int .i64 ((pre.len : Nat) : Int))] ((hT e (s8 e.k (m9 (aZ s) ⟨3, (eK s.l f.1).n, false, l3, bQ, aT s.l xs, z8 s.l xs⟩ s.st)) ((m9 (aZ s) ⟨3, (eK s.l f.1).n, false, l3, bQ, aT s.l xs, z8 s.l xs⟩ s.st)).code ((m9 (aZ s) ⟨3, (eK s.l f.1).n, false, l3, bQ, aT s.l xs, z8 s.l xs⟩ s.st)).sites))) := by
  obtain ⟨q1, q2, q3, q4, q5, q6, q7, q8⟩ := B
  have hlc := @w6 pre 4 f.1 l3 m8 xs .nil .nil rest
  obtain ⟨⟨fy, fk, fn⟩, hf1, hfk, hf5, hf6, hf7⟩ := sc.fn f hf
  simp only at hfk hf5 hf6 hf7
  subst hfk
  have hf2 : 0 ≤ fn ∧ fn < s.p.funcs.length := by rw [bd.hf, List.length_map] at hf6; exact ⟨hf5, hf6⟩
  have hf3 : (s.p.funcs.getD fn.toNat j4).params = f.2 := by rw [bd.hf, getD_map (d' := j4) (by omega)] at hf7; rw [← hf7]
  have hf4 := bd.fp f hf
  refine c15z ?_
  refine cO.p (pd := []) 11 ?_
  refine c119z ?_
  refine c8.aD (hT e (s8 e.k (aZ s)) s.code s.sites ++ [⟨0, false, 156, 11, [.int .i64 4, .str f.1, .int .i64 l3.op, .int .i64 l3.num, .str l3.name, .vec l3.args.length (m7 l3.args), .str m8.name, .vec m8.idx.length (m7 m8.idx), .vec (xs).length (bJ xs), .vec (Go.Un.Sl.len Go.Un.Sl.nil) (n8 Go.Un.Sl.nil), .vec (Go.Un.Sl.len Go.Un.Sl.nil) (n8 Go.Un.Sl.nil)], 0⟩]) rfl ?_
  refine c150z ?_
  refine .T ?_
  refine .c7 [0, 1, 4, 5, 6, 7] ?_
  refine c142z ?_
  refine .ch rfl rfl (dW (c_call4 (s := aZ s) t86 s.st sc bd.hE bd.hc hf1 hf2 hf3 hf4 ha)) ?_
  refine .e 1 ?_
  refine .ch rfl rfl (dW (jG t35 t31 ⟨3, fn, false, l3, bQ, aT s.l xs, z8 s.l xs⟩ s.st t18)) ?_
  refine .nil ?_
  exact .mk _ (by rw [dN hf1])
theorem c_blk5 {e : Frm} {E : Env} {c : Ctx} {vs : List BA} {s : Sco} {l0 : List Ent} (sc : SC E c vs s.l) (bd : Bd E c s.p) {pre rest : Sl} {W : Nat} (B : Bnd s W) (hW : 1 ≤ W) (r : Rf) (hR : GR E vs r) : c8 Try.prog cfg (oT [1, 0, 1, 0, 0, 1, 0] (iT Try.f70)) ⟨mkS 253 [(0, AV.ptr e.k 0 0), (1, AV.vec (Go.Un.Sl.len (pre.app (.cons 5 ByteArray.empty l3 r [] .nil .nil rest))) (n8 (pre.app (.cons 5 ByteArray.empty l3 r [] .nil .nil rest)))), (4, AV.vec l0.length (j5 l0)), (5, AV.int .i64 ((pre.len : Nat) : Int))], (hT e (s8 e.k s) s.code s.sites)⟩ (Led 253 [(0, AV.ptr e.k 0 0), (1, AV.vec (Go.Un.Sl.len (pre.app (.cons 5 ByteArray.empty l3 r [] .nil .nil rest))) (n8 (pre.app (.cons 5 ByteArray.empty l3 r [] .nil .nil rest)))), (4, AV.vec l0.length (j5 l0)), (5, AV.int .i64 ((pre.len : Nat) : Int))] ((hT e (s8 e.k (m9 (aZ s) ⟨4, 0, false, l3, oV s.l r, [], []⟩ s.st)) ((m9 (aZ s) ⟨4, 0, false, l3, oV s.l r, [], []⟩ s.st)).code ((m9 (aZ s) ⟨4, 0, false, l3, oV s.l r, [], []⟩ s.st)).sites))) := by
  obtain ⟨q1, q2, q3, q4, q5, q6, q7, q8⟩ := B
  have hlc := @w6 pre 5 ByteArray.empty l3 r [] .nil .nil rest
  refine c15z ?_
  refine cO.p (pd := []) 11 ?_
  refine c119z ?_
  refine c8.aD (hT e (s8 e.k (aZ s)) s.code s.sites ++ [⟨0, false, 156, 11, [.int .i64 5, .str ByteArray.empty, .int .i64 l3.op, .int .i64 l3.num, .str l3.name, .vec l3.args.length (m7 l3.args), .str r.name, .vec r.idx.length (m7 r.idx), .vec (([] : List Ar)).length (bJ ([] : List Ar)), .vec (Go.Un.Sl.len Go.Un.Sl.nil) (n8 Go.Un.Sl.nil), .vec (Go.Un.Sl.len Go.Un.Sl.nil) (n8 Go.Un.Sl.nil)], 0⟩]) rfl ?_
  refine c150z ?_
  refine c117z ?_
  refine .c7 [0, 1, 4, 5, 6, 7] ?_
  refine .r ?_
  refine .e 5 ?_
  refine .ch rfl rfl (dW (BK (s := aZ s) t86 s.st sc bd.hE bd.hc hR)) ?_
  refine .e 2 ?_
  refine .ch rfl rfl (dW (jG t35 t31 ⟨4, 0, false, l3, oV s.l r, [], []⟩ s.st t18)) ?_
  refine .nil ?_
  exact .mk _ rfl
theorem c_blk6 {e : Frm} {E : Env} {c : Ctx} {vs : List BA} {s : Sco} {l0 : List Ent} (sc : SC E c vs s.l) (bd : Bd E c s.p) {pre rest : Sl} {W : Nat} (B : Bnd s W) (hW : 1 ≤ W) (r : Rf) (hR : GR E vs r) : c8 Try.prog cfg (oT [1, 0, 1, 0, 0, 1, 0] (iT Try.f70)) ⟨mkS 253 [(0, AV.ptr e.k 0 0), (1, AV.vec (Go.Un.Sl.len (pre.app (.cons 6 ByteArray.empty l3 r [] .nil .nil rest))) (n8 (pre.app (.cons 6 ByteArray.empty l3 r [] .nil .nil rest)))), (4, AV.vec l0.length (j5 l0)), (5, AV.int .i64 ((pre.len : Nat) : Int))], (hT e (s8 e.k s) s.code s.sites)⟩ (Led 253 [(0, AV.ptr e.k 0 0), (1, AV.vec (Go.Un.Sl.len (pre.app (.cons 6 ByteArray.empty l3 r [] .nil .nil rest))) (n8 (pre.app (.cons 6 ByteArray.empty l3 r [] .nil .nil rest)))), (4, AV.vec l0.length (j5 l0)), (5, AV.int .i64 ((pre.len : Nat) : Int))] ((hT e (s8 e.k (m9 (aZ s) ⟨5, 0, false, l3, oV s.l r, [], []⟩ s.st)) ((m9 (aZ s) ⟨5, 0, false, l3, oV s.l r, [], []⟩ s.st)).code ((m9 (aZ s) ⟨5, 0, false, l3, oV s.l r, [], []⟩ s.st)).sites))) := by
  obtain ⟨q1, q2, q3, q4, q5, q6, q7, q8⟩ := B
  have hlc := @w6 pre 6 ByteArray.empty l3 r [] .nil .nil rest
  refine c15z ?_
  refine cO.p (pd := []) 11 ?_
  refine c119z ?_
  refine c8.aD (hT e (s8 e.k (aZ s)) s.code s.sites ++ [⟨0, false, 156, 11, [.int .i64 6, .str ByteArray.empty, .int .i64 l3.op, .int .i64 l3.num, .str l3.name, .vec l3.args.length (m7 l3.args), .str r.name, .vec r.idx.length (m7 r.idx), .vec (([] : List Ar)).length (bJ ([] : List Ar)), .vec (Go.Un.Sl.len Go.Un.Sl.nil) (n8 Go.Un.Sl.nil), .vec (Go.Un.Sl.len Go.Un.Sl.nil) (n8 Go.Un.Sl.nil)], 0⟩]) rfl ?_
  refine c150z ?_
  refine c51z ?_
  refine c29z ?_
  refine .T ?_
  refine .r ?_
  refine .e 5 ?_
  refine .ch rfl rfl (dW (BK (s := aZ s) t86 s.st sc bd.hE bd.hc hR)) ?_
  refine .e 2 ?_
  refine .ch rfl rfl (dW (jG t35 t31 ⟨5, 0, false, l3, oV s.l r, [], []⟩ s.st t18)) ?_
  refine .nil ?_
  exact .mk _ rfl
theorem c_blk7 {e : Frm} {E : Env} {c : Ctx} {vs : List BA} {s : Sco} {l0 : List Ent} (sc : SC E c vs s.l) (bd : Bd E c s.p) {pre rest : Sl} {W : Nat} (B : Bnd s W) (a : Ex) (he : GE vs 2 a) (th : Sl) (hW : 1 + th.wt ≤ W) (ith : (∀ s' : Sco, SC E c vs s'.l → s'.p = s.p → Bnd s' th.wt → ∀ e : Frm, CallA Try.prog cfg 70 [.ptr e.k 0 0, .vec th.len (n8 th)] (hT e (s8 e.k s') (s').code (s').sites) (fun y' h' => y' = .tup [] ∧ h' = (hT e (s8 e.k (cS s'.l s' th)) ((cS s'.l s' th)).code ((cS s'.l s' th)).sites)))) : c8 Try.prog cfg (oT [1, 0, 1, 0, 0, 1, 0] (iT Try.f70)) ⟨mkS 253 [(0, AV.ptr e.k 0 0), (1, AV.vec (Go.Un.Sl.len (pre.app (.cons 7 ByteArray.empty a m8 [] th .nil rest))) (n8 (pre.app (.cons 7 ByteArray.empty a m8 [] th .nil rest)))), (4, AV.vec l0.length (j5 l0)), (5, AV.int .i64 ((pre.len : Nat) : Int))], (hT e (s8 e.k s) s.code s.sites)⟩ (Led 253 [(0, AV.ptr e.k 0 0), (1, AV.vec (Go.Un.Sl.len (pre.app (.cons 7 ByteArray.empty a m8 [] th .nil rest))) (n8 (pre.app (.cons 7 ByteArray.empty a m8 [] th .nil rest)))), (4, AV.vec l0.length (j5 l0)), (5, AV.int .i64 ((pre.len : Nat) : Int))] ((hT e (s8 e.k (cN (dR s a th) s.code.length ((dR s a th).code.length : Int))) ((cN (dR s a th) s.code.length ((dR s a th).code.length : Int))).code ((cN (dR s a th) s.code.length ((dR s a th).code.length : Int))).sites))) := by
  obtain ⟨q1, q2, q3, q4, q5, q6, q7, q8⟩ := B
  have hlc := @w6 pre 7 ByteArray.empty a m8 [] th .nil rest
  refine c15z ?_
  refine cO.p (pd := []) 11 ?_
  refine c119z ?_
  refine c8.aD (hT e (s8 e.k (aZ s)) s.code s.sites ++ [⟨0, false, 156, 11, [.int .i64 7, .str ByteArray.empty, .int .i64 a.op, .int .i64 a.num, .str a.name, .vec a.args.length (m7 a.args), .str m8.name, .vec m8.idx.length (m7 m8.idx), .vec (([] : List Ar)).length (bJ ([] : List Ar)), .vec (Go.Un.Sl.len th) (n8 th), .vec (Go.Un.Sl.len Go.Un.Sl.nil) (n8 Go.Un.Sl.nil)], 0⟩]) rfl ?_
  refine c150z ?_
  refine c51z ?_
  refine c29z ?_
  refine c117z ?_
  refine c31z ?_
  refine .ch rfl rfl (dW (Q5 (s := aZ s) t86 s.st sc.var he _)) ?_
  refine .e 2 ?_
  refine .ch rfl rfl (dW (jG t35 t31 ⟨6, 0, false, eM s.l a, bQ, [], []⟩ s.st t18)) ?_
  refine .n ?_
  refine .c7 [0, 1, 4, 5, 6, 7, 12] ?_
  have b1 : Bnd (m9 (aZ s) ⟨6, 0, false, eM s.l a, bQ, [], []⟩ s.st) th.wt := ⟨q1, by rw [mS, uD]; omega, by rw [z5, dH]; omega, by rw [w5, cG]; omega, q5, by rw [hU, nX]; omega, by show 0 ≤ s.st + 1; omega, by show s.st + 1 + _ ≤ _; omega⟩
  refine c20z ?_
  refine .ch rfl rfl (dW (ith (m9 (aZ s) ⟨6, 0, false, eM s.l a, bQ, [], []⟩ s.st) sc rfl b1 _)) ?_
  refine .nil ?_
  have fc := hY (l0 := s.l) (s := m9 (aZ s) ⟨6, 0, false, eM s.l a, bQ, [], []⟩ s.st) (S := th)
  have fs := gT (l0 := s.l) (s := m9 (aZ s) ⟨6, 0, false, eM s.l a, bQ, [], []⟩ s.st) (S := th)
  rw [z5, dH] at fc
  rw [w5, cG] at fs
  change _ ≤ (dR s a th).code.length ∧ (dR s a th).code.length ≤ _ at fc
  change _ ≤ (dR s a th).sites.length ∧ (dR s a th).sites.length ≤ _ at fs
  change c8 _ _ _ ⟨mkS _ _, hT e (s8 e.k (dR s a th)) (dR s a th).code (dR s a th).sites ++ _⟩ _
  refine .z ?_
  refine .F ?_
  refine .c7 [0, 1, 4, 5, 12] ?_
  refine c38z ?_
  refine c151z ?_
  refine c85z ?_
  refine c127z ?_
  exact .mk _ (by rw [qY]; rfl)
theorem c_blk17 {e : Frm} {E : Env} {c : Ctx} {vs : List BA} {s : Sco} {l0 : List Ent} (sc : SC E c vs s.l) (bd : Bd E c s.p) {pre rest : Sl} {W : Nat} (B : Bnd s W) (a : Ex) (he : GE vs 2 a) (th el : Sl) (hel : 0 < el.len) (hW : 1 + th.wt + el.wt ≤ W) (ith : (∀ s' : Sco, SC E c vs s'.l → s'.p = s.p → Bnd s' th.wt → ∀ e : Frm, CallA Try.prog cfg 70 [.ptr e.k 0 0, .vec th.len (n8 th)] (hT e (s8 e.k s') (s').code (s').sites) (fun y' h' => y' = .tup [] ∧ h' = (hT e (s8 e.k (cS s'.l s' th)) ((cS s'.l s' th)).code ((cS s'.l s' th)).sites)))) (iel : (∀ s' : Sco, SC E c vs s'.l → s'.p = s.p → Bnd s' el.wt → ∀ e : Frm, CallA Try.prog cfg 70 [.ptr e.k 0 0, .vec el.len (n8 el)] (hT e (s8 e.k s') (s').code (s').sites) (fun y' h' => y' = .tup [] ∧ h' = (hT e (s8 e.k (cS s'.l s' el)) ((cS s'.l s' el)).code ((cS s'.l s' el)).sites)))) : c8 Try.prog cfg (oT [1, 0, 1, 0, 0, 1, 0] (iT Try.f70)) ⟨mkS 253 [(0, AV.ptr e.k 0 0), (1, AV.vec (Go.Un.Sl.len (pre.app (.cons 7 ByteArray.empty a m8 [] th el rest))) (n8 (pre.app (.cons 7 ByteArray.empty a m8 [] th el rest)))), (4, AV.vec l0.length (j5 l0)), (5, AV.int .i64 ((pre.len : Nat) : Int))], (hT e (s8 e.k s) s.code s.sites)⟩ (Led 253 [(0, AV.ptr e.k 0 0), (1, AV.vec (Go.Un.Sl.len (pre.app (.cons 7 ByteArray.empty a m8 [] th el rest))) (n8 (pre.app (.cons 7 ByteArray.empty a m8 [] th el rest)))), (4, AV.vec l0.length (j5 l0)), (5, AV.int .i64 ((pre.len : Nat) : Int))] ((hT e (s8 e.k (cN (dS s a th el) (dR s a th).code.length ((dS s a th el).code.length : Int))) ((cN (dS s a th el) (dR s a th).code.length ((dS s a th el).code.length : Int))).code ((cN (dS s a th el) (dR s a th).code.length ((dS s a th el).code.length : Int))).sites))) := by
  obtain ⟨q1, q2, q3, q4, q5, q6, q7, q8⟩ := B
  have hlc := @w6 pre 7 ByteArray.empty a m8 [] th el rest
  refine c15z ?_
  refine cO.p (pd := []) 11 ?_
  refine c119z ?_
  refine c8.aD (hT e (s8 e.k (aZ s)) s.code s.sites ++ [⟨0, false, 156, 11, [.int .i64 7, .str ByteArray.empty, .int .i64 a.op, .int .i64 a.num, .str a.name, .vec a.args.length (m7 a.args), .str m8.name, .vec m8.idx.length (m7 m8.idx), .vec (([] : List Ar)).length (bJ ([] : List Ar)), .vec (Go.Un.Sl.len th) (n8 th), .vec (Go.Un.Sl.len el) (n8 el)], 0⟩]) rfl ?_
  refine c150z ?_
  refine c51z ?_
  refine c29z ?_
  refine c117z ?_
  refine c31z ?_
  refine .ch rfl rfl (dW (Q5 (s := aZ s) t86 s.st sc.var he _)) ?_
  refine .e 2 ?_
  refine .ch rfl rfl (dW (jG t35 t31 ⟨6, 0, false, eM s.l a, bQ, [], []⟩ s.st t18)) ?_
  refine .n ?_
  refine .c7 [0, 1, 4, 5, 6, 7, 12] ?_
  have b1 : Bnd (m9 (aZ s) ⟨6, 0, false, eM s.l a, bQ, [], []⟩ s.st) th.wt := ⟨q1, by rw [mS, uD]; omega, by rw [z5, dH]; omega, by rw [w5, cG]; omega, q5, by rw [hU, nX]; omega, by show 0 ≤ s.st + 1; omega, by show s.st + 1 + _ ≤ _; omega⟩
  refine c20z ?_
  refine .ch rfl rfl (dW (ith (m9 (aZ s) ⟨6, 0, false, eM s.l a, bQ, [], []⟩ s.st) sc rfl b1 _)) ?_
  refine .nil ?_
  have fc := hY (l0 := s.l) (s := m9 (aZ s) ⟨6, 0, false, eM s.l a, bQ, [], []⟩ s.st) (S := th)
  have fs := gT (l0 := s.l) (s := m9 (aZ s) ⟨6, 0, false, eM s.l a, bQ, [], []⟩ s.st) (S := th)
  rw [z5, dH] at fc
  rw [w5, cG] at fs
  change _ ≤ (dR s a th).code.length ∧ (dR s a th).code.length ≤ _ at fc
  change _ ≤ (dR s a th).sites.length ∧ (dR s a th).sites.length ≤ _ at fs
  change c8 _ _ _ ⟨mkS _ _, hT e (s8 e.k (dR s a th)) (dR s a th).code (dR s a th).sites ++ _⟩ _
  refine .z ?_
  refine .spl 172 rfl rfl (fun e1 => ?_) (fun e1 => by exfalso; have q := fact e1; omega)
  try simp only [e1]
  have qe1 := fact e1
  refine .T ?_
  refine .c7 [0, 1, 4, 5, 6, 7, 12] ?_
  refine c20z ?_
  refine .ch rfl rfl (dW (jG t35 t31 ⟨7, 0, false, l3, bQ, [], []⟩ s.st t18)) ?_
  refine .n ?_
  change c8 _ _ _ ⟨mkS _ _, hT e (s8 e.k (stJ s a th)) (stJ s a th).code (stJ s a th).sites ++ _⟩ _
  have jc : (stJ s a th).code.length = (dR s a th).code.length + 1 := z5
  have js : (stJ s a th).sites.length = (dR s a th).sites.length + 1 := w5
  refine .sg z7 (mkG 13 [0, 1, 3, 7, 0, 0, 32, 96, 224, 480, 1023, 2047, 4095] [12] [0, 0, 0, 0, 0, 0, 0, 0, 0, 0, 0, 0, 0] [4096, 4096, 4096, 4096, 4096, 4096, 4096, 4096, 4096, 4096, 4096, 4096, 0] [] [0, 4096] []) 0 ?_
  refine .p 3 ?_
  refine c151z ?_
  refine c85z ?_
  refine c127z ?_
  refine .c7 [0, 1, 4, 5, 6, 13] ?_
  refine c8.aD (hT e (s8 e.k (cN (stJ s a th) s.code.length ((stJ s a th).code.length : Int))) (cN (stJ s a th) s.code.length ((stJ s a th).code.length : Int)).code (cN (stJ s a th) s.code.length ((stJ s a th).code.length : Int)).sites ++ [_]) (by rw [qY]; rfl) ?_
  have lb := pQ th s.loc
  have b2 : Bnd (cN (stJ s a th) s.code.length ((stJ s a th).code.length : Int)) el.wt := ⟨q1, by show s.l.length + _ ≤ _; omega, by rw [jF, jc]; omega, by rw [mT, js]; omega, by show 0 ≤ fF th s.loc; omega, by show fF th s.loc + _ ≤ _; omega, by show 0 ≤ s.st + 1 + (th.wt : Int); omega, by show s.st + 1 + (th.wt : Int) + _ ≤ _; omega⟩
  refine c20z ?_
  refine .ch rfl rfl (dW (iel (cN (stJ s a th) s.code.length ((stJ s a th).code.length : Int)) sc rfl b2 _)) ?_
  refine .nil ?_
  have ec : (stJ s a th).code.length ≤ (dS s a th el).code.length ∧ (dS s a th el).code.length ≤ (stJ s a th).code.length + 2 * el.wt := by have h0 := hY (l0 := s.l) (s := (cN (stJ s a th) s.code.length ((stJ s a th).code.length : Int))) (S := el); rw [jF] at h0; exact h0
  change c8 _ _ _ ⟨mkS _ _, hT e (s8 e.k (dS s a th el)) (dS s a th el).code (dS s a th el).sites ++ _⟩ _
  refine c38z ?_
  refine c151z ?_
  refine c85z ?_
  refine c127z ?_
  exact .mk _ (by rw [qY]; rfl)
theorem c_blk8 {e : Frm} {E : Env} {c : Ctx} {vs : List BA} {s : Sco} {l0 : List Ent} (sc : SC E c vs s.l) (bd : Bd E c s.p) {pre rest : Sl} {W : Nat} (B : Bnd s W) (a : Ex) (he : GE vs 2 a) (th : Sl) (hW : 1 + th.wt ≤ W) (ith : (∀ s' : Sco, SC E c vs s'.l → s'.p = s.p → Bnd s' th.wt → ∀ e : Frm, CallA Try.prog cfg 70 [.ptr e.k 0 0, .vec th.len (n8 th)] (hT e (s8 e.k s') (s').code (s').sites) (fun y' h' => y' = .tup [] ∧ h' = (hT e (s8 e.k (cS s'.l s' th)) ((cS s'.l s' th)).code ((cS s'.l s' th)).sites)))) : c8 Try.prog cfg (oT [1, 0, 1, 0, 0, 1, 0] (iT Try.f70)) ⟨mkS 253 [(0, AV.ptr e.k 0 0), (1, AV.vec (Go.Un.Sl.len (pre.app (.cons 8 ByteArray.empty a m8 [] th .nil rest))) (n8 (pre.app (.cons 8 ByteArray.empty a m8 [] th .nil rest)))), (4, AV.vec l0.length (j5 l0)), (5, AV.int .i64 ((pre.len : Nat) : Int))], (hT e (s8 e.k s) s.code s.sites)⟩ (Led 253 [(0, AV.ptr e.k 0 0), (1, AV.vec (Go.Un.Sl.len (pre.app (.cons 8 ByteArray.empty a m8 [] th .nil rest))) (n8 (pre.app (.cons 8 ByteArray.empty a m8 [] th .nil rest)))), (4, AV.vec l0.length (j5 l0)), (5, AV.int .i64 ((pre.len : Nat) : Int))] ((hT e (s8 e.k (cN (wV s a th) s.code.length ((wV s a th).code.length : Int))) ((cN (wV s a th) s.code.length ((wV s a th).code.length : Int))).code ((cN (wV s a th) s.code.length ((wV s a th).code.length : Int))).sites))) := by
  obtain ⟨q1, q2, q3, q4, q5, q6, q7, q8⟩ := B
  have hlc := @w6 pre 8 ByteArray.empty a m8 [] th .nil rest
  refine c15z ?_
  refine cO.p (pd := []) 11 ?_
  refine c119z ?_
  refine c8.aD (hT e (s8 e.k (aZ s)) s.code s.sites ++ [⟨0, false, 156, 11, [.int .i64 8, .str ByteArray.empty, .int .i64 a.op, .int .i64 a.num, .str a.name, .vec a.args.length (m7 a.args), .str m8.name, .vec m8.idx.length (m7 m8.idx), .vec (([] : List Ar)).length (bJ ([] : List Ar)), .vec (Go.Un.Sl.len th) (n8 th), .vec (Go.Un.Sl.len Go.Un.Sl.nil) (n8 Go.Un.Sl.nil)], 0⟩]) rfl ?_
  refine c150z ?_
  refine c51z ?_
  refine c29z ?_
  refine c14z ?_
  refine c117z ?_
  refine c31z ?_
  refine .ch rfl rfl (dW (Q5 (s := aZ s) t86 s.st sc.var he _)) ?_
  refine .e 2 ?_
  refine .ch rfl rfl (dW (jG t35 t31 ⟨6, 0, false, eM s.l a, bQ, [], []⟩ s.st t18)) ?_
  refine .n ?_
  refine .c7 [0, 1, 4, 5, 6, 7, 14] ?_
  have b1 : Bnd (m9 (aZ s) ⟨6, 0, false, eM s.l a, bQ, [], []⟩ s.st) th.wt := ⟨q1, by rw [mS, uD]; omega, by rw [z5, dH]; omega, by rw [w5, cG]; omega, q5, by rw [hU, nX]; omega, by show 0 ≤ s.st + 1; omega, by show s.st + 1 + _ ≤ _; omega⟩
  refine c20z ?_
  refine .ch rfl rfl (dW (ith (m9 (aZ s) ⟨6, 0, false, eM s.l a, bQ, [], []⟩ s.st) sc rfl b1 _)) ?_
  refine .nil ?_
  have fc := hY (l0 := s.l) (s := m9 (aZ s) ⟨6, 0, false, eM s.l a, bQ, [], []⟩ s.st) (S := th)
  have fs := gT (l0 := s.l) (s := m9 (aZ s) ⟨6, 0, false, eM s.l a, bQ, [], []⟩ s.st) (S := th)
  rw [z5, dH] at fc
  rw [w5, cG] at fs
  change _ ≤ (dR s a th).code.length ∧ (dR s a th).code.length ≤ _ at fc
  change _ ≤ (dR s a th).sites.length ∧ (dR s a th).sites.length ≤ _ at fs
  change c8 _ _ _ ⟨mkS _ _, hT e (s8 e.k (dR s a th)) (dR s a th).code (dR s a th).sites ++ _⟩ _
  refine c24z ?_
  refine .ch rfl rfl (dW (jG t35 t31 ⟨7, ((s.code.length : Nat) : Int), false, l3, bQ, [], []⟩ s.st t18)) ?_
  refine .nil ?_
  refine .c7 [0, 1, 4, 5, 14] ?_
  change c8 _ _ _ ⟨mkS _ _, hT e (s8 e.k (wV s a th)) (wV s a th).code (wV s a th).sites ++ _⟩ _
  have jc : (wV s a th).code.length = (dR s a th).code.length + 1 := z5
  refine c38z ?_
  refine c151z ?_
  refine c85z ?_
  refine c127z ?_
  exact .mk _ (by rw [qY]; rfl)
theorem c_blk9 {e : Frm} {E : Env} {c : Ctx} {vs : List BA} {s : Sco} {l0 : List Ent} (sc : SC E c vs s.l) (bd : Bd E c s.p) {pre rest : Sl} {W : Nat} (B : Bnd s W) (hW : 1 ≤ W) : c8 Try.prog cfg (oT [1, 0, 1, 0, 0, 1, 0] (iT Try.f70)) ⟨mkS 253 [(0, AV.ptr e.k 0 0), (1, AV.vec (Go.Un.Sl.len (pre.app (.cons 9 ByteArray.empty l3 m8 [] .nil .nil rest))) (n8 (pre.app (.cons 9 ByteArray.empty l3 m8 [] .nil .nil rest)))), (4, AV.vec l0.length (j5 l0)), (5, AV.int .i64 ((pre.len : Nat) : Int))], (hT e (s8 e.k s) s.code s.sites)⟩ (Led 253 [(0, AV.ptr e.k 0 0), (1, AV.vec (Go.Un.Sl.len (pre.app (.cons 9 ByteArray.empty l3 m8 [] .nil .nil rest))) (n8 (pre.app (.cons 9 ByteArray.empty l3 m8 [] .nil .nil rest)))), (4, AV.vec l0.length (j5 l0)), (5, AV.int .i64 ((pre.len : Nat) : Int))] ((hT e (s8 e.k (m9 (aZ s) ⟨8, 0, false, l3, bQ, [], []⟩ s.st)) ((m9 (aZ s) ⟨8, 0, false, l3, bQ, [], []⟩ s.st)).code ((m9 (aZ s) ⟨8, 0, false, l3, bQ, [], []⟩ s.st)).sites))) := by
  obtain ⟨q1, q2, q3, q4, q5, q6, q7, q8⟩ := B
  have hlc := @w6 pre 9 ByteArray.empty l3 m8 [] .nil .nil rest
  refine c15z ?_
  refine cO.p (pd := []) 11 ?_
  refine c119z ?_
  refine c8.aD (hT e (s8 e.k (aZ s)) s.code s.sites ++ [⟨0, false, 156, 11, [.int .i64 9, .str ByteArray.empty, .int .i64 l3.op, .int .i64 l3.num, .str l3.name, .vec l3.args.length (m7 l3.args), .str m8.name, .vec m8.idx.length (m7 m8.idx), .vec (([] : List Ar)).length (bJ ([] : List Ar)), .vec (Go.Un.Sl.len Go.Un.Sl.nil) (n8 Go.Un.Sl.nil), .vec (Go.Un.Sl.len Go.Un.Sl.nil) (n8 Go.Un.Sl.nil)], 0⟩]) rfl ?_
  refine c150z ?_
  refine c51z ?_
  refine c29z ?_
  refine c14z ?_
  refine c51z ?_
  refine .c7 [0, 1, 4, 5, 7] ?_
  refine .r ?_
  refine .e 3 ?_
  refine .ch rfl rfl (dW (jG t35 t31 ⟨8, 0, false, l3, bQ, [], []⟩ s.st t18)) ?_
  refine .nil ?_
  exact .mk _ rfl
theorem Bnd.mono {s : Sco} {W W' : Nat} (h : Bnd s W) (hw : W' ≤ W) : Bnd s W' := by
  obtain ⟨q1, q2, q3, q4, q5, q6, q7, q8⟩ := h
  exact ⟨q1, by omega, by omega, by omega, q5, by omega, q7, by omega⟩
theorem Bnd.ins {s : Sco} {W : Nat} (h : Bnd s (1 + W)) (i : Ins) : Bnd (m9 (aZ s) i s.st) W := by
  obtain ⟨q1, q2, q3, q4, q5, q6, q7, q8⟩ := h
  exact ⟨q1, by rw [mS, uD]; omega, by rw [z5, dH]; omega, by rw [w5, cG]; omega, q5, by rw [hU, nX]; omega, by show 0 ≤ s.st + 1; omega, by show s.st + 1 + _ ≤ _; omega⟩
theorem Bnd.var {s : Sco} {W : Nat} (h : Bnd s (1 + W)) (i : Ins) (n : BA) : Bnd (oY (m9 (aZ s) i s.st) n) W := by
  obtain ⟨q1, q2, q3, q4, q5, q6, q7, q8⟩ := h
  exact ⟨by simp [oY], by show (s.l ++ [_]).length + _ ≤ _; simp; omega, by show (m9 (aZ s) i s.st).code.length + _ ≤ _; rw [z5, dH]; omega, by show (m9 (aZ s) i s.st).sites.length + _ ≤ _; rw [w5, cG]; omega, by show 0 ≤ s.loc + 1; omega, by show s.loc + 1 + _ ≤ _; omega, by show 0 ≤ s.st + 1; omega, by show s.st + 1 + _ ≤ _; omega⟩
theorem Bnd.fin {s : Sco} {S : Sl} {W : Nat} (h : Bnd s (S.wt + W)) : Bnd (cS s.l s S) W := by
  obtain ⟨q1, q2, q3, q4, q5, q6, q7, q8⟩ := h
  have h1 := hY (l0 := s.l) (s := s) (S := S)
  have h2 := gT (l0 := s.l) (s := s) (S := S)
  have h3 := pQ S s.loc
  exact ⟨q1, by show s.l.length + _ ≤ _; omega, by omega, by omega, by show 0 ≤ fF S s.loc; omega, by show fF S s.loc + _ ≤ _; omega, by show 0 ≤ s.st + (S.wt : Int); omega, by show s.st + (S.wt : Int) + _ ≤ _; omega⟩
theorem Bnd.put {s : Sco} {W : Nat} (h : Bnd s (1 + W)) (i : Ins) (t : Int) : Bnd (m9 s i t) W := by
  obtain ⟨q1, q2, q3, q4, q5, q6, q7, q8⟩ := h
  exact ⟨q1, by rw [mS]; omega, by rw [z5]; omega, by rw [w5]; omega, q5, by rw [hU]; omega, q7, by rw [wO]; omega⟩
theorem Bnd.tgt {s : Sco} {W i : Nat} {v : Int} (h : Bnd s W) : Bnd (cN s i v) W := by
  obtain ⟨q1, q2, q3, q4, q5, q6, q7, q8⟩ := h
  exact ⟨q1, q2, by rw [jF]; exact q3, q4, q5, q6, q7, q8⟩
theorem Bnd.put2 {s : Sco} {W : Nat} (h : Bnd s W) (i : Ins) (t : Int) (hc : s.code.length + 1 + 2 * W ≤ 5000) (hs : s.sites.length + 1 + 2 * W ≤ 5000) : Bnd (m9 s i t) W := by
  obtain ⟨q1, q2, q3, q4, q5, q6, q7, q8⟩ := h
  exact ⟨q1, by rw [mS]; omega, by rw [z5]; omega, by rw [w5]; omega, q5, by rw [hU]; omega, q7, by rw [wO]; omega⟩
theorem zA {s : Sco} {a : Ex} {th : Sl} {W : Nat} (h : Bnd s (1 + th.wt + W)) : Bnd (dR s a th) W ∧ (dR s a th).code.length + 1 + 2 * W ≤ 5000 ∧ (dR s a th).sites.length + 1 + 2 * W ≤ 5000 := by
  have h1 := (show Bnd s (1 + (th.wt + W)) from h.mono (by omega)).ins ⟨6, 0, false, eM s.l a, bQ, [], []⟩
  have h2 := hY (l0 := s.l) (s := m9 (aZ s) ⟨6, 0, false, eM s.l a, bQ, [], []⟩ s.st) (S := th)
  have h3 := gT (l0 := s.l) (s := m9 (aZ s) ⟨6, 0, false, eM s.l a, bQ, [], []⟩ s.st) (S := th)
  rw [z5, dH] at h2
  rw [w5, cG] at h3
  have q3 := h.cb
  have q4 := h.sb
  exact ⟨h1.fin, by show (cS s.l (m9 (aZ s) _ s.st) th).code.length + 1 + 2 * W ≤ 5000; omega, by show (cS s.l (m9 (aZ s) _ s.st) th).sites.length + 1 + 2 * W ≤ 5000; omega⟩
theorem HV {s : Sco} {a : Ex} {th el : Sl} {W : Nat} (h : Bnd s (1 + th.wt + (el.wt + W))) : Bnd (dS s a th el) W := by
  obtain ⟨h1, h2, h3⟩ := zA (a := a) h
  exact (((h1.put2 ⟨7, 0, false, l3, bQ, [], []⟩ s.st h2 h3).tgt (i := s.code.length) (v := ((stJ s a th).code.length : Int)))).fin
theorem HW {e : Frm} {E : Env} {c : Ctx} {vs : List BA} {s : Sco} {l0 : List Ent} (sc : SC E c vs s.l) (bd : Bd E c s.p) {pre : Sl} {k : Int} {n : BA} {a : Ex} {r : Rf} {xs : List Ar} {th el rest : Sl} (hG : GS E (.cons k n a r xs th el rest) vs) (B : Bnd s (Sl.cons k n a r xs th el rest).wt) (ih : ∀ T : Sl, (T = th ∨ T = el) → GS E T vs → (∀ s' : Sco, SC E c vs s'.l → s'.p = s.p → Bnd s' T.wt → ∀ e : Frm, CallA Try.prog cfg 70 [.ptr e.k 0 0, .vec T.len (n8 T)] (hT e (s8 e.k s') (s').code (s').sites) (fun y' h' => y' = .tup [] ∧ h' = (hT e (s8 e.k (cS s'.l s' T)) ((cS s'.l s' T)).code ((cS s'.l s' T)).sites)))) : ∃ s' vs', SC E c vs' s'.l ∧ GS E rest vs' ∧ s'.p = s.p ∧ Bnd s' rest.wt ∧ cS l0 s' rest = cS l0 s (.cons k n a r xs th el rest) ∧ c8 Try.prog cfg (oT [1, 0, 1, 0, 0, 1, 0] (iT Try.f70)) ⟨mkS 253 [(0, AV.ptr e.k 0 0), (1, AV.vec (Go.Un.Sl.len (pre.app (.cons k n a r xs th el rest))) (n8 (pre.app (.cons k n a r xs th el rest)))), (4, AV.vec l0.length (j5 l0)), (5, AV.int .i64 ((pre.len : Nat) : Int))], (hT e (s8 e.k s) s.code s.sites)⟩ (Led 253 [(0, AV.ptr e.k 0 0), (1, AV.vec (Go.Un.Sl.len (pre.app (.cons k n a r xs th el rest))) (n8 (pre.app (.cons k n a r xs th el rest)))), (4, AV.vec l0.length (j5 l0)), (5, AV.int .i64 ((pre.len : Nat) : Int))] (hT e (s8 e.k s') (s').code (s').sites)) := by
  rcases hG with ⟨rfl, ⟨j, hj, rfl⟩, hn, he, rfl, rfl, rfl, rfl, hr⟩ | ⟨rfl, hn, he, rfl, rfl, rfl, rfl, hr⟩ | ⟨rfl | rfl, ⟨f, hf, rfl, ha⟩, rfl, rfl, rfl, rfl, hr⟩ | ⟨rfl | rfl, rfl, rfl, hR, rfl, rfl, rfl, hr⟩ | ⟨rfl, rfl, he, rfl, rfl, hth, hel, hr⟩ | ⟨rfl, rfl, he, rfl, rfl, hth, rfl, hr⟩ | ⟨rfl, rfl, rfl, rfl, rfl, rfl, rfl, hr⟩
  all_goals simp only [Sl.wt, Nat.add_zero] at B
  · exact ⟨(oY (m9 (aZ s) ⟨1, s.loc, false, eM s.l a, bQ, [], []⟩ s.st) (vnm j)), _, sc.push hj hn s.loc, hr, rfl, B.var _ _, fin_var, c_blk1 sc bd B (by omega) j hj hn a he⟩
  · exact ⟨(m9 (aZ s) ⟨1, (eK s.l n).n, (eK s.l n).kind == 1, eM s.l a, bQ, [], []⟩ s.st), vs, sc, hr, rfl, B.ins _, pA (by simp only [n6, show ¬ (2 : Int) = 1 from by decide, if_true, if_false]; rfl) (by decide), c_blk2 sc bd B (by omega) n hn a he⟩
  · exact ⟨(m9 (aZ s) ⟨2, (eK s.l f.1).n, false, l3, bQ, aT s.l xs, z8 s.l xs⟩ s.st), vs, sc, hr, rfl, B.ins _, pA (by simp only [n6, show ¬ (3 : Int) = 1 from by decide, show ¬ (3 : Int) = 2 from by decide, show ¬ (3 : Int) = 4 from by decide, true_or, if_true, if_false]) (by decide), c_blk3 sc bd B (by omega) f hf xs ha⟩
  · exact ⟨(m9 (aZ s) ⟨3, (eK s.l f.1).n, false, l3, bQ, aT s.l xs, z8 s.l xs⟩ s.st), vs, sc, hr, rfl, B.ins _, pA (by simp only [n6, show ¬ (4 : Int) = 1 from by decide, show ¬ (4 : Int) = 2 from by decide, or_true, if_true, if_false]) (by decide), c_blk4 sc bd B (by omega) f hf xs ha⟩
  · exact ⟨(m9 (aZ s) ⟨4, 0, false, l3, oV s.l r, [], []⟩ s.st), vs, sc, hr, rfl, B.ins _, pA (by simp only [n6, show ¬ (5 : Int) = 1 from by decide, show ¬ (5 : Int) = 2 from by decide, show ¬ ((5 : Int) = 3 ∨ (5 : Int) = 4) from by decide, if_true, if_false]) (by decide), c_blk5 sc bd B (by omega) r hR⟩
  · exact ⟨(m9 (aZ s) ⟨5, 0, false, l3, oV s.l r, [], []⟩ s.st), vs, sc, hr, rfl, B.ins _, pA (by simp only [n6, show ¬ (6 : Int) = 1 from by decide, show ¬ (6 : Int) = 2 from by decide, show ¬ ((6 : Int) = 3 ∨ (6 : Int) = 4) from by decide, show ¬ (6 : Int) = 5 from by decide, if_true, if_false]) (by decide), c_blk6 sc bd B (by omega) r hR⟩
  · by_cases h0 : 0 < el.len
    · exact ⟨(cN (dS s a th el) (dR s a th).code.length ((dS s a th el).code.length : Int)), vs, sc, hr, rfl, (HV (B.mono (by omega))).tgt, HU h0, c_blk17 sc bd B a he th el h0 (by omega) (ih _ (.inl rfl) hth) (ih _ (.inr rfl) hel)⟩
    · obtain rfl := len_nil.1 h0
      simp only [Sl.wt, Nat.add_zero] at B
      exact ⟨(cN (dR s a th) s.code.length ((dR s a th).code.length : Int)), vs, sc, hr, rfl, (zA B).1.tgt, fin_if, c_blk7 sc bd B a he th (by omega) (ih _ (.inl rfl) hth)⟩
  · exact ⟨(cN (wV s a th) s.code.length ((wV s a th).code.length : Int)), vs, sc, hr, rfl, ((zA (a := a) B).1.put2 _ _ (zA B).2.1 (zA B).2.2).tgt, fin_wh, c_blk8 sc bd B a he th (by omega) (ih _ (.inl rfl) hth)⟩
  · exact ⟨(m9 (aZ s) ⟨8, 0, false, l3, bQ, [], []⟩ s.st), vs, sc, hr, rfl, B.ins _, pA (by simp only [n6, show ¬ (9 : Int) = 1 from by decide, show ¬ (9 : Int) = 2 from by decide, show ¬ ((9 : Int) = 3 ∨ (9 : Int) = 4) from by decide, show ¬ (9 : Int) = 5 from by decide, show ¬ (9 : Int) = 6 from by decide, show ¬ (9 : Int) = 7 from by decide, show ¬ (9 : Int) = 8 from by decide, if_false]) (by decide), c_blk9 sc bd B (by omega)⟩
theorem fin_nil {l0 : List Ent} {s : Sco} : cS l0 s .nil = { s with l := l0 } := by
  refine Sco.eq rfl rfl rfl ?_ ?_ ?_
  · simp [cS, Sl.wt]
  · simp [cS, n6]
  · simp [cS, cL]
theorem HX {E : Env} {c : Ctx} (S : Sl) (hSl : S.wt ≤ 1000) (vars : List BA) (s : Sco) (sc0 : SC E c vars s.l) (hG0 : GS E S vars) (bd : Bd E c s.p) (B0 : Bnd s S.wt) (e : Frm) (ih : ∀ S' : Sl, S'.wt < S.wt → ∀ (vars : List BA) (s : Sco), SC E c vars s.l → GS E S' vars → Bd E c s.p → Bnd s S'.wt → ∀ e : Frm, CallA Try.prog cfg 70 [.ptr e.k 0 0, .vec S'.len (n8 S')] (hT e (s8 e.k s) (s).code (s).sites) (fun y' h' => y' = .tup [] ∧ h' = (hT e (s8 e.k (cS s.l s S')) ((cS s.l s S')).code ((cS s.l s S')).sites))) : CallA Try.prog cfg 70 [.ptr e.k 0 0, .vec S.len (n8 S)] (hT e (s8 e.k s) s.code s.sites) (fun y' h' => y' = .tup [] ∧ h' = (hT e (s8 e.k (cS s.l s S)) ((cS s.l s S)).code ((cS s.l s S)).sites)) := by
  refine .w fn70 ntm70 ?_
  have hlw := dG S
  refine c22z ?_
  refine .dU (fun m st => ∃ (Z : Sl) (pre : Sl) (rst : Sl) (vs : List BA) (cur : Sco), (m = rst.len ∧ (Z = S ∧ S = pre.app rst ∧ GS E rst vs ∧ SC E c vs cur.l ∧ cur.p = s.p ∧ Bnd cur rst.wt ∧ cS s.l cur rst = cS s.l s S)) ∧ st = ⟨mkS 253 [(0, AV.ptr e.k 0 0), (1, AV.vec (Go.Un.Sl.len Z) (n8 Z)), (4, AV.vec s.l.length (j5 s.l)), (5, AV.int .i64 ((pre.len : Nat) : Int))], hT e (s8 e.k cur) cur.code cur.sites⟩) (.v ⟨S, Sl.nil, S, vars, s, ⟨rfl, ⟨rfl, rfl, hG0, sc0, rfl, B0, rfl⟩⟩, rfl⟩ (hs := t7) (hr := t63)) ?_
  rintro m sl h' ⟨Z, pre, rst, vs, cur, ⟨hm, ⟨hZ, hS, hG, sc, hp, B, hF⟩⟩, hst⟩
  obtain ⟨rfl, rfl⟩ := St.mk.inj hst; clear hst
  subst hZ
  have hlen := congrArg Go.Un.Sl.len hS; rw [Go.Un.Sl.cB] at hlen
  refine c0z ?_
  refine .spl 22 rfl rfl (fun e1 => ?_) (fun e1 => ?_)
  ·try simp only [e1]
   have qe1 := fact e1
   refine c10z ?_
   refine .seq ?_
   obtain ⟨k, n, a, r, xs, th, el, rest, rfl⟩ := Go.Un.Sl.mP (s := rst) (by omega)
   subst hS
   have hwc := @B7 pre k n a r xs th el rest
   have hlc := @w6 pre k n a r xs th el rest
   obtain ⟨s2, vs2, r1, r2, r3, r4, r5, hrun⟩ := HW (e := e) (l0 := s.l) (pre := pre) sc (by rw [hp]; exact bd) hG B (fun T hT hgT s' q1 q2 q3 e' => ih T (by rcases hT with rfl | rfl <;> omega) _ s' q1 hgT (by rw [q2, hp]; exact bd) q3 e')
   refine c8.fitS [(0, AV.ptr e.k 0 0), (1, AV.vec (Go.Un.Sl.len (pre.app (.cons k n a r xs th el rest))) (n8 (pre.app (.cons k n a r xs th el rest)))), (4, AV.vec s.l.length (j5 s.l)), (5, AV.int .i64 ((pre.len : Nat) : Int))] ?_
   refine c8.led (hrun) ?_
   intro lq hq haq
   change c8 ..
   refine c8.fitS [(0, AV.ptr e.k 0 0), (1, AV.vec (Go.Un.Sl.len (pre.app (.cons k n a r xs th el rest))) (n8 (pre.app (.cons k n a r xs th el rest)))), (4, AV.vec s.l.length (j5 s.l)), (5, AV.int .i64 ((pre.len : Nat) : Int))] ?_ haq
   refine .rz ?_
   exact ⟨_, by omega, .v ⟨_, (pre.app (.cons k n a r xs th el .nil)), rest, vs2, s2, ⟨rfl, ⟨rfl, eC, r2, r1, r3.trans hp, r4, r5.trans hF⟩⟩, rfl⟩ (he := by rfl) (hl := by simp only [aB]; exact Nat.le_refl _) (hk := by exact hT_keep rfl) (hs := t7) (hr := t63)⟩
  try simp only [e1]
  have qe1 := fact e1
  refine c3z ?_
  have hr0 : rst = .nil := Sl.vK (by omega)
  subst hr0
  change c8 ..
  refine .rz ?_
  refine Ends.n ?_
  exact ⟨hT e ⟨0, false, 164, 10, [.vec cur.p.globals.length (o7 cur.p.globals), .vec cur.p.c4.length (j6 cur.p.c4), .vec cur.p.funcs.length (n4 cur.p.funcs), .vec s.l.length (j5 s.l), .int .i64 cur.loc, .int .i64 cur.st, .int .i64 0, .int .i64 0, .own (e.k + 1) cur.code.length 0 cur.code.length, .own (e.k + 2) cur.sites.length 0 cur.sites.length], 0⟩ cur.code cur.sites, [], _, (List.append_nil _).symm, by (simp only [aB]; exact Nat.le_refl _), (wG (fR.get ⟨.vec _ _, .vec _ _, .vec _ _, .vec _ _, .int _ _, .int _ _, .int _ _, .int _ _, .own _ _ _ _ e.lt.2.1, .own _ _ _ _ e.lt.2.2, trivial⟩)), rfl, by rw [← hF, fin_nil]; exact ⟨rfl, rfl⟩⟩
theorem K4 {E : Env} {c : Ctx} : ∀ (n : Nat) (S : Sl), S.wt ≤ n → n ≤ 1000 → ∀ (vars : List BA) (s : Sco), SC E c vars s.l → GS E S vars → Bd E c s.p → Bnd s S.wt → ∀ e : Frm, CallA Try.prog cfg 70 [.ptr e.k 0 0, .vec S.len (n8 S)] (hT e (s8 e.k s) (s).code (s).sites) (fun y' h' => y' = .tup [] ∧ h' = (hT e (s8 e.k (cS s.l s S)) ((cS s.l s S)).code ((cS s.l s S)).sites))
  | n, S, hn, h1, vars, s, sc, hG, bd, B, e => by
    refine HX S (by omega) vars s sc hG bd B e (fun S' hS' => ?_)
    cases n with
    | zero => omega
    | succ n => exact K4 n S' (by omega) (by omega)
end Go.Proofs.Ytbmaijdkebjnhaa
end
