/- My own texts, put together by a program of mine. -/
import Derived.Test.YtapdldekgbbomaaGreatMV3
set_option linter.unusedSimpArgs false
set_option linter.unusedVariables false
set_option maxRecDepth 100000
set_option maxHeartbeats 4000000
section
namespace Go.Proofs.YtapdldekgbbomaaGreat
open Go.Ab Go.Un
def bU : Sl → Int → List Int
  | .nil, _ => []
  | .cons k n e r xs th el rest, t =>
    if k = 7 then t :: (bU th (t + 1) ++ ((if 0 < el.len then t :: bU el (t + 1 + (th.wt : Int)) else []) ++ bU rest (t + 1 + (th.wt : Int) + (el.wt : Int))))
    else if k = 8 then t :: (bU th (t + 1) ++ (t :: bU rest (t + 1 + (th.wt : Int))))
    else t :: bU rest (t + 1)
theorem gY : ∀ (S : Sl) (t : Int), (bU S t).length ≤ 2 * S.wt
  | .nil, t => by simp [bU]
  | .cons k n e r xs th el rest, t => by
    have h1 := gY th (t + 1)
    have h2 := gY el (t + 1 + (th.wt : Int))
    have h3 := gY rest (t + 1 + (th.wt : Int) + (el.wt : Int))
    have h4 := gY rest (t + 1 + (th.wt : Int))
    have h5 := gY rest (t + 1)
    unfold bU
    simp only [Sl.wt]
    split
    · split <;> simp only [List.length_cons, List.length_append, List.length_nil] <;> omega
    · split <;> simp only [List.length_cons, List.length_append] <;> omega
def qK (c : List Ins) (i : Nat) (v : Int) : List Ins := c.set i { c.getD i g7 with target := v }
theorem kD {c : List Ins} {i : Nat} {v : Int} : (qK c i v).length = c.length := by simp [qK]
theorem xG {c d : List Ins} {x : Ins} {i : Nat} {v : Int} (hi : i = c.length) : qK (c ++ (x :: d)) i v = c ++ ({ x with target := v } :: d) := by
  subst hi
  simp [qK, List.getD]
def bC (s : Sco) : Sco := { s with st := s.st + 1 }
def o5 (s : Sco) (i : Ins) (t : Int) : Sco := { s with code := s.code ++ [i], sites := s.sites ++ [t] }
def bY (s : Sco) (i : Nat) (v : Int) : Sco := { s with code := qK s.code i v }
def pI (s : Sco) (n : BA) : Sco := { s with l := s.l ++ [⟨n, 4, s.loc⟩], loc := s.loc + 1 }
def cC (l0 : List Ent) (s : Sco) (S : Sl) : Sco := { s with l := l0, loc := eV S s.loc, st := s.st + (S.wt : Int), code := s.code ++ o8 S s.l s.loc s.code.length, sites := s.sites ++ bU S s.st }
variable {k : Nat} {s : Sco}
theorem rK {i : Nat} {v : Int} : z1 k (bY s i v) = z1 k s := by simp only [z1, bY, kD]
variable {t : Int}
theorem JU {i : Ins} {n : BA} : z1 k (pI (o5 (bC s) i t) n) = ⟨0, false, 157, 10, [.vec s.p.globals.length (r8 s.p.globals), .vec s.p.c4.length (g9 s.p.c4), .vec s.p.funcs.length (o7 s.p.funcs), .vec (s.l.length + 1) (j8 (s.l ++ [⟨n, 4, s.loc⟩])), .int .i64 (s.loc + 1), .int .i64 (s.st + 1), .int .i64 0, .int .i64 0, .own (k + 1) (s.code.length + 1) 0 (s.code.length + 1), .own (k + 2) (s.sites.length + 1) 0 (s.sites.length + 1)], 0⟩ := by
  simp only [z1, pI, o5, bC, List.length_append, List.length_cons, List.length_nil, Nat.zero_add]
theorem xH : (z1 k s).gen = 0 := rfl
theorem tF : (z1 k s).bR = false := rfl
theorem tG : (z1 k s).elem = 157 := rfl
theorem xI : (z1 k s).esz = 10 := rfl
theorem xJ : (z1 k s).frz = 0 := rfl
theorem pJ : (z1 k s).cells = [.vec s.p.globals.length (r8 s.p.globals), .vec s.p.c4.length (g9 s.p.c4), .vec s.p.funcs.length (o7 s.p.funcs), .vec s.l.length (j8 s.l), .int .i64 s.loc, .int .i64 s.st, .int .i64 0, .int .i64 0, .own (k + 1) s.code.length 0 s.code.length, .own (k + 2) s.sites.length 0 s.sites.length] := rfl
theorem CQ : (bC s).l = s.l := rfl
theorem M9 : (bC s).loc = s.loc := rfl
theorem stSt_p : (bC s).p = s.p := rfl
theorem fT : (bC s).code.length = s.code.length := rfl
theorem eA : (bC s).sites.length = s.sites.length := rfl
theorem E7 {i : Ins} : (o5 s i t).l = s.l := rfl
theorem tH {i : Ins} : (o5 s i t).loc = s.loc := rfl
theorem N0 {i : Ins} : (o5 s i t).st = s.st := rfl
theorem stPut_p {i : Ins} : (o5 s i t).p = s.p := rfl
theorem bP {i : Ins} : (o5 s i t).code.length = s.code.length + 1 := by simp [o5]
theorem bG {i : Ins} : (o5 s i t).sites.length = s.sites.length + 1 := by simp [o5]
theorem stTgt_l {i : Nat} : (bY s i t).l = s.l := rfl
theorem jF {i : Nat} : (bY s i t).code.length = s.code.length := kD
theorem mX {i : Nat} : (bY s i t).sites.length = s.sites.length := rfl
variable {l0 : List Ent} {S : Sl}
theorem finS_l : (cC l0 s S).l = l0 := rfl
theorem finS_p : (cC l0 s S).p = s.p := rfl
theorem iC : s.code.length ≤ (cC l0 s S).code.length ∧ (cC l0 s S).code.length ≤ s.code.length + 2 * S.wt := by
  have := eH S s.l s.loc s.code.length
  simp only [cC, List.length_append]; omega
theorem gZ : s.sites.length ≤ (cC l0 s S).sites.length ∧ (cC l0 s S).sites.length ≤ s.sites.length + 2 * S.wt := by
  have := gY S s.st
  simp only [cC, List.length_append]; omega
theorem qB : ∀ (S : Sl) (n : Int), n ≤ eV S n ∧ eV S n ≤ n + (S.wt : Int)
  | .nil, n => by simp [eV, Sl.wt]
  | .cons k nm e r xs th el rest, n => by
    have r1 := qB rest (n + 1)
    have r2 := qB rest (eV el (eV th n))
    have r3 := qB rest (eV th n)
    have r4 := qB rest n
    have t1 := qB th n
    have e1 := qB el (eV th n)
    simp only [eV, Sl.wt]
    split
    · omega
    · split
      · omega
      · split <;> omega
structure Bnd (s : Sco) (W : Nat) : Prop where
  lp : 0 < s.l.length
  lb : s.l.length + W ≤ 900
  cb : s.code.length + 2 * W ≤ 5000
  sb : s.sites.length + 2 * W ≤ 5000
  o0 : 0 ≤ s.loc
  ob : s.loc + (W : Int) ≤ 5000
  t0 : 0 ≤ s.st
  tb : s.st + (W : Int) ≤ 5000
structure Bd (E : Env) (c : Ctx) (p : Go.Un.Pg) : Prop where
  hE : E.c4 = p.c4
  hc : c.nm = p.c4.length
  hf : E.funcs = p.funcs.map fun f => (f.name, f.params)
  fp : ∀ f ∈ E.funcs, f.2.length ≤ 2
theorem Sco.eq {a b : Sco} (h1 : a.p = b.p) (h2 : a.l = b.l) (h3 : a.loc = b.loc) (h4 : a.st = b.st) (h5 : a.code = b.code) (h6 : a.sites = b.sites) : a = b := by
  cases a; cases b; simp_all
variable {rest : Sl}
theorem fin_var {n : BA} {e : Ex} : cC l0 (pI (o5 (bC s) ⟨1, s.loc, false, eU s.l e, bK, [], []⟩ s.st) n) rest = cC l0 s (.cons 1 n e n7 [] .nil .nil rest) := by
  refine Sco.eq rfl rfl ?_ ?_ ?_ ?_
  · simp only [cC, pI, o5, bC, eV, if_true]
  · simp only [cC, pI, o5, bC, Sl.wt]; omega
  · simp only [cC, pI, o5, bC, o8, if_true, List.append_assoc, List.cons_append, List.nil_append, List.length_append, List.length_cons, List.length_nil, Nat.zero_add]
  · simp only [cC, pI, o5, bC, bU, show ¬ (1 : Int) = 7 from by decide, show ¬ (1 : Int) = 8 from by decide, if_false, List.append_assoc, List.cons_append, List.nil_append]
variable {r : Rf} {xs : List Ar}
theorem pK {i : Ins} {k : Int} {n : BA} {e : Ex} (h : o8 (.cons k n e r xs .nil .nil rest) s.l s.loc s.code.length = i :: o8 rest s.l s.loc (s.code.length + 1)) (hk : k ≠ 1 ∧ k ≠ 7 ∧ k ≠ 8) : cC l0 (o5 (bC s) i s.st) rest = cC l0 s (.cons k n e r xs .nil .nil rest) := by
  refine Sco.eq rfl rfl ?_ ?_ ?_ ?_
  · simp only [cC, o5, bC, eV, hk.1, hk.2.1, hk.2.2, if_false]
  · simp only [cC, o5, bC, Sl.wt]; omega
  · simp only [cC, h, o5, bC, List.append_assoc, List.cons_append, List.nil_append, List.length_append, List.length_cons, List.length_nil, Nat.zero_add]
  · simp only [cC, o5, bC, bU, hk.2.1, hk.2.2, if_false, List.append_assoc, List.cons_append, List.nil_append]
theorem len_nil {s : Sl} : ¬ 0 < s.len ↔ s = .nil := ⟨fun h => Sl.wG (by omega), fun h => by subst h; simp [Go.Un.Sl.len]⟩
def dA (s : Sco) (e : Ex) (th : Sl) : Sco := cC s.l (o5 (bC s) ⟨6, 0, false, eU s.l e, bK, [], []⟩ s.st) th
def stJ (s : Sco) (e : Ex) (th : Sl) : Sco := o5 (dA s e th) ⟨7, 0, false, l6, bK, [], []⟩ s.st
def dB (s : Sco) (e : Ex) (th el : Sl) : Sco := cC s.l (bY (stJ s e th) s.code.length ((stJ s e th).code.length : Int)) el
def xU (s : Sco) (e : Ex) (th : Sl) : Sco := o5 (dA s e th) ⟨7, ((s.code.length : Nat) : Int), false, l6, bK, [], []⟩ s.st
variable {th : Sl}
theorem oI {e : Ex} : (dA s e th).code = s.code ++ ((⟨6, 0, false, eU s.l e, bK, [], []⟩ : Ins) :: o8 th s.l s.loc (s.code.length + 1)) := by
  simp only [dA, cC, o5, bC, List.append_assoc, List.cons_append, List.nil_append, List.length_append, List.length_cons, List.length_nil, Nat.zero_add]
theorem oJ {e : Ex} : (dA s e th).code.length = s.code.length + 1 + (o8 th s.l s.loc (s.code.length + 1)).length := by
  rw [oI]; simp; omega
theorem JV {e : Ex} {v : Int} : (bY (stJ s e th) s.code.length v).code = s.code ++ ((⟨6, v, false, eU s.l e, bK, [], []⟩ : Ins) :: (o8 th s.l s.loc (s.code.length + 1) ++ [⟨7, 0, false, l6, bK, [], []⟩])) := by
  simp only [bY, stJ, o5, oI, List.append_assoc, List.cons_append]
  exact xG rfl
variable {el : Sl}
theorem tI {e : Ex} : (dB s e th el).code = s.code ++ ((⟨6, ((stJ s e th).code.length : Int), false, eU s.l e, bK, [], []⟩ : Ins) :: (o8 th s.l s.loc (s.code.length + 1) ++ (⟨7, 0, false, l6, bK, [], []⟩ :: o8 el s.l (eV th s.loc) ((dA s e th).code.length + 1)))) := by
  have h1 : (bY (stJ s e th) s.code.length ((stJ s e th).code.length : Int)).code.length = (dA s e th).code.length + 1 := by
    simp only [bY, kD, stJ, o5, List.length_append, List.length_cons, List.length_nil, Nat.zero_add]
  show (bY (stJ s e th) s.code.length ((stJ s e th).code.length : Int)).code ++ o8 el s.l (eV th s.loc) _ = _
  rw [h1, JV]
  simp only [List.append_assoc, List.cons_append, List.nil_append]
theorem stJ_len {e : Ex} : (stJ s e th).code.length = (dA s e th).code.length + 1 := by simp [stJ, o5]
theorem U0 {e : Ex} : (dB s e th el).code.length = (dA s e th).code.length + 1 + (o8 el s.l (eV th s.loc) ((dA s e th).code.length + 1)).length := by
  rw [tI, oJ]; simp; omega
theorem fin_if {n : BA} {e : Ex} : cC l0 (bY (dA s e th) s.code.length ((dA s e th).code.length : Int)) rest = cC l0 s (.cons 7 n e r xs th .nil rest) := by
  have hne : ¬ (7 : Int) = 1 ∧ ¬ (7 : Int) = 2 ∧ ¬ ((7 : Int) = 3 ∨ (7 : Int) = 4) ∧ ¬ (7 : Int) = 5 ∧ ¬ (7 : Int) = 6 := by decide
  have h0 : ¬ 0 < Sl.nil.len := by simp [Go.Un.Sl.len]
  refine Sco.eq rfl rfl ?_ ?_ ?_ ?_
  · simp only [cC, bY, dA, o5, bC, eV, hne.1, if_false, if_true]
  · simp only [cC, bY, dA, o5, bC, Sl.wt]; omega
  · show qK (dA s e th).code s.code.length _ ++ o8 rest s.l (eV th s.loc) (qK (dA s e th).code s.code.length _).length = s.code ++ o8 _ s.l s.loc s.code.length
    rw [kD, oJ, oI, xG rfl]
    simp only [o8, eV, hne.1, hne.2.1, hne.2.2.1, hne.2.2.2.1, hne.2.2.2.2, h0, if_false, if_true, List.append_assoc, List.cons_append]
  · show s.sites ++ [s.st] ++ bU th (s.st + 1) ++ bU rest (s.st + 1 + (th.wt : Int)) = s.sites ++ bU _ s.st
    simp only [bU, Sl.wt, h0, if_true, if_false, List.append_assoc, List.cons_append, List.nil_append, Int.natCast_zero, Int.add_zero]
theorem JW {n : BA} {e : Ex} (hel : 0 < el.len) : cC l0 (bY (dB s e th el) (dA s e th).code.length ((dB s e th el).code.length : Int)) rest = cC l0 s (.cons 7 n e r xs th el rest) := by
  have hne : ¬ (7 : Int) = 1 ∧ ¬ (7 : Int) = 2 ∧ ¬ ((7 : Int) = 3 ∨ (7 : Int) = 4) ∧ ¬ (7 : Int) = 5 ∧ ¬ (7 : Int) = 6 := by decide
  refine Sco.eq rfl rfl ?_ ?_ ?_ ?_
  · simp only [cC, bY, dB, stJ, dA, o5, bC, eV, hne.1, if_false, if_true]
  · simp only [cC, bY, dB, stJ, dA, o5, bC, Sl.wt]; omega
  · show qK (dB s e th el).code (dA s e th).code.length _ ++ o8 rest s.l (eV el (eV th s.loc)) (qK (dB s e th el).code (dA s e th).code.length _).length = s.code ++ o8 _ s.l s.loc s.code.length
    rw [kD, U0, tI]
    rw [show s.code ++ ((⟨6, ((stJ s e th).code.length : Int), false, eU s.l e, bK, [], []⟩ : Ins) :: (o8 th s.l s.loc (s.code.length + 1) ++ (⟨7, 0, false, l6, bK, [], []⟩ :: o8 el s.l (eV th s.loc) ((dA s e th).code.length + 1)))) = (s.code ++ ((⟨6, ((stJ s e th).code.length : Int), false, eU s.l e, bK, [], []⟩ : Ins) :: o8 th s.l s.loc (s.code.length + 1))) ++ (⟨7, 0, false, l6, bK, [], []⟩ :: o8 el s.l (eV th s.loc) ((dA s e th).code.length + 1)) from by simp only [List.append_assoc, List.cons_append]]
    rw [xG (by rw [oJ]; simp; omega), stJ_len, oJ]
    simp only [o8, hne.1, hne.2.1, hne.2.2.1, hne.2.2.2.1, hne.2.2.2.2, hel, if_false, if_true, List.append_assoc, List.cons_append]
  · show s.sites ++ [s.st] ++ bU th (s.st + 1) ++ [s.st] ++ bU el (s.st + 1 + (th.wt : Int)) ++ bU rest (s.st + 1 + (th.wt : Int) + (el.wt : Int)) = s.sites ++ bU _ s.st
    simp only [bU, hel, if_true, List.append_assoc, List.cons_append, List.nil_append]
theorem fin_wh {n : BA} {e : Ex} : cC l0 (bY (xU s e th) s.code.length ((xU s e th).code.length : Int)) rest = cC l0 s (.cons 8 n e r xs th .nil rest) := by
  have hne : ¬ (8 : Int) = 1 ∧ ¬ (8 : Int) = 2 ∧ ¬ ((8 : Int) = 3 ∨ (8 : Int) = 4) ∧ ¬ (8 : Int) = 5 ∧ ¬ (8 : Int) = 6 ∧ ¬ (8 : Int) = 7 := by decide
  rw [show (xU s e th).code.length = (dA s e th).code.length + 1 from by simp [xU, o5]]
  refine Sco.eq rfl rfl ?_ ?_ ?_ ?_
  · simp only [cC, bY, xU, dA, o5, bC, eV, hne.1, hne.2.2.2.2.2, if_false, if_true]
  · simp only [cC, bY, xU, dA, o5, bC, Sl.wt]; omega
  · show qK ((dA s e th).code ++ [⟨7, ((s.code.length : Nat) : Int), false, l6, bK, [], []⟩]) s.code.length _ ++ o8 rest s.l (eV th s.loc) (qK ((dA s e th).code ++ [⟨7, ((s.code.length : Nat) : Int), false, l6, bK, [], []⟩]) s.code.length _).length = s.code ++ o8 _ s.l s.loc s.code.length
    rw [kD, List.length_append, oJ, oI, List.append_assoc, List.cons_append, xG rfl]
    simp only [o8, hne.1, hne.2.1, hne.2.2.1, hne.2.2.2.1, hne.2.2.2.2.1, hne.2.2.2.2.2, if_false, if_true, List.append_assoc, List.cons_append, List.nil_append, List.length_cons, List.length_nil, Nat.zero_add]
  · show s.sites ++ [s.st] ++ bU th (s.st + 1) ++ [s.st] ++ bU rest (s.st + 1 + (th.wt : Int)) = s.sites ++ bU _ s.st
    simp only [bU, hne.2.2.2.2.2, if_true, if_false, List.append_assoc, List.cons_append, List.nil_append]
theorem agg_nil {h : c6} {φ : Map} {w : World} {xs xs' : List AV} (hn : mT xs' xs) {v : Value} (r : Rel h φ w v (.agg xs)) : Rel h φ w v (.agg xs') := by
  cases r with
  | pure hp => cases hp
  | agg a _ ha h1 hr =>
    obtain ⟨k1, k2⟩ := hn.get
    refine .agg a xs' (by rw [ha, k1]) h1 fun j v y e1 e2 => ?_
    have hj : j < xs.length := by rw [← k1]; exact (List.getElem?_eq_some_iff.1 e2).1
    have hx : xs[j]? = some xs[j] := List.getElem?_eq_getElem hj
    rcases k2 j y _ e2 hx with rfl | ⟨e3, rfl⟩
    · exact hr j v _ e1 hx
    · exact vZ (e3 ▸ hr j v _ e1 hx)
def Ax : List AV → List AV → Prop
  | [], [] => True
  | x :: xs, y :: ys => (x = y ∨ ∃ a b, x = .agg a ∧ y = .agg b ∧ mT a b) ∧ Ax xs ys
  | _, _ => False
theorem Ax.get : ∀ {xs ys : List AV}, Ax xs ys → xs.length = ys.length ∧ ∀ (t : Nat) (x y : AV), xs[t]? = some x → ys[t]? = some y → x = y ∨ ∃ a b, x = .agg a ∧ y = .agg b ∧ mT a b
  | [], [], _ => ⟨rfl, fun t x y h => by simp at h⟩
  | x :: xs, y :: ys, h => by
    obtain ⟨h1, h2⟩ := h
    obtain ⟨k1, k2⟩ := Ax.get h2
    refine ⟨by simp [k1], fun t u v hu hv => ?_⟩
    match t with
    | 0 => simp at hu hv; subst hu; subst hv; exact h1
    | t + 1 => exact k2 t u v t134 t135
  | [], _ :: _, h => h.elim
  | _ :: _, [], h => h.elim
theorem aggArg {f : FuncId} {h : c6} {args args' : List AV} {Q : AV → c6 → Prop} (ha : Ax args' args) (r : CallA Tryz.prog cfg f args' h Q) : CallA Tryz.prog cfg f args h Q := by
  intro B φ w cargs i hs hr
  obtain ⟨k1, k2⟩ := ha.get
  refine r B φ w cargs i t187 fun j v y h1 h2 => ?_
  have hj : j < args.length := by rw [← k1]; exact (List.getElem?_eq_some_iff.1 h2).1
  have hx : args[j]? = some args[j] := List.getElem?_eq_getElem hj
  rcases k2 j y _ h2 hx with rfl | ⟨a, b, rfl, e2, hn⟩
  · exact hr j v _ h1 hx
  · exact agg_nil hn (e2 ▸ hr j v _ h1 hx)
theorem lM {e : Frm} (hc : s.code.length < 10000) (hs : s.sites.length < 10000) (i : Ins) (t : Int) {zs : List AV} (hz : mT (dW i) zs) : CH 67 [.ptr e.k 0 0, .agg zs, .int .i64 t] (hT e (z1 e.k s) s.code s.sites) (.int .i64 ((s.code.length : Nat) : Int)) (hT e (z1 e.k (o5 s i t)) (o5 s i t).code (o5 s i t).sites) :=
  aggArg (args' := [.ptr e.k 0 0, .agg (dW i), .int .i64 t]) ⟨.inl rfl, .inr ⟨_, _, rfl, rfl, hz⟩, .inl rfl, trivial⟩ (c_put hc hs i t)
theorem CR : ∀ {c : List Ins} {i : Nat} {v : Int}, i < c.length → List.take (i * 12 + 1) (p9 c) ++ AV.int .i64 v :: List.drop (i * 12 + 1 + 1) (p9 c) = p9 (qK c i v)
  | x :: c, 0, v, _ => by
    have e1 : p9 (x :: c) = dW x ++ p9 c := by simp [p9]
    have e2 : qK (x :: c) 0 v = { x with target := v } :: c := by simp [qK]
    have e3 : p9 ({ x with target := v } :: c) = dW { x with target := v } ++ p9 c := by simp [p9]
    rw [e1, e2, e3]
    rfl
  | x :: c, i + 1, v, h => by
    have ih := CR (c := c) (i := i) (v := v) (by simpa using h)
    have e1 : p9 (x :: c) = dW x ++ p9 c := by simp [p9]
    have e2 : qK (x :: c) (i + 1) v = x :: qK c i v := by simp [qK]
    have e3 : p9 (x :: qK c i v) = dW x ++ p9 (qK c i v) := by simp [p9]
    have hl : (dW x).length = 12 := aL x
    rw [e1, e2, e3, ← ih, show (i + 1) * 12 + 1 = (dW x).length + (i * 12 + 1) from by omega, List.take_length_add_append, show (dW x).length + (i * 12 + 1) + 1 = (dW x).length + (i * 12 + 1 + 1) from by omega, List.drop_length_add_append, List.append_assoc]
theorem zU {c : List Ins} (h : 0 < c.length) : p9 c ≠ [] := by
  intro h0
  have := congrArg List.length h0
  rw [z9] at this
  simp at this
  omega
section
variable {e : Frm} {b : Blk} {c : List Ins} {ss : List Int} {l : c6} {v : Int} {i n : Nat}
theorem hT_1na (h : 0 < c.length) : (hT e b c ss ++ l)[e.k + 1]? = some ⟨c.length, false, 62, 12, p9 c, 0⟩ := by rw [JP, eF (zU h)]
theorem hT_pn (h : c.length = n) (h0 : 0 < n) : (hT e b c ss ++ l).set (e.k + 1) ⟨n, false, 62, 12, p9 (qK c i v), 0⟩ = hT e b (qK c i v) ss ++ l := by
  subst h
  have hl : (qK c i v).length = c.length := kD
  have : n9 62 12 (qK c i v).length (p9 (qK c i v)) = ⟨c.length, false, 62, 12, p9 (qK c i v), 0⟩ := by rw [eF (zU (by omega)), hl]
  rw [← this, NV]
theorem app_cpE {b0 b1 b2 : Blk} {es : List Ent} {n : Nat} (hz : es.length = n) (h0 : 0 < n) (hn : n < 1000) : j5 cfg 115 (hT e b c ss ++ (b0 :: b1 :: b2 :: ⟨1, false, 115, 3, [], 0⟩ :: l)) (.own (e.n + 3) 1 0 0) (.vec n (j8 es)) = some (.own (e.n + 3) 2 0 n, hT e b c ss ++ (b0 :: b1 :: b2 :: ⟨2, false, 115, 3, j8 es, 0⟩ :: l)) := by
  subst hz
  have e1 : cfg.sz 115 = 3 := rfl
  have e2 : (cfg.ti 115).bytes = 32 := rfl
  have hm : es.length ≤ maxLen := by
    have : (1000 : Nat) ≤ maxLen := by decide
    omega
  have hb : es.length * 32 ≤ 140737488355328 := by omega
  have h1 : (j8 es).length = es.length * 3 := by rw [s4]; omega
  have h2 : ¬ es.length = 0 := by omega
  have h3 : ¬ es.length * 3 = 0 := by omega
  simp [j5, rd, lenOf, e1, e2, h1, hm, hb, dM, gI, h0, h2, h3]
theorem app_onE {b0 b1 b2 : Blk} {es : List Ent} {x : BA} {k m : Int} {n : Nat} (hz : es.length = n) (hn : n < 1000) : j5 cfg 115 (hT e b c ss ++ (b0 :: b1 :: b2 :: ⟨2, false, 115, 3, j8 es, 0⟩ :: ⟨1, false, 115, 3, [.str x, .int .i64 k, .int .i64 m], 0⟩ :: l)) (.own (e.n + 3) 2 0 n) (.own (e.n + 4) 1 0 1) = some (.own (e.n + 3) 3 0 (n + 1), hT e b c ss ++ (b0 :: b1 :: b2 :: ⟨3, false, 115, 3, j8 (es ++ [⟨x, k, m⟩]), 0⟩ :: ⟨1, false, 115, 3, [.str x, .int .i64 k, .int .i64 m], 0⟩ :: l)) := by
  subst hz
  have e1 : cfg.sz 115 = 3 := rfl
  have e2 : (cfg.ti 115).bytes = 32 := rfl
  have hm : es.length + 1 ≤ maxLen := by
    have : (1001 : Nat) ≤ maxLen := by decide
    omega
  have hb : (es.length + 1) * 32 ≤ 140737488355328 := by omega
  have h1 : (j8 es).length = es.length * 3 := by rw [s4]; omega
  have ht : List.take (es.length * 3) (j8 es) = j8 es := List.take_of_length_le (by omega)
  have hnl : ¬ (es.length + 1) * 3 ≤ es.length * 3 := by omega
  have hs : j8 (es ++ [⟨x, k, m⟩]) = j8 es ++ [.str x, .int .i64 k, .int .i64 m] := by simp [j8, hY]
  simp [j5, rd, lenOf, e1, e2, h1, hm, hb, ht, hnl, dM, gI, hs]
end
theorem pL (l : List Ent) : z6 (j8 l) := z6.flat fun _ => z6.cons .str (z6.cons .int (z6.cons .int .nil))
theorem stIf_l {e : Ex} : (dA s e th).l = s.l := rfl
attribute [local go_sem] rd s4 o2 aX bZ z9 aL eT cV s3 aT aI n6 aZ Int.natCast_nonneg Int.natCast_inj List.length_map wrap64 fA iM iN K9 zF D2 L0 oR max2 eJ cG bA Nat.reduceMul lX jE hY oH kB tE aC hT_0 hT_2 JO JQ dM xD gI E3 JR M4 hT_1na hT_pn CR app_cpE app_onE xH tF tG xI xJ pJ wY CQ M9 stSt_p fT eA E7 tH N0 stPut_p bP bG stTgt_l jF mX finS_l finS_p stIf_l
variable {E : Env} {vs : List BA} {pre : Sl} {W : Nat}
theorem c_blk1 {e : Frm} {c : Ctx} (sc : SC E c vs s.l) (bd : Bd E c s.p) (B : Bnd s W) (hW : 1 ≤ W) (j : Nat) (hj : j < 24) (hn : vnm j ∉ vs) (a : Ex) (he : GE vs 2 a) : g5 Tryz.prog cfg (pC [1, 0, 1, 0, 0, 1, 0] (iS Tryz.f66)) ⟨mkS 253 [(0, AV.ptr e.k 0 0), (1, AV.vec (Go.Un.Sl.len (pre.app (.cons 1 (vnm j) a n7 [] .nil .nil rest))) (o9 (pre.app (.cons 1 (vnm j) a n7 [] .nil .nil rest)))), (4, AV.vec l0.length (j8 l0)), (5, AV.int .i64 ((pre.len : Nat) : Int))], (hT e (z1 e.k s) s.code s.sites)⟩ (Led 253 [(0, AV.ptr e.k 0 0), (1, AV.vec (Go.Un.Sl.len (pre.app (.cons 1 (vnm j) a n7 [] .nil .nil rest))) (o9 (pre.app (.cons 1 (vnm j) a n7 [] .nil .nil rest)))), (4, AV.vec l0.length (j8 l0)), (5, AV.int .i64 ((pre.len : Nat) : Int))] ((hT e (z1 e.k (pI (o5 (bC s) ⟨1, s.loc, false, eU s.l a, bK, [], []⟩ s.st) (vnm j))) ((pI (o5 (bC s) ⟨1, s.loc, false, eU s.l a, bK, [], []⟩ s.st) (vnm j))).code ((pI (o5 (bC s) ⟨1, s.loc, false, eU s.l a, bK, [], []⟩ s.st) (vnm j))).sites))) := by
  obtain ⟨q1, q2, q3, q4, q5, q6, q7, q8⟩ := B
  have hlc := @v8 pre 1 (vnm j) a n7 [] .nil .nil rest
  refine c151z ?_
  refine g5.z8 (hT e (z1 e.k (bC s)) s.code s.sites ++ [⟨0, false, 149, 11, [.int .i64 1, .str (vnm j), .int .i64 a.op, .int .i64 a.num, .str a.name, .vec a.args.length (n5 a.args), .str n7.name, .vec n7.idx.length (n5 n7.idx), .vec (([] : List Ar)).length (aY ([] : List Ar)), .vec (Go.Un.Sl.len Go.Un.Sl.nil) (o9 Go.Un.Sl.nil), .vec (Go.Un.Sl.len Go.Un.Sl.nil) (o9 Go.Un.Sl.nil)], 0⟩]) rfl ?_
  refine c24z ?_
  refine .c8 [0, 1, 4, 5, 6, 7, 41] ?_
  refine c107z ?_
  refine .seq ?_
  refine c23z ?_
  refine c113z ?_
  refine .cl rfl rfl (fun _ => CM (sc.fr j hj hn) (by omega)) ?_
  refine c247z ?_
  refine .c8 [0, 1, 4, 5, 6, 7, 9] ?_
  refine c9z ?_
  refine .sk ?_
  refine c43z ?_
  refine .ch rfl rfl (fE (JT (s := bC s) t117 s.st sc.var he _)) ?_
  refine .n ?_
  refine .sg u4 (mkH 9 [0, 0, 2, 6, 14, 0, 62, 0, 255] [8] [] [0, 256] []) 0 ?_
  refine u9.z8 t24 ?_
  refine c168z ?_
  refine .rn [true] ?_
  refine .p 2 ?_
  refine .cn [true] [256, 0] [_] rfl rfl (by simp only [jL, and_true, List.cons_append, List.nil_append]; exact fE (lM t43 t40 ⟨1, s.loc, false, eU s.l a, bK, [], []⟩ s.st t23)) ?_
  refine u9.nil rfl ?_
  refine .c8 [0, 1, 4, 5, 6] ?_
  refine .sg u4 (mkH 19 [0, 0, 0, 4, 12, 28, 62, 0, 128, 0, 512, 1536, 3584, 8064, 16256, 32766, 65535, 131071, 262143] [1, 6, 14, 15, 18] [(1, 0), (14, 1)] [0, 2, 66, 16384, 16386, 16450, 49218, 311362] [0, 1, 2, 3, 4, 5, 6]) 2 ?_
  refine .p 1 ?_
  refine .em [true] [2, 0] [_] ?_
  refine .p 3 ?_
  refine .rm [true, true] ?_
  refine .em [true, false] [66, 2, 0] [_] ?_
  refine c96z ?_
  refine .p 3 ?_
  refine .rn [true, true, true] ?_
  refine .p 1 ?_
  refine .en [true, true, true] [16450, 16386, 16384, 66, 2, 0] [_, _, _] ?_
  refine .en [true, false, false, false, false, false] [49218, 16450, 16386, 16384, 66, 2, 0] [_] ?_
  refine .p 2 ?_
  refine .en [true, false, false, false, false, false, false] [311362, 49218, 16450, 16386, 16384, 66, 2, 0] [_] ?_
  refine .po [false, false, false, true, false, false, true, false] ?_
  refine .po [false, false, false, true, true, false, true, true] ?_
  refine .po [false, false, false, false, true, false, false, true] ?_
  refine u9.nil rfl ?_
  refine .c8 [0, 1, 4, 5] ?_
  refine g5.C2 (γ := e.n + 3) (β := e.k) (k := 3) (off := 0) (len := s.l.length + 1) (cs := j8 (s.l ++ [⟨vnm j, 4, s.loc⟩])) t92 rfl t165 (by rw [List.drop_zero, List.take_of_length_le t165]; exact (pL _).MV) (by simp only [JO]; rfl) (by have := e.lt; omega) rfl ?_
  simp only [gI, M4, List.set_cons_succ, List.set_cons_zero]
  refine .rz ?_
  exact .mk _ (by rw [JU]; rfl)
theorem c_blk2 {e : Frm} {c : Ctx} (sc : SC E c vs s.l) (bd : Bd E c s.p) (B : Bnd s W) (hW : 1 ≤ W) (n : BA) (hn : n ∈ vs) (a : Ex) (he : GE vs 2 a) : g5 Tryz.prog cfg (pC [1, 0, 1, 0, 0, 1, 0] (iS Tryz.f66)) ⟨mkS 253 [(0, AV.ptr e.k 0 0), (1, AV.vec (Go.Un.Sl.len (pre.app (.cons 2 n a n7 [] .nil .nil rest))) (o9 (pre.app (.cons 2 n a n7 [] .nil .nil rest)))), (4, AV.vec l0.length (j8 l0)), (5, AV.int .i64 ((pre.len : Nat) : Int))], (hT e (z1 e.k s) s.code s.sites)⟩ (Led 253 [(0, AV.ptr e.k 0 0), (1, AV.vec (Go.Un.Sl.len (pre.app (.cons 2 n a n7 [] .nil .nil rest))) (o9 (pre.app (.cons 2 n a n7 [] .nil .nil rest)))), (4, AV.vec l0.length (j8 l0)), (5, AV.int .i64 ((pre.len : Nat) : Int))] ((hT e (z1 e.k (o5 (bC s) ⟨1, (eD s.l n).n, (eD s.l n).kind == 1, eU s.l a, bK, [], []⟩ s.st)) ((o5 (bC s) ⟨1, (eD s.l n).n, (eD s.l n).kind == 1, eU s.l a, bK, [], []⟩ s.st)).code ((o5 (bC s) ⟨1, (eD s.l n).n, (eD s.l n).kind == 1, eU s.l a, bK, [], []⟩ s.st)).sites))) := by
  obtain ⟨q1, q2, q3, q4, q5, q6, q7, q8⟩ := B
  have hlc := @v8 pre 2 n a n7 [] .nil .nil rest
  obtain ⟨v, hv1, hv2⟩ := sc.var n hn
  refine c151z ?_
  refine g5.z8 (hT e (z1 e.k (bC s)) s.code s.sites ++ [⟨0, false, 149, 11, [.int .i64 2, .str n, .int .i64 a.op, .int .i64 a.num, .str a.name, .vec a.args.length (n5 a.args), .str n7.name, .vec n7.idx.length (n5 n7.idx), .vec (([] : List Ar)).length (aY ([] : List Ar)), .vec (Go.Un.Sl.len Go.Un.Sl.nil) (o9 Go.Un.Sl.nil), .vec (Go.Un.Sl.len Go.Un.Sl.nil) (o9 Go.Un.Sl.nil)], 0⟩]) rfl ?_
  refine c169z ?_
  refine c107z ?_
  refine c43z ?_
  refine .ch rfl rfl (fE (c_var (s := bC s) t117 s.st hv1 hv2)) ?_
  refine .n ?_
  refine .c8 [0, 1, 4, 5, 6, 7, 11] ?_
  refine .og u4 (mkH 14 [0, 0, 2, 0, 8, 24, 0, 0, 128, 0, 960, 2046, 0, 8191] [10, 13] [] [0, 1024, 9216] [0, 1, 2, 3, 4, 5]) 0 ?_
  refine u9.z8 t24 ?_
  refine .p 2 ?_
  refine c113z ?_
  refine c98z ?_
  refine .p 1 ?_
  refine .cn [true] [1024, 0] [_] rfl rfl (by simp only [jL, and_true, List.cons_append, List.nil_append]; exact fE (JT (s := bC s) t117 s.st sc.var he _)) ?_
  refine .p 2 ?_
  refine .cn [true, false] [9216, 1024, 0] [_] rfl rfl (by simp only [jL, and_true, List.cons_append, List.nil_append]; exact fE (lM t43 t40 ⟨1, v.n, v.kind == 1, eU s.l a, bK, [], []⟩ s.st t23)) ?_
  refine c145z ?_
  exact .mk _ (by rw [dR hv1])
theorem c_blk3 {e : Frm} {c : Ctx} (sc : SC E c vs s.l) (bd : Bd E c s.p) (B : Bnd s W) (hW : 1 ≤ W) (f : BA × List Pm) (hf : f ∈ E.funcs) (xs : List Ar) (ha : GAs E vs f.2 xs) : g5 Tryz.prog cfg (pC [1, 0, 1, 0, 0, 1, 0] (iS Tryz.f66)) ⟨mkS 253 [(0, AV.ptr e.k 0 0), (1, AV.vec (Go.Un.Sl.len (pre.app (.cons 3 f.1 l6 n7 xs .nil .nil rest))) (o9 (pre.app (.cons 3 f.1 l6 n7 xs .nil .nil rest)))), (4, AV.vec l0.length (j8 l0)), (5, AV.int .i64 ((pre.len : Nat) : Int))], (hT e (z1 e.k s) s.code s.sites)⟩ (Led 253 [(0, AV.ptr e.k 0 0), (1, AV.vec (Go.Un.Sl.len (pre.app (.cons 3 f.1 l6 n7 xs .nil .nil rest))) (o9 (pre.app (.cons 3 f.1 l6 n7 xs .nil .nil rest)))), (4, AV.vec l0.length (j8 l0)), (5, AV.int .i64 ((pre.len : Nat) : Int))] ((hT e (z1 e.k (o5 (bC s) ⟨2, (eD s.l f.1).n, false, l6, bK, aM s.l xs, w8 s.l xs⟩ s.st)) ((o5 (bC s) ⟨2, (eD s.l f.1).n, false, l6, bK, aM s.l xs, w8 s.l xs⟩ s.st)).code ((o5 (bC s) ⟨2, (eD s.l f.1).n, false, l6, bK, aM s.l xs, w8 s.l xs⟩ s.st)).sites))) := by
  obtain ⟨q1, q2, q3, q4, q5, q6, q7, q8⟩ := B
  have hlc := @v8 pre 3 f.1 l6 n7 xs .nil .nil rest
  obtain ⟨⟨fy, fk, fn⟩, hf1, hfk, hf5, hf6, hf7⟩ := sc.fn f hf
  simp only at hfk hf5 hf6 hf7
  subst hfk
  have hf2 : 0 ≤ fn ∧ fn < s.p.funcs.length := by rw [bd.hf, List.length_map] at hf6; exact ⟨hf5, hf6⟩
  have hf3 : (s.p.funcs.getD fn.toNat j6).params = f.2 := by rw [bd.hf, getD_map (d' := j6) (by omega)] at hf7; rw [← hf7]
  have hf4 := bd.fp f hf
  refine c151z ?_
  refine g5.z8 (hT e (z1 e.k (bC s)) s.code s.sites ++ [⟨0, false, 149, 11, [.int .i64 3, .str f.1, .int .i64 l6.op, .int .i64 l6.num, .str l6.name, .vec l6.args.length (n5 l6.args), .str n7.name, .vec n7.idx.length (n5 n7.idx), .vec (xs).length (aY xs), .vec (Go.Un.Sl.len Go.Un.Sl.nil) (o9 Go.Un.Sl.nil), .vec (Go.Un.Sl.len Go.Un.Sl.nil) (o9 Go.Un.Sl.nil)], 0⟩]) rfl ?_
  refine c197z ?_
  refine .T ?_
  refine .sk ?_
  refine .T ?_
  refine c189z ?_
  refine .ch rfl rfl (fE (c_call3 (s := bC s) t117 s.st sc bd.hE bd.hc hf1 hf2 hf3 hf4 ha)) ?_
  refine .e 1 ?_
  refine .ch rfl rfl (fE (lM t43 t40 ⟨2, fn, false, l6, bK, aM s.l xs, w8 s.l xs⟩ s.st t23)) ?_
  refine .nil ?_
  exact .mk _ (by rw [dR hf1])
theorem c_blk4 {e : Frm} {c : Ctx} (sc : SC E c vs s.l) (bd : Bd E c s.p) (B : Bnd s W) (hW : 1 ≤ W) (f : BA × List Pm) (hf : f ∈ E.funcs) (xs : List Ar) (ha : GAs E vs f.2 xs) : g5 Tryz.prog cfg (pC [1, 0, 1, 0, 0, 1, 0] (iS Tryz.f66)) ⟨mkS 253 [(0, AV.ptr e.k 0 0), (1, AV.vec (Go.Un.Sl.len (pre.app (.cons 4 f.1 l6 n7 xs .nil .nil rest))) (o9 (pre.app (.cons 4 f.1 l6 n7 xs .nil .nil rest)))), (4, AV.vec l0.length (j8 l0)), (5, AV.int .i64 ((pre.len : Nat) : Int))], (hT e (z1 e.k s) s.code s.sites)⟩ (Led 253 [(0, AV.ptr e.k 0 0), (1, AV.vec (Go.Un.Sl.len (pre.app (.cons 4 f.1 l6 n7 xs .nil .nil rest))) (o9 (pre.app (.cons 4 f.1 l6 n7 xs .nil .nil rest)))), (4, AV.vec l0.length (j8 l0)), (5, AV.int .i64 ((pre.len : Nat) : Int))] ((hT e (z1 e.k (o5 (bC s) ⟨3, (eD s.l f.1).n, false, l6, bK, aM s.l xs, w8 s.l xs⟩ s.st)) ((o5 (bC s) ⟨3, (eD s.l f.1).n, false, l6, bK, aM s.l xs, w8 s.l xs⟩ s.st)).code ((o5 (bC s) ⟨3, (eD s.l f.1).n, false, l6, bK, aM s.l xs, w8 s.l xs⟩ s.st)).sites))) := by
  obtain ⟨q1, q2, q3, q4, q5, q6, q7, q8⟩ := B
  have hlc := @v8 pre 4 f.1 l6 n7 xs .nil .nil rest
  obtain ⟨⟨fy, fk, fn⟩, hf1, hfk, hf5, hf6, hf7⟩ := sc.fn f hf
  simp only at hfk hf5 hf6 hf7
  subst hfk
  have hf2 : 0 ≤ fn ∧ fn < s.p.funcs.length := by rw [bd.hf, List.length_map] at hf6; exact ⟨hf5, hf6⟩
  have hf3 : (s.p.funcs.getD fn.toNat j6).params = f.2 := by rw [bd.hf, getD_map (d' := j6) (by omega)] at hf7; rw [← hf7]
  have hf4 := bd.fp f hf
  refine c151z ?_
  refine g5.z8 (hT e (z1 e.k (bC s)) s.code s.sites ++ [⟨0, false, 149, 11, [.int .i64 4, .str f.1, .int .i64 l6.op, .int .i64 l6.num, .str l6.name, .vec l6.args.length (n5 l6.args), .str n7.name, .vec n7.idx.length (n5 n7.idx), .vec (xs).length (aY xs), .vec (Go.Un.Sl.len Go.Un.Sl.nil) (o9 Go.Un.Sl.nil), .vec (Go.Un.Sl.len Go.Un.Sl.nil) (o9 Go.Un.Sl.nil)], 0⟩]) rfl ?_
  refine c228z ?_
  refine .T ?_
  refine .c8 [0, 1, 4, 5, 6, 7] ?_
  refine c189z ?_
  refine .ch rfl rfl (fE (c_call4 (s := bC s) t117 s.st sc bd.hE bd.hc hf1 hf2 hf3 hf4 ha)) ?_
  refine .e 1 ?_
  refine .ch rfl rfl (fE (lM t43 t40 ⟨3, fn, false, l6, bK, aM s.l xs, w8 s.l xs⟩ s.st t23)) ?_
  refine .nil ?_
  exact .mk _ (by rw [dR hf1])
theorem c_blk5 {e : Frm} {c : Ctx} (sc : SC E c vs s.l) (bd : Bd E c s.p) (B : Bnd s W) (hW : 1 ≤ W) (r : Rf) (hR : GR E vs r) : g5 Tryz.prog cfg (pC [1, 0, 1, 0, 0, 1, 0] (iS Tryz.f66)) ⟨mkS 253 [(0, AV.ptr e.k 0 0), (1, AV.vec (Go.Un.Sl.len (pre.app (.cons 5 ByteArray.empty l6 r [] .nil .nil rest))) (o9 (pre.app (.cons 5 ByteArray.empty l6 r [] .nil .nil rest)))), (4, AV.vec l0.length (j8 l0)), (5, AV.int .i64 ((pre.len : Nat) : Int))], (hT e (z1 e.k s) s.code s.sites)⟩ (Led 253 [(0, AV.ptr e.k 0 0), (1, AV.vec (Go.Un.Sl.len (pre.app (.cons 5 ByteArray.empty l6 r [] .nil .nil rest))) (o9 (pre.app (.cons 5 ByteArray.empty l6 r [] .nil .nil rest)))), (4, AV.vec l0.length (j8 l0)), (5, AV.int .i64 ((pre.len : Nat) : Int))] ((hT e (z1 e.k (o5 (bC s) ⟨4, 0, false, l6, pE s.l r, [], []⟩ s.st)) ((o5 (bC s) ⟨4, 0, false, l6, pE s.l r, [], []⟩ s.st)).code ((o5 (bC s) ⟨4, 0, false, l6, pE s.l r, [], []⟩ s.st)).sites))) := by
  obtain ⟨q1, q2, q3, q4, q5, q6, q7, q8⟩ := B
  have hlc := @v8 pre 5 ByteArray.empty l6 r [] .nil .nil rest
  refine c151z ?_
  refine g5.z8 (hT e (z1 e.k (bC s)) s.code s.sites ++ [⟨0, false, 149, 11, [.int .i64 5, .str ByteArray.empty, .int .i64 l6.op, .int .i64 l6.num, .str l6.name, .vec l6.args.length (n5 l6.args), .str r.name, .vec r.idx.length (n5 r.idx), .vec (([] : List Ar)).length (aY ([] : List Ar)), .vec (Go.Un.Sl.len Go.Un.Sl.nil) (o9 Go.Un.Sl.nil), .vec (Go.Un.Sl.len Go.Un.Sl.nil) (o9 Go.Un.Sl.nil)], 0⟩]) rfl ?_
  refine c259z ?_
  refine c107z ?_
  refine .c8 [0, 1, 4, 5, 6, 7] ?_
  refine .r ?_
  refine .e 5 ?_
  refine .ch rfl rfl (fE (CP (s := bC s) t117 s.st sc bd.hE bd.hc hR)) ?_
  refine .e 2 ?_
  refine .ch rfl rfl (fE (lM t43 t40 ⟨4, 0, false, l6, pE s.l r, [], []⟩ s.st t23)) ?_
  refine .nil ?_
  exact .mk _ rfl
theorem c_blk6 {e : Frm} {c : Ctx} (sc : SC E c vs s.l) (bd : Bd E c s.p) (B : Bnd s W) (hW : 1 ≤ W) (r : Rf) (hR : GR E vs r) : g5 Tryz.prog cfg (pC [1, 0, 1, 0, 0, 1, 0] (iS Tryz.f66)) ⟨mkS 253 [(0, AV.ptr e.k 0 0), (1, AV.vec (Go.Un.Sl.len (pre.app (.cons 6 ByteArray.empty l6 r [] .nil .nil rest))) (o9 (pre.app (.cons 6 ByteArray.empty l6 r [] .nil .nil rest)))), (4, AV.vec l0.length (j8 l0)), (5, AV.int .i64 ((pre.len : Nat) : Int))], (hT e (z1 e.k s) s.code s.sites)⟩ (Led 253 [(0, AV.ptr e.k 0 0), (1, AV.vec (Go.Un.Sl.len (pre.app (.cons 6 ByteArray.empty l6 r [] .nil .nil rest))) (o9 (pre.app (.cons 6 ByteArray.empty l6 r [] .nil .nil rest)))), (4, AV.vec l0.length (j8 l0)), (5, AV.int .i64 ((pre.len : Nat) : Int))] ((hT e (z1 e.k (o5 (bC s) ⟨5, 0, false, l6, pE s.l r, [], []⟩ s.st)) ((o5 (bC s) ⟨5, 0, false, l6, pE s.l r, [], []⟩ s.st)).code ((o5 (bC s) ⟨5, 0, false, l6, pE s.l r, [], []⟩ s.st)).sites))) := by
  obtain ⟨q1, q2, q3, q4, q5, q6, q7, q8⟩ := B
  have hlc := @v8 pre 6 ByteArray.empty l6 r [] .nil .nil rest
  refine c151z ?_
  refine g5.z8 (hT e (z1 e.k (bC s)) s.code s.sites ++ [⟨0, false, 149, 11, [.int .i64 6, .str ByteArray.empty, .int .i64 l6.op, .int .i64 l6.num, .str l6.name, .vec l6.args.length (n5 l6.args), .str r.name, .vec r.idx.length (n5 r.idx), .vec (([] : List Ar)).length (aY ([] : List Ar)), .vec (Go.Un.Sl.len Go.Un.Sl.nil) (o9 Go.Un.Sl.nil), .vec (Go.Un.Sl.len Go.Un.Sl.nil) (o9 Go.Un.Sl.nil)], 0⟩]) rfl ?_
  refine c259z ?_
  refine c9z ?_
  refine .c8 [0, 1, 4, 5, 6, 7, 41] ?_
  refine c107z ?_
  refine .r ?_
  refine .e 5 ?_
  refine .ch rfl rfl (fE (CP (s := bC s) t117 s.st sc bd.hE bd.hc hR)) ?_
  refine .e 2 ?_
  refine .ch rfl rfl (fE (lM t43 t40 ⟨5, 0, false, l6, pE s.l r, [], []⟩ s.st t23)) ?_
  refine .nil ?_
  exact .mk _ rfl
theorem c_blk7 {e : Frm} {c : Ctx} (sc : SC E c vs s.l) (bd : Bd E c s.p) (B : Bnd s W) (a : Ex) (he : GE vs 2 a) (th : Sl) (hW : 1 + th.wt ≤ W) (ith : (∀ s' : Sco, SC E c vs s'.l → s'.p = s.p → Bnd s' th.wt → ∀ e : Frm, CH 66 [.ptr e.k 0 0, .vec th.len (o9 th)] (hT e (z1 e.k s') (s').code (s').sites) (.tup []) (hT e (z1 e.k (cC s'.l s' th)) ((cC s'.l s' th)).code ((cC s'.l s' th)).sites))) : g5 Tryz.prog cfg (pC [1, 0, 1, 0, 0, 1, 0] (iS Tryz.f66)) ⟨mkS 253 [(0, AV.ptr e.k 0 0), (1, AV.vec (Go.Un.Sl.len (pre.app (.cons 7 ByteArray.empty a n7 [] th .nil rest))) (o9 (pre.app (.cons 7 ByteArray.empty a n7 [] th .nil rest)))), (4, AV.vec l0.length (j8 l0)), (5, AV.int .i64 ((pre.len : Nat) : Int))], (hT e (z1 e.k s) s.code s.sites)⟩ (Led 253 [(0, AV.ptr e.k 0 0), (1, AV.vec (Go.Un.Sl.len (pre.app (.cons 7 ByteArray.empty a n7 [] th .nil rest))) (o9 (pre.app (.cons 7 ByteArray.empty a n7 [] th .nil rest)))), (4, AV.vec l0.length (j8 l0)), (5, AV.int .i64 ((pre.len : Nat) : Int))] ((hT e (z1 e.k (bY (dA s a th) s.code.length ((dA s a th).code.length : Int))) ((bY (dA s a th) s.code.length ((dA s a th).code.length : Int))).code ((bY (dA s a th) s.code.length ((dA s a th).code.length : Int))).sites))) := by
  obtain ⟨q1, q2, q3, q4, q5, q6, q7, q8⟩ := B
  have hlc := @v8 pre 7 ByteArray.empty a n7 [] th .nil rest
  refine c151z ?_
  refine g5.z8 (hT e (z1 e.k (bC s)) s.code s.sites ++ [⟨0, false, 149, 11, [.int .i64 7, .str ByteArray.empty, .int .i64 a.op, .int .i64 a.num, .str a.name, .vec a.args.length (n5 a.args), .str n7.name, .vec n7.idx.length (n5 n7.idx), .vec (([] : List Ar)).length (aY ([] : List Ar)), .vec (Go.Un.Sl.len th) (o9 th), .vec (Go.Un.Sl.len Go.Un.Sl.nil) (o9 Go.Un.Sl.nil)], 0⟩]) rfl ?_
  refine c259z ?_
  refine c9z ?_
  refine c38z ?_
  refine c107z ?_
  refine c26z ?_
  refine c146z ?_
  refine .n ?_
  refine .c8 [0, 1, 4, 5, 6, 7, 12] ?_
  have b1 : Bnd (o5 (bC s) ⟨6, 0, false, eU s.l a, bK, [], []⟩ s.st) th.wt := ⟨q1, t170, t157, t151, q5, t159, t152, t137⟩
  refine c100z ?_
  refine .nil ?_
  have fc := iC (l0 := s.l) (s := o5 (bC s) ⟨6, 0, false, eU s.l a, bK, [], []⟩ s.st) (S := th)
  have fs := gZ (l0 := s.l) (s := o5 (bC s) ⟨6, 0, false, eU s.l a, bK, [], []⟩ s.st) (S := th)
  rw [bP, fT] at fc
  rw [bG, eA] at fs
  change _ ≤ (dA s a th).code.length ∧ (dA s a th).code.length ≤ _ at fc
  change _ ≤ (dA s a th).sites.length ∧ (dA s a th).sites.length ≤ _ at fs
  change g5 _ _ _ ⟨mkS _ _, hT e (z1 e.k (dA s a th)) (dA s a th).code (dA s a th).sites ++ _⟩ _
  refine c9z ?_
  refine .c8 [0, 1, 4, 5, 12] ?_
  refine c111z ?_
  refine c168z ?_
  refine .p 3 ?_
  refine c177z ?_
  exact .mk _ (by rw [rK]; rfl)
theorem c_blk17 {e : Frm} {c : Ctx} (sc : SC E c vs s.l) (bd : Bd E c s.p) (B : Bnd s W) (a : Ex) (he : GE vs 2 a) (th el : Sl) (hel : 0 < el.len) (hW : 1 + th.wt + el.wt ≤ W) (ith : (∀ s' : Sco, SC E c vs s'.l → s'.p = s.p → Bnd s' th.wt → ∀ e : Frm, CH 66 [.ptr e.k 0 0, .vec th.len (o9 th)] (hT e (z1 e.k s') (s').code (s').sites) (.tup []) (hT e (z1 e.k (cC s'.l s' th)) ((cC s'.l s' th)).code ((cC s'.l s' th)).sites))) (iel : (∀ s' : Sco, SC E c vs s'.l → s'.p = s.p → Bnd s' el.wt → ∀ e : Frm, CH 66 [.ptr e.k 0 0, .vec el.len (o9 el)] (hT e (z1 e.k s') (s').code (s').sites) (.tup []) (hT e (z1 e.k (cC s'.l s' el)) ((cC s'.l s' el)).code ((cC s'.l s' el)).sites))) : g5 Tryz.prog cfg (pC [1, 0, 1, 0, 0, 1, 0] (iS Tryz.f66)) ⟨mkS 253 [(0, AV.ptr e.k 0 0), (1, AV.vec (Go.Un.Sl.len (pre.app (.cons 7 ByteArray.empty a n7 [] th el rest))) (o9 (pre.app (.cons 7 ByteArray.empty a n7 [] th el rest)))), (4, AV.vec l0.length (j8 l0)), (5, AV.int .i64 ((pre.len : Nat) : Int))], (hT e (z1 e.k s) s.code s.sites)⟩ (Led 253 [(0, AV.ptr e.k 0 0), (1, AV.vec (Go.Un.Sl.len (pre.app (.cons 7 ByteArray.empty a n7 [] th el rest))) (o9 (pre.app (.cons 7 ByteArray.empty a n7 [] th el rest)))), (4, AV.vec l0.length (j8 l0)), (5, AV.int .i64 ((pre.len : Nat) : Int))] ((hT e (z1 e.k (bY (dB s a th el) (dA s a th).code.length ((dB s a th el).code.length : Int))) ((bY (dB s a th el) (dA s a th).code.length ((dB s a th el).code.length : Int))).code ((bY (dB s a th el) (dA s a th).code.length ((dB s a th el).code.length : Int))).sites))) := by
  obtain ⟨q1, q2, q3, q4, q5, q6, q7, q8⟩ := B
  have hlc := @v8 pre 7 ByteArray.empty a n7 [] th el rest
  refine c151z ?_
  refine g5.z8 (hT e (z1 e.k (bC s)) s.code s.sites ++ [⟨0, false, 149, 11, [.int .i64 7, .str ByteArray.empty, .int .i64 a.op, .int .i64 a.num, .str a.name, .vec a.args.length (n5 a.args), .str n7.name, .vec n7.idx.length (n5 n7.idx), .vec (([] : List Ar)).length (aY ([] : List Ar)), .vec (Go.Un.Sl.len th) (o9 th), .vec (Go.Un.Sl.len el) (o9 el)], 0⟩]) rfl ?_
  refine c259z ?_
  refine c9z ?_
  refine c38z ?_
  refine c107z ?_
  refine c26z ?_
  refine c146z ?_
  refine .n ?_
  refine .c8 [0, 1, 4, 5, 6, 7, 12] ?_
  have b1 : Bnd (o5 (bC s) ⟨6, 0, false, eU s.l a, bK, [], []⟩ s.st) th.wt := ⟨q1, t170, t157, t151, q5, t159, t152, t137⟩
  refine c100z ?_
  refine .nil ?_
  have fc := iC (l0 := s.l) (s := o5 (bC s) ⟨6, 0, false, eU s.l a, bK, [], []⟩ s.st) (S := th)
  have fs := gZ (l0 := s.l) (s := o5 (bC s) ⟨6, 0, false, eU s.l a, bK, [], []⟩ s.st) (S := th)
  rw [bP, fT] at fc
  rw [bG, eA] at fs
  change _ ≤ (dA s a th).code.length ∧ (dA s a th).code.length ≤ _ at fc
  change _ ≤ (dA s a th).sites.length ∧ (dA s a th).sites.length ≤ _ at fs
  change g5 _ _ _ ⟨mkS _ _, hT e (z1 e.k (dA s a th)) (dA s a th).code (dA s a th).sites ++ _⟩ _
  refine .z ?_
  refine uTbz ?_
  intro e1 qe1
  refine .c8 [0, 1, 4, 5, 6, 7, 12] ?_
  refine c20z ?_
  refine .ch rfl rfl (fE (lM t43 t40 ⟨7, 0, false, l6, bK, [], []⟩ s.st t23)) ?_
  refine .n ?_
  change g5 _ _ _ ⟨mkS _ _, hT e (z1 e.k (stJ s a th)) (stJ s a th).code (stJ s a th).sites ++ _⟩ _
  have jc : (stJ s a th).code.length = (dA s a th).code.length + 1 := bP
  have js : (stJ s a th).sites.length = (dA s a th).sites.length + 1 := bG
  refine .sg u4 (mkH 13 [0, 1, 3, 7, 0, 0, 32, 96, 224, 480, 1023, 2047, 4095] [12] [] [0, 4096] []) 0 ?_
  refine c98z ?_
  refine c168z ?_
  refine .p 3 ?_
  refine c177z ?_
  refine .c8 [0, 1, 4, 5, 6, 13] ?_
  refine g5.z8 (hT e (z1 e.k (bY (stJ s a th) s.code.length ((stJ s a th).code.length : Int))) (bY (stJ s a th) s.code.length ((stJ s a th).code.length : Int)).code (bY (stJ s a th) s.code.length ((stJ s a th).code.length : Int)).sites ++ [_]) (by rw [rK]; rfl) ?_
  have lb := qB th s.loc
  have b2 : Bnd (bY (stJ s a th) s.code.length ((stJ s a th).code.length : Int)) el.wt := ⟨q1, by show s.l.length + _ ≤ _; omega, by rw [jF, jc]; omega, by rw [mX, js]; omega, by show 0 ≤ eV th s.loc; omega, by show eV th s.loc + _ ≤ _; omega, by show 0 ≤ s.st + 1 + (th.wt : Int); omega, by show s.st + 1 + (th.wt : Int) + _ ≤ _; omega⟩
  refine c20z ?_
  refine .ch rfl rfl (fE (iel (bY (stJ s a th) s.code.length ((stJ s a th).code.length : Int)) sc rfl b2 _)) ?_
  refine .nil ?_
  have ec : (stJ s a th).code.length ≤ (dB s a th el).code.length ∧ (dB s a th el).code.length ≤ (stJ s a th).code.length + 2 * el.wt := by have h0 := iC (l0 := s.l) (s := (bY (stJ s a th) s.code.length ((stJ s a th).code.length : Int))) (S := el); rw [jF] at h0; exact h0
  change g5 _ _ _ ⟨mkS _ _, hT e (z1 e.k (dB s a th el)) (dB s a th el).code (dB s a th el).sites ++ _⟩ _
  refine c111z ?_
  refine c168z ?_
  refine .p 3 ?_
  refine c177z ?_
  exact .mk _ (by rw [rK]; rfl)
theorem c_blk8 {e : Frm} {c : Ctx} (sc : SC E c vs s.l) (bd : Bd E c s.p) (B : Bnd s W) (a : Ex) (he : GE vs 2 a) (th : Sl) (hW : 1 + th.wt ≤ W) (ith : (∀ s' : Sco, SC E c vs s'.l → s'.p = s.p → Bnd s' th.wt → ∀ e : Frm, CH 66 [.ptr e.k 0 0, .vec th.len (o9 th)] (hT e (z1 e.k s') (s').code (s').sites) (.tup []) (hT e (z1 e.k (cC s'.l s' th)) ((cC s'.l s' th)).code ((cC s'.l s' th)).sites))) : g5 Tryz.prog cfg (pC [1, 0, 1, 0, 0, 1, 0] (iS Tryz.f66)) ⟨mkS 253 [(0, AV.ptr e.k 0 0), (1, AV.vec (Go.Un.Sl.len (pre.app (.cons 8 ByteArray.empty a n7 [] th .nil rest))) (o9 (pre.app (.cons 8 ByteArray.empty a n7 [] th .nil rest)))), (4, AV.vec l0.length (j8 l0)), (5, AV.int .i64 ((pre.len : Nat) : Int))], (hT e (z1 e.k s) s.code s.sites)⟩ (Led 253 [(0, AV.ptr e.k 0 0), (1, AV.vec (Go.Un.Sl.len (pre.app (.cons 8 ByteArray.empty a n7 [] th .nil rest))) (o9 (pre.app (.cons 8 ByteArray.empty a n7 [] th .nil rest)))), (4, AV.vec l0.length (j8 l0)), (5, AV.int .i64 ((pre.len : Nat) : Int))] ((hT e (z1 e.k (bY (xU s a th) s.code.length ((xU s a th).code.length : Int))) ((bY (xU s a th) s.code.length ((xU s a th).code.length : Int))).code ((bY (xU s a th) s.code.length ((xU s a th).code.length : Int))).sites))) := by
  obtain ⟨q1, q2, q3, q4, q5, q6, q7, q8⟩ := B
  have hlc := @v8 pre 8 ByteArray.empty a n7 [] th .nil rest
  refine c151z ?_
  refine g5.z8 (hT e (z1 e.k (bC s)) s.code s.sites ++ [⟨0, false, 149, 11, [.int .i64 8, .str ByteArray.empty, .int .i64 a.op, .int .i64 a.num, .str a.name, .vec a.args.length (n5 a.args), .str n7.name, .vec n7.idx.length (n5 n7.idx), .vec (([] : List Ar)).length (aY ([] : List Ar)), .vec (Go.Un.Sl.len th) (o9 th), .vec (Go.Un.Sl.len Go.Un.Sl.nil) (o9 Go.Un.Sl.nil)], 0⟩]) rfl ?_
  refine c259z ?_
  refine c9z ?_
  refine c38z ?_
  refine c9z ?_
  refine c107z ?_
  refine c26z ?_
  refine c146z ?_
  refine .n ?_
  refine .c8 [0, 1, 4, 5, 6, 7, 14] ?_
  have b1 : Bnd (o5 (bC s) ⟨6, 0, false, eU s.l a, bK, [], []⟩ s.st) th.wt := ⟨q1, t170, t157, t151, q5, t159, t152, t137⟩
  refine c100z ?_
  refine .nil ?_
  have fc := iC (l0 := s.l) (s := o5 (bC s) ⟨6, 0, false, eU s.l a, bK, [], []⟩ s.st) (S := th)
  have fs := gZ (l0 := s.l) (s := o5 (bC s) ⟨6, 0, false, eU s.l a, bK, [], []⟩ s.st) (S := th)
  rw [bP, fT] at fc
  rw [bG, eA] at fs
  change _ ≤ (dA s a th).code.length ∧ (dA s a th).code.length ≤ _ at fc
  change _ ≤ (dA s a th).sites.length ∧ (dA s a th).sites.length ≤ _ at fs
  change g5 _ _ _ ⟨mkS _ _, hT e (z1 e.k (dA s a th)) (dA s a th).code (dA s a th).sites ++ _⟩ _
  refine c43z ?_
  refine .ch rfl rfl (fE (lM t43 t40 ⟨7, ((s.code.length : Nat) : Int), false, l6, bK, [], []⟩ s.st t23)) ?_
  refine .nil ?_
  refine .c8 [0, 1, 4, 5, 14] ?_
  change g5 _ _ _ ⟨mkS _ _, hT e (z1 e.k (xU s a th)) (xU s a th).code (xU s a th).sites ++ _⟩ _
  have jc : (xU s a th).code.length = (dA s a th).code.length + 1 := bP
  refine c111z ?_
  refine c168z ?_
  refine .p 3 ?_
  refine c177z ?_
  exact .mk _ (by rw [rK]; rfl)
theorem c_blk9 {e : Frm} {c : Ctx} (sc : SC E c vs s.l) (bd : Bd E c s.p) (B : Bnd s W) (hW : 1 ≤ W) : g5 Tryz.prog cfg (pC [1, 0, 1, 0, 0, 1, 0] (iS Tryz.f66)) ⟨mkS 253 [(0, AV.ptr e.k 0 0), (1, AV.vec (Go.Un.Sl.len (pre.app (.cons 9 ByteArray.empty l6 n7 [] .nil .nil rest))) (o9 (pre.app (.cons 9 ByteArray.empty l6 n7 [] .nil .nil rest)))), (4, AV.vec l0.length (j8 l0)), (5, AV.int .i64 ((pre.len : Nat) : Int))], (hT e (z1 e.k s) s.code s.sites)⟩ (Led 253 [(0, AV.ptr e.k 0 0), (1, AV.vec (Go.Un.Sl.len (pre.app (.cons 9 ByteArray.empty l6 n7 [] .nil .nil rest))) (o9 (pre.app (.cons 9 ByteArray.empty l6 n7 [] .nil .nil rest)))), (4, AV.vec l0.length (j8 l0)), (5, AV.int .i64 ((pre.len : Nat) : Int))] ((hT e (z1 e.k (o5 (bC s) ⟨8, 0, false, l6, bK, [], []⟩ s.st)) ((o5 (bC s) ⟨8, 0, false, l6, bK, [], []⟩ s.st)).code ((o5 (bC s) ⟨8, 0, false, l6, bK, [], []⟩ s.st)).sites))) := by
  obtain ⟨q1, q2, q3, q4, q5, q6, q7, q8⟩ := B
  have hlc := @v8 pre 9 ByteArray.empty l6 n7 [] .nil .nil rest
  refine c151z ?_
  refine g5.z8 (hT e (z1 e.k (bC s)) s.code s.sites ++ [⟨0, false, 149, 11, [.int .i64 9, .str ByteArray.empty, .int .i64 l6.op, .int .i64 l6.num, .str l6.name, .vec l6.args.length (n5 l6.args), .str n7.name, .vec n7.idx.length (n5 n7.idx), .vec (([] : List Ar)).length (aY ([] : List Ar)), .vec (Go.Un.Sl.len Go.Un.Sl.nil) (o9 Go.Un.Sl.nil), .vec (Go.Un.Sl.len Go.Un.Sl.nil) (o9 Go.Un.Sl.nil)], 0⟩]) rfl ?_
  refine c259z ?_
  refine c9z ?_
  refine c38z ?_
  refine c118z ?_
  refine .c8 [0, 1, 4, 5, 7] ?_
  refine .r ?_
  refine .e 3 ?_
  refine .ch rfl rfl (fE (lM t43 t40 ⟨8, 0, false, l6, bK, [], []⟩ s.st t23)) ?_
  refine .nil ?_
  exact .mk _ rfl
theorem Bnd.mono {W' : Nat} (h : Bnd s W) (hw : W' ≤ W) : Bnd s W' := by
  obtain ⟨q1, q2, q3, q4, q5, q6, q7, q8⟩ := h
  exact ⟨q1, by omega, by omega, by omega, q5, by omega, q7, by omega⟩
theorem Bnd.ins (h : Bnd s (1 + W)) (i : Ins) : Bnd (o5 (bC s) i s.st) W := by
  obtain ⟨q1, q2, q3, q4, q5, q6, q7, q8⟩ := h
  exact ⟨q1, t170, t157, t151, q5, t159, t152, t137⟩
theorem Bnd.var (h : Bnd s (1 + W)) (i : Ins) (n : BA) : Bnd (pI (o5 (bC s) i s.st) n) W := by
  obtain ⟨q1, q2, q3, q4, q5, q6, q7, q8⟩ := h
  exact ⟨by simp [pI], by show (s.l ++ [_]).length + _ ≤ _; simp; omega, by show (o5 (bC s) i s.st).code.length + _ ≤ _; rw [bP, fT]; omega, by show (o5 (bC s) i s.st).sites.length + _ ≤ _; rw [bG, eA]; omega, by show 0 ≤ s.loc + 1; omega, by show s.loc + 1 + _ ≤ _; omega, t152, t137⟩
theorem Bnd.fin (h : Bnd s (S.wt + W)) : Bnd (cC s.l s S) W := by
  obtain ⟨q1, q2, q3, q4, q5, q6, q7, q8⟩ := h
  have h1 := iC (l0 := s.l) (s := s) (S := S)
  have h2 := gZ (l0 := s.l) (s := s) (S := S)
  have h3 := qB S s.loc
  exact ⟨q1, by show s.l.length + _ ≤ _; omega, by omega, by omega, by show 0 ≤ eV S s.loc; omega, by show eV S s.loc + _ ≤ _; omega, by show 0 ≤ s.st + (S.wt : Int); omega, by show s.st + (S.wt : Int) + _ ≤ _; omega⟩
theorem Bnd.tgt {i : Nat} {v : Int} (h : Bnd s W) : Bnd (bY s i v) W := by
  obtain ⟨q1, q2, q3, q4, q5, q6, q7, q8⟩ := h
  exact ⟨q1, q2, by rw [jF]; exact q3, q4, q5, q6, q7, q8⟩
theorem Bnd.put2 (h : Bnd s W) (i : Ins) (t : Int) (hc : s.code.length + 1 + 2 * W ≤ 5000) (hs : s.sites.length + 1 + 2 * W ≤ 5000) : Bnd (o5 s i t) W := by
  obtain ⟨q1, q2, q3, q4, q5, q6, q7, q8⟩ := h
  exact ⟨q1, by rw [E7]; omega, by rw [bP]; omega, by rw [bG]; omega, q5, by rw [tH]; omega, q7, by rw [N0]; omega⟩
variable {a : Ex}
theorem zV (h : Bnd s (1 + th.wt + W)) : Bnd (dA s a th) W ∧ (dA s a th).code.length + 1 + 2 * W ≤ 5000 ∧ (dA s a th).sites.length + 1 + 2 * W ≤ 5000 := by
  have h1 := (show Bnd s (1 + (th.wt + W)) from h.mono (by omega)).ins ⟨6, 0, false, eU s.l a, bK, [], []⟩
  have h2 := iC (l0 := s.l) (s := o5 (bC s) ⟨6, 0, false, eU s.l a, bK, [], []⟩ s.st) (S := th)
  have h3 := gZ (l0 := s.l) (s := o5 (bC s) ⟨6, 0, false, eU s.l a, bK, [], []⟩ s.st) (S := th)
  rw [bP, fT] at h2
  rw [bG, eA] at h3
  have q3 := h.cb
  have q4 := h.sb
  exact ⟨h1.fin, by show (cC s.l (o5 (bC s) _ s.st) th).code.length + 1 + 2 * W ≤ 5000; omega, by show (cC s.l (o5 (bC s) _ s.st) th).sites.length + 1 + 2 * W ≤ 5000; omega⟩
theorem JX (h : Bnd s (1 + th.wt + (el.wt + W))) : Bnd (dB s a th el) W := by
  obtain ⟨h1, h2, h3⟩ := zV (a := a) h
  exact (((h1.put2 ⟨7, 0, false, l6, bK, [], []⟩ s.st h2 h3).tgt (i := s.code.length) (v := ((stJ s a th).code.length : Int)))).fin
theorem JY {e : Frm} {c : Ctx} (sc : SC E c vs s.l) (bd : Bd E c s.p) {k : Int} {n : BA} (hG : GS E (.cons k n a r xs th el rest) vs) (B : Bnd s (Sl.cons k n a r xs th el rest).wt) (ih : ∀ T : Sl, (T = th ∨ T = el) → GS E T vs → (∀ s' : Sco, SC E c vs s'.l → s'.p = s.p → Bnd s' T.wt → ∀ e : Frm, CH 66 [.ptr e.k 0 0, .vec T.len (o9 T)] (hT e (z1 e.k s') (s').code (s').sites) (.tup []) (hT e (z1 e.k (cC s'.l s' T)) ((cC s'.l s' T)).code ((cC s'.l s' T)).sites))) : ∃ s' vs', SC E c vs' s'.l ∧ GS E rest vs' ∧ s'.p = s.p ∧ Bnd s' rest.wt ∧ cC l0 s' rest = cC l0 s (.cons k n a r xs th el rest) ∧ g5 Tryz.prog cfg (pC [1, 0, 1, 0, 0, 1, 0] (iS Tryz.f66)) ⟨mkS 253 [(0, AV.ptr e.k 0 0), (1, AV.vec (Go.Un.Sl.len (pre.app (.cons k n a r xs th el rest))) (o9 (pre.app (.cons k n a r xs th el rest)))), (4, AV.vec l0.length (j8 l0)), (5, AV.int .i64 ((pre.len : Nat) : Int))], (hT e (z1 e.k s) s.code s.sites)⟩ (Led 253 [(0, AV.ptr e.k 0 0), (1, AV.vec (Go.Un.Sl.len (pre.app (.cons k n a r xs th el rest))) (o9 (pre.app (.cons k n a r xs th el rest)))), (4, AV.vec l0.length (j8 l0)), (5, AV.int .i64 ((pre.len : Nat) : Int))] (hT e (z1 e.k s') (s').code (s').sites)) := by
  rcases hG with ⟨rfl, ⟨j, hj, rfl⟩, hn, he, rfl, rfl, rfl, rfl, hr⟩ | ⟨rfl, hn, he, rfl, rfl, rfl, rfl, hr⟩ | ⟨rfl | rfl, ⟨f, hf, rfl, ha⟩, rfl, rfl, rfl, rfl, hr⟩ | ⟨rfl | rfl, rfl, rfl, hR, rfl, rfl, rfl, hr⟩ | ⟨rfl, rfl, he, rfl, rfl, hth, hel, hr⟩ | ⟨rfl, rfl, he, rfl, rfl, hth, rfl, hr⟩ | ⟨rfl, rfl, rfl, rfl, rfl, rfl, rfl, hr⟩
  all_goals simp only [Sl.wt, Nat.add_zero] at B
  · exact ⟨(pI (o5 (bC s) ⟨1, s.loc, false, eU s.l a, bK, [], []⟩ s.st) (vnm j)), _, sc.push hj hn s.loc, hr, rfl, B.var _ _, fin_var, c_blk1 sc bd B (by omega) j hj hn a he⟩
  · exact ⟨(o5 (bC s) ⟨1, (eD s.l n).n, (eD s.l n).kind == 1, eU s.l a, bK, [], []⟩ s.st), vs, sc, hr, rfl, B.ins _, pK (by simp only [o8, show ¬ (2 : Int) = 1 from by decide, if_true, if_false]; rfl) (by decide), c_blk2 sc bd B (by omega) n hn a he⟩
  · exact ⟨(o5 (bC s) ⟨2, (eD s.l f.1).n, false, l6, bK, aM s.l xs, w8 s.l xs⟩ s.st), vs, sc, hr, rfl, B.ins _, pK (by simp only [o8, show ¬ (3 : Int) = 1 from by decide, show ¬ (3 : Int) = 2 from by decide, show ¬ (3 : Int) = 4 from by decide, true_or, if_true, if_false]) (by decide), c_blk3 sc bd B (by omega) f hf xs ha⟩
  · exact ⟨(o5 (bC s) ⟨3, (eD s.l f.1).n, false, l6, bK, aM s.l xs, w8 s.l xs⟩ s.st), vs, sc, hr, rfl, B.ins _, pK (by simp only [o8, show ¬ (4 : Int) = 1 from by decide, show ¬ (4 : Int) = 2 from by decide, or_true, if_true, if_false]) (by decide), c_blk4 sc bd B (by omega) f hf xs ha⟩
  · exact ⟨(o5 (bC s) ⟨4, 0, false, l6, pE s.l r, [], []⟩ s.st), vs, sc, hr, rfl, B.ins _, pK (by simp only [o8, show ¬ (5 : Int) = 1 from by decide, show ¬ (5 : Int) = 2 from by decide, show ¬ ((5 : Int) = 3 ∨ (5 : Int) = 4) from by decide, if_true, if_false]) (by decide), c_blk5 sc bd B (by omega) r hR⟩
  · exact ⟨(o5 (bC s) ⟨5, 0, false, l6, pE s.l r, [], []⟩ s.st), vs, sc, hr, rfl, B.ins _, pK (by simp only [o8, show ¬ (6 : Int) = 1 from by decide, show ¬ (6 : Int) = 2 from by decide, show ¬ ((6 : Int) = 3 ∨ (6 : Int) = 4) from by decide, show ¬ (6 : Int) = 5 from by decide, if_true, if_false]) (by decide), c_blk6 sc bd B (by omega) r hR⟩
  · by_cases h0 : 0 < el.len
    · exact ⟨(bY (dB s a th el) (dA s a th).code.length ((dB s a th el).code.length : Int)), vs, sc, hr, rfl, (JX (B.mono (by omega))).tgt, JW h0, c_blk17 sc bd B a he th el h0 (by omega) (ih _ (.inl rfl) hth) (ih _ (.inr rfl) hel)⟩
    · obtain rfl := len_nil.1 h0
      simp only [Sl.wt, Nat.add_zero] at B
      exact ⟨(bY (dA s a th) s.code.length ((dA s a th).code.length : Int)), vs, sc, hr, rfl, (zV B).1.tgt, fin_if, c_blk7 sc bd B a he th (by omega) (ih _ (.inl rfl) hth)⟩
  · exact ⟨(bY (xU s a th) s.code.length ((xU s a th).code.length : Int)), vs, sc, hr, rfl, ((zV (a := a) B).1.put2 _ _ (zV B).2.1 (zV B).2.2).tgt, fin_wh, c_blk8 sc bd B a he th (by omega) (ih _ (.inl rfl) hth)⟩
  · exact ⟨(o5 (bC s) ⟨8, 0, false, l6, bK, [], []⟩ s.st), vs, sc, hr, rfl, B.ins _, pK (by simp only [o8, show ¬ (9 : Int) = 1 from by decide, show ¬ (9 : Int) = 2 from by decide, show ¬ ((9 : Int) = 3 ∨ (9 : Int) = 4) from by decide, show ¬ (9 : Int) = 5 from by decide, show ¬ (9 : Int) = 6 from by decide, show ¬ (9 : Int) = 7 from by decide, show ¬ (9 : Int) = 8 from by decide, if_false]) (by decide), c_blk9 sc bd B (by omega)⟩
theorem fin_nil : cC l0 s .nil = { s with l := l0 } := by
  refine Sco.eq rfl rfl rfl ?_ ?_ ?_
  · simp [cC, Sl.wt]
  · simp [cC, o8]
  · simp [cC, bU]
theorem JZ {c : Ctx} (S : Sl) (hSl : S.wt ≤ 1000) (vars : List BA) (s : Sco) (sc0 : SC E c vars s.l) (hG0 : GS E S vars) (bd : Bd E c s.p) (B0 : Bnd s S.wt) (e : Frm) (ih : ∀ S' : Sl, S'.wt < S.wt → ∀ (vars : List BA) (s : Sco), SC E c vars s.l → GS E S' vars → Bd E c s.p → Bnd s S'.wt → ∀ e : Frm, CH 66 [.ptr e.k 0 0, .vec S'.len (o9 S')] (hT e (z1 e.k s) (s).code (s).sites) (.tup []) (hT e (z1 e.k (cC s.l s S')) ((cC s.l s S')).code ((cC s.l s S')).sites)) : CH 66 [.ptr e.k 0 0, .vec S.len (o9 S)] (hT e (z1 e.k s) s.code s.sites) (.tup []) (hT e (z1 e.k (cC s.l s S)) ((cC s.l s S)).code ((cC s.l s S)).sites) := by
  refine .wz Tryz.f66 253 ?_
  have hlw := cQ S
  refine c21z ?_
  refine .aG (fun m st => ∃ (Z : Sl) (pre : Sl) (rst : Sl) (vs : List BA) (cur : Sco), (m = rst.len ∧ (Z = S ∧ S = pre.app rst ∧ GS E rst vs ∧ SC E c vs cur.l ∧ cur.p = s.p ∧ Bnd cur rst.wt ∧ cC s.l cur rst = cC s.l s S)) ∧ st = ⟨mkS 253 [(0, AV.ptr e.k 0 0), (1, AV.vec (Go.Un.Sl.len Z) (o9 Z)), (4, AV.vec s.l.length (j8 s.l)), (5, AV.int .i64 ((pre.len : Nat) : Int))], hT e (z1 e.k cur) cur.code cur.sites⟩) (.v ⟨S, Sl.nil, S, vars, s, ⟨rfl, ⟨rfl, rfl, hG0, sc0, rfl, B0, rfl⟩⟩, rfl⟩ (hs := t10) (hr := t90)) ?_
  rintro m sl h' ⟨Z, pre, rst, vs, cur, ⟨hm, ⟨hZ, hS, hG, sc, hp, B, hF⟩⟩, hst⟩
  obtain ⟨rfl, rfl⟩ := St.mk.inj hst; clear hst
  subst hZ
  have hlen := congrArg Go.Un.Sl.len hS; rw [Go.Un.Sl.bN] at hlen
  refine c0z ?_
  refine u2z ?_ ?_
  ·intro e1 qe1
   refine c152z ?_
   obtain ⟨k, n, a, r, xs, th, el, rest, rfl⟩ := Go.Un.Sl.mV (s := rst) (by omega)
   subst hS
   have hwc := @E0 pre k n a r xs th el rest
   have hlc := @v8 pre k n a r xs th el rest
   obtain ⟨s2, vs2, r1, r2, r3, r4, r5, hrun⟩ := JY (e := e) (l0 := s.l) (pre := pre) sc (by rw [hp]; exact bd) hG B (fun T hT hgT s' q1 q2 q3 e' => ih T (by rcases hT with rfl | rfl <;> omega) _ s' q1 hgT (by rw [q2, hp]; exact bd) q3 e')
   refine g5.fitS [(0, AV.ptr e.k 0 0), (1, AV.vec (Go.Un.Sl.len (pre.app (.cons k n a r xs th el rest))) (o9 (pre.app (.cons k n a r xs th el rest)))), (4, AV.vec s.l.length (j8 s.l)), (5, AV.int .i64 ((pre.len : Nat) : Int))] ?_
   refine g5.led (hrun) ?_
   intro lq hq haq
   change g5 ..
   refine g5.fitS [(0, AV.ptr e.k 0 0), (1, AV.vec (Go.Un.Sl.len (pre.app (.cons k n a r xs th el rest))) (o9 (pre.app (.cons k n a r xs th el rest)))), (4, AV.vec s.l.length (j8 s.l)), (5, AV.int .i64 ((pre.len : Nat) : Int))] ?_ haq
   refine .rz ?_
   exact ⟨_, by omega, .v ⟨_, (pre.app (.cons k n a r xs th el .nil)), rest, vs2, s2, ⟨rfl, ⟨rfl, dT, r2, r1, r3.trans hp, r4, r5.trans hF⟩⟩, rfl⟩ (he := by rfl) (hl := by simp only [aC]; exact Nat.le_refl _) (hk := by exact hT_keep rfl) (hs := t10) (hr := t90)⟩
  intro e1 qe1
  refine .exit ?_
  have hr0 : rst = .nil := Sl.wG (by omega)
  subst hr0
  change g5 ..
  refine .rz ?_
  refine Ends.n ?_
  exact ⟨hT e ⟨0, false, 157, 10, [.vec cur.p.globals.length (r8 cur.p.globals), .vec cur.p.c4.length (g9 cur.p.c4), .vec cur.p.funcs.length (o7 cur.p.funcs), .vec s.l.length (j8 s.l), .int .i64 cur.loc, .int .i64 cur.st, .int .i64 0, .int .i64 0, .own (e.k + 1) cur.code.length 0 cur.code.length, .own (e.k + 2) cur.sites.length 0 cur.sites.length], 0⟩ cur.code cur.sites, [], _, (List.append_nil _).symm, by (simp only [aC]; exact Nat.le_refl _), (xE (eS.get ⟨.vec _ _, .vec _ _, .vec _ _, .vec _ _, .int _ _, .int _ _, .int _ _, .int _ _, .own _ _ _ _ e.lt.2.1, .own _ _ _ _ e.lt.2.2, trivial⟩)), rfl, by rw [← hF, fin_nil]; exact ⟨rfl, rfl⟩⟩
theorem N1 {E : Env} {c : Ctx} : ∀ (n : Nat) (S : Sl), S.wt ≤ n → n ≤ 1000 → ∀ (vars : List BA) (s : Sco), SC E c vars s.l → GS E S vars → Bd E c s.p → Bnd s S.wt → ∀ e : Frm, CH 66 [.ptr e.k 0 0, .vec S.len (o9 S)] (hT e (z1 e.k s) (s).code (s).sites) (.tup []) (hT e (z1 e.k (cC s.l s S)) ((cC s.l s S)).code ((cC s.l s S)).sites)
  | n, S, hn, h1, vars, s, sc, hG, bd, B, e => by
    refine JZ S (by omega) vars s sc hG bd B e (fun S' hS' => ?_)
    cases n with
    | zero => omega
    | succ n => exact N1 n S' (by omega) (by omega)
end Go.Proofs.YtapdldekgbbomaaGreat
end
