/- My own texts, put together by a program of mine. -/
import Derived.Test.YtfbjlfhjkojmkaaGreatG13
set_option linter.unusedSimpArgs false
set_option linter.unusedVariables false
set_option maxRecDepth 100000
set_option maxHeartbeats 4000000
section
namespace Go.Proofs.YtfbjlfhjkojmkaaGreat
open Go.Ab Go.Un
def bJ : Sl → Int → List Int
  | .nil, _ => []
  | .cons k n e r xs th el rest, t =>
    if k = 7 then t :: (bJ th (t + 1) ++ ((if 0 < el.len then t :: bJ el (t + 1 + (th.wt : Int)) else []) ++ bJ rest (t + 1 + (th.wt : Int) + (el.wt : Int))))
    else if k = 8 then t :: (bJ th (t + 1) ++ (t :: bJ rest (t + 1 + (th.wt : Int))))
    else t :: bJ rest (t + 1)
theorem fY : ∀ (S : Sl) (t : Int), (bJ S t).length ≤ 2 * S.wt
  | .nil, t => by simp [bJ]
  | .cons k n e r xs th el rest, t => by
    have h1 := fY th (t + 1)
    have h2 := fY el (t + 1 + (th.wt : Int))
    have h3 := fY rest (t + 1 + (th.wt : Int) + (el.wt : Int))
    have h4 := fY rest (t + 1 + (th.wt : Int))
    have h5 := fY rest (t + 1)
    unfold bJ
    simp only [Sl.wt]
    split
    · split <;> simp only [List.length_cons, List.length_append, List.length_nil] <;> omega
    · split <;> simp only [List.length_cons, List.length_append] <;> omega
def pY (c : List Ins) (i : Nat) (v : Int) : List Ins := c.set i { c.getD i g5 with target := v }
theorem jL {c : List Ins} {i : Nat} {v : Int} : (pY c i v).length = c.length := by simp [pY]
theorem xE {c d : List Ins} {x : Ins} {i : Nat} {v : Int} (hi : i = c.length) : pY (c ++ (x :: d)) i v = c ++ ({ x with target := v } :: d) := by
  subst hi
  simp [pY, List.getD]
def aQ (s : Sco) : Sco := { s with st := s.st + 1 }
def m6 (s : Sco) (i : Ins) (t : Int) : Sco := { s with code := s.code ++ [i], sites := s.sites ++ [t] }
def bL (s : Sco) (i : Nat) (v : Int) : Sco := { s with code := pY s.code i v }
def oV (s : Sco) (n : BA) : Sco := { s with l := s.l ++ [⟨n, 4, s.loc⟩], loc := s.loc + 1 }
def bQ (l0 : List Ent) (s : Sco) (S : Sl) : Sco := { s with l := l0, loc := eE S s.loc, st := s.st + (S.wt : Int), code := s.code ++ n5 S s.l s.loc s.code.length, sites := s.sites ++ bJ S s.st }
variable {k : Nat} {s : Sco}
theorem rA {i : Nat} {v : Int} : u7 k (bL s i v) = u7 k s := by simp only [u7, bL, jL]
variable {t : Int}
theorem KR {i : Ins} {n : BA} : u7 k (oV (m6 (aQ s) i t) n) = ⟨0, false, 148, 10, [.vec s.p.globals.length (o5 s.p.globals), .vec s.p.c4.length (g9 s.p.c4), .vec s.p.funcs.length (n4 s.p.funcs), .vec (s.l.length + 1) (g8 (s.l ++ [⟨n, 4, s.loc⟩])), .int .i64 (s.loc + 1), .int .i64 (s.st + 1), .int .i64 0, .int .i64 0, .own (k + 1) (s.code.length + 1) 0 (s.code.length + 1), .own (k + 2) (s.sites.length + 1) 0 (s.sites.length + 1)], 0⟩ := by
  simp only [u7, oV, m6, aQ, List.length_append, List.length_cons, List.length_nil, Nat.zero_add]
theorem xF : (u7 k s).gen = 0 := rfl
theorem sV : (u7 k s).bG = false := rfl
theorem sW : (u7 k s).elem = 148 := rfl
theorem xG : (u7 k s).esz = 10 := rfl
theorem xH : (u7 k s).frz = 0 := rfl
theorem oW : (u7 k s).cells = [.vec s.p.globals.length (o5 s.p.globals), .vec s.p.c4.length (g9 s.p.c4), .vec s.p.funcs.length (n4 s.p.funcs), .vec s.l.length (g8 s.l), .int .i64 s.loc, .int .i64 s.st, .int .i64 0, .int .i64 0, .own (k + 1) s.code.length 0 s.code.length, .own (k + 2) s.sites.length 0 s.sites.length] := rfl
theorem DK : (aQ s).l = s.l := rfl
theorem N7 : (aQ s).loc = s.loc := rfl
theorem stSt_p : (aQ s).p = s.p := rfl
theorem eT : (aQ s).code.length = s.code.length := rfl
theorem dL : (aQ s).sites.length = s.sites.length := rfl
theorem F0 {i : Ins} : (m6 s i t).l = s.l := rfl
theorem sX {i : Ins} : (m6 s i t).loc = s.loc := rfl
theorem N8 {i : Ins} : (m6 s i t).st = s.st := rfl
theorem stPut_p {i : Ins} : (m6 s i t).p = s.p := rfl
theorem bE {i : Ins} : (m6 s i t).code.length = s.code.length + 1 := by simp [m6]
theorem aU {i : Ins} : (m6 s i t).sites.length = s.sites.length + 1 := by simp [m6]
theorem stTgt_l {i : Nat} : (bL s i t).l = s.l := rfl
theorem iK {i : Nat} : (bL s i t).code.length = s.code.length := jL
theorem mH {i : Nat} : (bL s i t).sites.length = s.sites.length := rfl
variable {l0 : List Ent} {S : Sl}
theorem finS_l : (bQ l0 s S).l = l0 := rfl
theorem finS_p : (bQ l0 s S).p = s.p := rfl
theorem gE : s.code.length ≤ (bQ l0 s S).code.length ∧ (bQ l0 s S).code.length ≤ s.code.length + 2 * S.wt := by
  have := dS S s.l s.loc s.code.length
  simp only [bQ, List.length_append]; omega
theorem fZ : s.sites.length ≤ (bQ l0 s S).sites.length ∧ (bQ l0 s S).sites.length ≤ s.sites.length + 2 * S.wt := by
  have := fY S s.st
  simp only [bQ, List.length_append]; omega
theorem pO : ∀ (S : Sl) (n : Int), n ≤ eE S n ∧ eE S n ≤ n + (S.wt : Int)
  | .nil, n => by simp [eE, Sl.wt]
  | .cons k nm e r xs th el rest, n => by
    have r1 := pO rest (n + 1)
    have r2 := pO rest (eE el (eE th n))
    have r3 := pO rest (eE th n)
    have r4 := pO rest n
    have t1 := pO th n
    have e1 := pO el (eE th n)
    simp only [eE, Sl.wt]
    split
    · omega
    · split
      · omega
      · split <;> omega
structure Bnd (s : Sco) (W : Nat) : Prop where
  lp : 0 < s.l.length
  lb : s.l.length + W ≤ 900
  cb : s.code.length + 2 * W ≤ 5000
  sb : s.sites.length + 2 * W ≤ 5000
  o0 : 0 ≤ s.loc
  ob : s.loc + (W : Int) ≤ 5000
  t0 : 0 ≤ s.st
  tb : s.st + (W : Int) ≤ 5000
structure Bd (E : Env) (c : Ctx) (p : Go.Un.Pg) : Prop where
  hE : E.c4 = p.c4
  hc : c.nm = p.c4.length
  hf : E.funcs = p.funcs.map fun f => (f.name, f.params)
  fp : ∀ f ∈ E.funcs, f.2.length ≤ 2
theorem Sco.eq {a b : Sco} (h1 : a.p = b.p) (h2 : a.l = b.l) (h3 : a.loc = b.loc) (h4 : a.st = b.st) (h5 : a.code = b.code) (h6 : a.sites = b.sites) : a = b := by
  cases a; cases b; simp_all
variable {rest : Sl}
theorem fin_var {n : BA} {e : Ex} : bQ l0 (oV (m6 (aQ s) ⟨1, s.loc, false, eD s.l e, aZ, [], []⟩ s.st) n) rest = bQ l0 s (.cons 1 n e l5 [] .nil .nil rest) := by
  refine Sco.eq rfl rfl ?_ ?_ ?_ ?_
  · simp only [bQ, oV, m6, aQ, eE, if_true]
  · simp only [bQ, oV, m6, aQ, Sl.wt]; omega
  · simp only [bQ, oV, m6, aQ, n5, if_true, List.append_assoc, List.cons_append, List.nil_append, List.length_append, List.length_cons, List.length_nil, Nat.zero_add]
  · simp only [bQ, oV, m6, aQ, bJ, show ¬ (1 : Int) = 7 from by decide, show ¬ (1 : Int) = 8 from by decide, if_false, List.append_assoc, List.cons_append, List.nil_append]
variable {r : Rf} {xs : List Ar}
theorem oX {i : Ins} {k : Int} {n : BA} {e : Ex} (h : n5 (.cons k n e r xs .nil .nil rest) s.l s.loc s.code.length = i :: n5 rest s.l s.loc (s.code.length + 1)) (hk : k ≠ 1 ∧ k ≠ 7 ∧ k ≠ 8) : bQ l0 (m6 (aQ s) i s.st) rest = bQ l0 s (.cons k n e r xs .nil .nil rest) := by
  refine Sco.eq rfl rfl ?_ ?_ ?_ ?_
  · simp only [bQ, m6, aQ, eE, hk.1, hk.2.1, hk.2.2, if_false]
  · simp only [bQ, m6, aQ, Sl.wt]; omega
  · simp only [bQ, h, m6, aQ, List.append_assoc, List.cons_append, List.nil_append, List.length_append, List.length_cons, List.length_nil, Nat.zero_add]
  · simp only [bQ, m6, aQ, bJ, hk.2.1, hk.2.2, if_false, List.append_assoc, List.cons_append, List.nil_append]
theorem len_nil {s : Sl} : ¬ 0 < s.len ↔ s = .nil := ⟨fun h => Sl.wF (by omega), fun h => by subst h; simp [Go.Un.Sl.len]⟩
def cL (s : Sco) (e : Ex) (th : Sl) : Sco := bQ s.l (m6 (aQ s) ⟨6, 0, false, eD s.l e, aZ, [], []⟩ s.st) th
def stJ (s : Sco) (e : Ex) (th : Sl) : Sco := m6 (cL s e th) ⟨7, 0, false, j8, aZ, [], []⟩ s.st
def cM (s : Sco) (e : Ex) (th el : Sl) : Sco := bQ s.l (bL (stJ s e th) s.code.length ((stJ s e th).code.length : Int)) el
def xR (s : Sco) (e : Ex) (th : Sl) : Sco := m6 (cL s e th) ⟨7, ((s.code.length : Nat) : Int), false, j8, aZ, [], []⟩ s.st
variable {th : Sl}
theorem nQ {e : Ex} : (cL s e th).code = s.code ++ ((⟨6, 0, false, eD s.l e, aZ, [], []⟩ : Ins) :: n5 th s.l s.loc (s.code.length + 1)) := by
  simp only [cL, bQ, m6, aQ, List.append_assoc, List.cons_append, List.nil_append, List.length_append, List.length_cons, List.length_nil, Nat.zero_add]
theorem nR {e : Ex} : (cL s e th).code.length = s.code.length + 1 + (n5 th s.l s.loc (s.code.length + 1)).length := by
  rw [nQ]; simp; omega
theorem KS {e : Ex} {v : Int} : (bL (stJ s e th) s.code.length v).code = s.code ++ ((⟨6, v, false, eD s.l e, aZ, [], []⟩ : Ins) :: (n5 th s.l s.loc (s.code.length + 1) ++ [⟨7, 0, false, j8, aZ, [], []⟩])) := by
  simp only [bL, stJ, m6, nQ, List.append_assoc, List.cons_append]
  exact xE rfl
variable {el : Sl}
theorem sY {e : Ex} : (cM s e th el).code = s.code ++ ((⟨6, ((stJ s e th).code.length : Int), false, eD s.l e, aZ, [], []⟩ : Ins) :: (n5 th s.l s.loc (s.code.length + 1) ++ (⟨7, 0, false, j8, aZ, [], []⟩ :: n5 el s.l (eE th s.loc) ((cL s e th).code.length + 1)))) := by
  have h1 : (bL (stJ s e th) s.code.length ((stJ s e th).code.length : Int)).code.length = (cL s e th).code.length + 1 := by
    simp only [bL, jL, stJ, m6, List.length_append, List.length_cons, List.length_nil, Nat.zero_add]
  show (bL (stJ s e th) s.code.length ((stJ s e th).code.length : Int)).code ++ n5 el s.l (eE th s.loc) _ = _
  rw [h1, KS]
  simp only [List.append_assoc, List.cons_append, List.nil_append]
theorem stJ_len {e : Ex} : (stJ s e th).code.length = (cL s e th).code.length + 1 := by simp [stJ, m6]
theorem U7 {e : Ex} : (cM s e th el).code.length = (cL s e th).code.length + 1 + (n5 el s.l (eE th s.loc) ((cL s e th).code.length + 1)).length := by
  rw [sY, nR]; simp; omega
theorem fin_if {n : BA} {e : Ex} : bQ l0 (bL (cL s e th) s.code.length ((cL s e th).code.length : Int)) rest = bQ l0 s (.cons 7 n e r xs th .nil rest) := by
  have hne : ¬ (7 : Int) = 1 ∧ ¬ (7 : Int) = 2 ∧ ¬ ((7 : Int) = 3 ∨ (7 : Int) = 4) ∧ ¬ (7 : Int) = 5 ∧ ¬ (7 : Int) = 6 := by decide
  have h0 : ¬ 0 < Sl.nil.len := by simp [Go.Un.Sl.len]
  refine Sco.eq rfl rfl ?_ ?_ ?_ ?_
  · simp only [bQ, bL, cL, m6, aQ, eE, hne.1, if_false, if_true]
  · simp only [bQ, bL, cL, m6, aQ, Sl.wt]; omega
  · show pY (cL s e th).code s.code.length _ ++ n5 rest s.l (eE th s.loc) (pY (cL s e th).code s.code.length _).length = s.code ++ n5 _ s.l s.loc s.code.length
    rw [jL, nR, nQ, xE rfl]
    simp only [n5, eE, hne.1, hne.2.1, hne.2.2.1, hne.2.2.2.1, hne.2.2.2.2, h0, if_false, if_true, List.append_assoc, List.cons_append]
  · show s.sites ++ [s.st] ++ bJ th (s.st + 1) ++ bJ rest (s.st + 1 + (th.wt : Int)) = s.sites ++ bJ _ s.st
    simp only [bJ, Sl.wt, h0, if_true, if_false, List.append_assoc, List.cons_append, List.nil_append, Int.natCast_zero, Int.add_zero]
theorem KT {n : BA} {e : Ex} (hel : 0 < el.len) : bQ l0 (bL (cM s e th el) (cL s e th).code.length ((cM s e th el).code.length : Int)) rest = bQ l0 s (.cons 7 n e r xs th el rest) := by
  have hne : ¬ (7 : Int) = 1 ∧ ¬ (7 : Int) = 2 ∧ ¬ ((7 : Int) = 3 ∨ (7 : Int) = 4) ∧ ¬ (7 : Int) = 5 ∧ ¬ (7 : Int) = 6 := by decide
  refine Sco.eq rfl rfl ?_ ?_ ?_ ?_
  · simp only [bQ, bL, cM, stJ, cL, m6, aQ, eE, hne.1, if_false, if_true]
  · simp only [bQ, bL, cM, stJ, cL, m6, aQ, Sl.wt]; omega
  · show pY (cM s e th el).code (cL s e th).code.length _ ++ n5 rest s.l (eE el (eE th s.loc)) (pY (cM s e th el).code (cL s e th).code.length _).length = s.code ++ n5 _ s.l s.loc s.code.length
    rw [jL, U7, sY]
    rw [show s.code ++ ((⟨6, ((stJ s e th).code.length : Int), false, eD s.l e, aZ, [], []⟩ : Ins) :: (n5 th s.l s.loc (s.code.length + 1) ++ (⟨7, 0, false, j8, aZ, [], []⟩ :: n5 el s.l (eE th s.loc) ((cL s e th).code.length + 1)))) = (s.code ++ ((⟨6, ((stJ s e th).code.length : Int), false, eD s.l e, aZ, [], []⟩ : Ins) :: n5 th s.l s.loc (s.code.length + 1))) ++ (⟨7, 0, false, j8, aZ, [], []⟩ :: n5 el s.l (eE th s.loc) ((cL s e th).code.length + 1)) from by simp only [List.append_assoc, List.cons_append]]
    rw [xE (by rw [nR]; simp; omega), stJ_len, nR]
    simp only [n5, hne.1, hne.2.1, hne.2.2.1, hne.2.2.2.1, hne.2.2.2.2, hel, if_false, if_true, List.append_assoc, List.cons_append]
  · show s.sites ++ [s.st] ++ bJ th (s.st + 1) ++ [s.st] ++ bJ el (s.st + 1 + (th.wt : Int)) ++ bJ rest (s.st + 1 + (th.wt : Int) + (el.wt : Int)) = s.sites ++ bJ _ s.st
    simp only [bJ, hel, if_true, List.append_assoc, List.cons_append, List.nil_append]
theorem fin_wh {n : BA} {e : Ex} : bQ l0 (bL (xR s e th) s.code.length ((xR s e th).code.length : Int)) rest = bQ l0 s (.cons 8 n e r xs th .nil rest) := by
  have hne : ¬ (8 : Int) = 1 ∧ ¬ (8 : Int) = 2 ∧ ¬ ((8 : Int) = 3 ∨ (8 : Int) = 4) ∧ ¬ (8 : Int) = 5 ∧ ¬ (8 : Int) = 6 ∧ ¬ (8 : Int) = 7 := by decide
  rw [show (xR s e th).code.length = (cL s e th).code.length + 1 from by simp [xR, m6]]
  refine Sco.eq rfl rfl ?_ ?_ ?_ ?_
  · simp only [bQ, bL, xR, cL, m6, aQ, eE, hne.1, hne.2.2.2.2.2, if_false, if_true]
  · simp only [bQ, bL, xR, cL, m6, aQ, Sl.wt]; omega
  · show pY ((cL s e th).code ++ [⟨7, ((s.code.length : Nat) : Int), false, j8, aZ, [], []⟩]) s.code.length _ ++ n5 rest s.l (eE th s.loc) (pY ((cL s e th).code ++ [⟨7, ((s.code.length : Nat) : Int), false, j8, aZ, [], []⟩]) s.code.length _).length = s.code ++ n5 _ s.l s.loc s.code.length
    rw [jL, List.length_append, nR, nQ, List.append_assoc, List.cons_append, xE rfl]
    simp only [n5, hne.1, hne.2.1, hne.2.2.1, hne.2.2.2.1, hne.2.2.2.2.1, hne.2.2.2.2.2, if_false, if_true, List.append_assoc, List.cons_append, List.nil_append, List.length_cons, List.length_nil, Nat.zero_add]
  · show s.sites ++ [s.st] ++ bJ th (s.st + 1) ++ [s.st] ++ bJ rest (s.st + 1 + (th.wt : Int)) = s.sites ++ bJ _ s.st
    simp only [bJ, hne.2.2.2.2.2, if_true, if_false, List.append_assoc, List.cons_append, List.nil_append]
theorem agg_nil {h : c6} {φ : Map} {w : World} {xs xs' : List AV} (hn : mK xs' xs) {v : Value} (r : Rel h φ w v (.agg xs)) : Rel h φ w v (.agg xs') := by
  cases r with
  | pure hp => cases hp
  | agg a _ ha h1 hr =>
    obtain ⟨k1, k2⟩ := hn.get
    refine .agg a xs' (by rw [ha, k1]) h1 fun j v y e1 e2 => ?_
    have hj : j < xs.length := by rw [← k1]; exact (List.getElem?_eq_some_iff.1 e2).1
    have hx : xs[j]? = some xs[j] := List.getElem?_eq_getElem hj
    rcases k2 j y _ e2 hx with rfl | ⟨e3, rfl⟩
    · exact hr j v _ e1 hx
    · exact C1 (e3 ▸ hr j v _ e1 hx)
def Bm : List AV → List AV → Prop
  | [], [] => True
  | x :: xs, y :: ys => (x = y ∨ ∃ a b, x = .agg a ∧ y = .agg b ∧ mK a b) ∧ Bm xs ys
  | _, _ => False
theorem Bm.get : ∀ {xs ys : List AV}, Bm xs ys → xs.length = ys.length ∧ ∀ (t : Nat) (x y : AV), xs[t]? = some x → ys[t]? = some y → x = y ∨ ∃ a b, x = .agg a ∧ y = .agg b ∧ mK a b
  | [], [], _ => ⟨rfl, fun t x y h => by simp at h⟩
  | x :: xs, y :: ys, h => by
    obtain ⟨h1, h2⟩ := h
    obtain ⟨k1, k2⟩ := Bm.get h2
    refine ⟨by simp [k1], fun t u v hu hv => ?_⟩
    match t with
    | 0 => simp at hu hv; subst hu; subst hv; exact h1
    | t + 1 => exact k2 t u v t127 t128
  | [], _ :: _, h => h.elim
  | _ :: _, [], h => h.elim
theorem aggArg {f : FuncId} {h : c6} {args args' : List AV} {Q : AV → c6 → Prop} (ha : Bm args' args) (r : CallA Tryz.prog cfg f args' h Q) : CallA Tryz.prog cfg f args h Q := by
  intro B φ w cargs i hs hr
  obtain ⟨k1, k2⟩ := ha.get
  refine r B φ w cargs i (by rw [k1]; exact hs) fun j v y h1 h2 => ?_
  have hj : j < args.length := by rw [← k1]; exact (List.getElem?_eq_some_iff.1 h2).1
  have hx : args[j]? = some args[j] := List.getElem?_eq_getElem hj
  rcases k2 j y _ h2 hx with rfl | ⟨a, b, rfl, e2, hn⟩
  · exact hr j v _ h1 hx
  · exact agg_nil hn (e2 ▸ hr j v _ h1 hx)
theorem kV {e : Frm} (hc : s.code.length < 10000) (hs : s.sites.length < 10000) (i : Ins) (t : Int) {zs : List AV} (hz : mK (dH i) zs) : CH 82 [.ptr e.k 0 0, .agg zs, .int .i64 t] (hT e (u7 e.k s) s.code s.sites) (.int .i64 ((s.code.length : Nat) : Int)) (hT e (u7 e.k (m6 s i t)) (m6 s i t).code (m6 s i t).sites) :=
  aggArg (args' := [.ptr e.k 0 0, .agg (dH i), .int .i64 t]) ⟨.inl rfl, .inr ⟨_, _, rfl, rfl, hz⟩, .inl rfl, trivial⟩ (c_put hc hs i t)
theorem DL : ∀ {c : List Ins} {i : Nat} {v : Int}, i < c.length → List.take (i * 12 + 1) (n9 c) ++ AV.int .i64 v :: List.drop (i * 12 + 1 + 1) (n9 c) = n9 (pY c i v)
  | x :: c, 0, v, _ => by
    have e1 : n9 (x :: c) = dH x ++ n9 c := by simp [n9]
    have e2 : pY (x :: c) 0 v = { x with target := v } :: c := by simp [pY]
    have e3 : n9 ({ x with target := v } :: c) = dH { x with target := v } ++ n9 c := by simp [n9]
    rw [e1, e2, e3]
    rfl
  | x :: c, i + 1, v, h => by
    have ih := DL (c := c) (i := i) (v := v) (by simpa using h)
    have e1 : n9 (x :: c) = dH x ++ n9 c := by simp [n9]
    have e2 : pY (x :: c) (i + 1) v = x :: pY c i v := by simp [pY]
    have e3 : n9 (x :: pY c i v) = dH x ++ n9 (pY c i v) := by simp [n9]
    have hl : (dH x).length = 12 := z8 x
    rw [e1, e2, e3, ← ih, show (i + 1) * 12 + 1 = (dH x).length + (i * 12 + 1) from by omega, List.take_length_add_append, show (dH x).length + (i * 12 + 1) + 1 = (dH x).length + (i * 12 + 1 + 1) from by omega, List.drop_length_add_append, List.append_assoc]
theorem zV {c : List Ins} (h : 0 < c.length) : n9 c ≠ [] := by
  intro h0
  have := congrArg List.length h0
  rw [r8] at this
  simp at this
  omega
section
variable {e : Frm} {b : Blk} {c : List Ins} {ss : List Int} {l : c6} {v : Int} {i n : Nat}
theorem hT_1na (h : 0 < c.length) : (hT e b c ss ++ l)[e.k + 1]? = some ⟨c.length, false, 77, 12, n9 c, 0⟩ := by rw [KM, eY (zV h)]
theorem hT_pn (h : c.length = n) (h0 : 0 < n) : (hT e b c ss ++ l).set (e.k + 1) ⟨n, false, 77, 12, n9 (pY c i v), 0⟩ = hT e b (pY c i v) ss ++ l := by
  subst h
  have hl : (pY c i v).length = c.length := jL
  have : o8 77 12 (pY c i v).length (n9 (pY c i v)) = ⟨c.length, false, 77, 12, n9 (pY c i v), 0⟩ := by rw [eY (zV (by omega)), hl]
  rw [← this, OO]
theorem app_cpE {b0 b1 b2 : Blk} {es : List Ent} {n : Nat} (hz : es.length = n) (h0 : 0 < n) (hn : n < 1000) : j5 cfg 110 (hT e b c ss ++ (b0 :: b1 :: b2 :: ⟨1, false, 110, 3, [], 0⟩ :: l)) (.own (e.n + 3) 1 0 0) (.vec n (g8 es)) = some (.own (e.n + 3) 2 0 n, hT e b c ss ++ (b0 :: b1 :: b2 :: ⟨2, false, 110, 3, g8 es, 0⟩ :: l)) := by
  subst hz
  have e1 : cfg.sz 110 = 3 := rfl
  have e2 : (cfg.ti 110).bytes = 32 := rfl
  have hm : es.length ≤ maxLen := by
    have : (1000 : Nat) ≤ maxLen := by decide
    omega
  have hb : es.length * 32 ≤ 140737488355328 := by omega
  have h1 : (g8 es).length = es.length * 3 := by rw [o9]; omega
  have h2 : ¬ es.length = 0 := by omega
  have h3 : ¬ es.length * 3 = 0 := by omega
  simp [j5, rd, lenOf, e1, e2, h1, hm, hb, dA, fF, h0, h2, h3]
theorem app_onE {b0 b1 b2 : Blk} {es : List Ent} {x : BA} {k m : Int} {n : Nat} (hz : es.length = n) (hn : n < 1000) : j5 cfg 110 (hT e b c ss ++ (b0 :: b1 :: b2 :: ⟨2, false, 110, 3, g8 es, 0⟩ :: ⟨1, false, 110, 3, [.str x, .int .i64 k, .int .i64 m], 0⟩ :: l)) (.own (e.n + 3) 2 0 n) (.own (e.n + 4) 1 0 1) = some (.own (e.n + 3) 3 0 (n + 1), hT e b c ss ++ (b0 :: b1 :: b2 :: ⟨3, false, 110, 3, g8 (es ++ [⟨x, k, m⟩]), 0⟩ :: ⟨1, false, 110, 3, [.str x, .int .i64 k, .int .i64 m], 0⟩ :: l)) := by
  subst hz
  have e1 : cfg.sz 110 = 3 := rfl
  have e2 : (cfg.ti 110).bytes = 32 := rfl
  have hm : es.length + 1 ≤ maxLen := by
    have : (1001 : Nat) ≤ maxLen := by decide
    omega
  have hb : (es.length + 1) * 32 ≤ 140737488355328 := by omega
  have h1 : (g8 es).length = es.length * 3 := by rw [o9]; omega
  have ht : List.take (es.length * 3) (g8 es) = g8 es := List.take_of_length_le (by omega)
  have hnl : ¬ (es.length + 1) * 3 ≤ es.length * 3 := by omega
  have hs : g8 (es ++ [⟨x, k, m⟩]) = g8 es ++ [.str x, .int .i64 k, .int .i64 m] := by simp [g8, gC]
  simp [j5, rd, lenOf, e1, e2, h1, hm, hb, ht, hnl, dA, fF, hs]
end
theorem oY (l : List Ent) : z7 (g8 l) := z7.flat fun _ => z7.cons .str (z7.cons .int (z7.cons .int .nil))
theorem stIf_l {e : Ex} : (cL s e th).l = s.l := rfl
attribute [local go_sem] rd o9 l9 aL bP r8 z8 eC cE m9 aG z4 l7 aN Int.natCast_nonneg Int.natCast_inj List.length_map wrap64 eH gT gU L7 zH D5 L9 wP max2 dT bS aO Nat.reduceMul lH iJ gC nO jJ sU w7 hT_0 hT_2 KL KN dA xB fF E6 KO N1 hT_1na hT_pn DL app_cpE app_onE xF sV sW xG xH oW wW DK N7 stSt_p eT dL F0 sX N8 stPut_p bE aU stTgt_l iK mH finS_l finS_p stIf_l
variable {E : Env} {vs : List BA} {pre : Sl} {W : Nat}
theorem c_blk1 {e : Frm} {c : Ctx} (sc : SC E c vs s.l) (bd : Bd E c s.p) (B : Bnd s W) (hW : 1 ≤ W) (j : Nat) (hj : j < 24) (hn : vnm j ∉ vs) (a : Ex) (he : GE vs 2 a) : c9 Tryz.prog cfg (oP [1, 0, 1, 0, 0, 1, 0] (gZ Tryz.f81)) ⟨mkS 253 [(0, AV.ptr e.k 0 0), (1, AV.vec (Go.Un.Sl.len (pre.app (.cons 1 (vnm j) a l5 [] .nil .nil rest))) (n6 (pre.app (.cons 1 (vnm j) a l5 [] .nil .nil rest)))), (4, AV.vec l0.length (g8 l0)), (5, AV.int .i64 ((pre.len : Nat) : Int))], (hT e (u7 e.k s) s.code s.sites)⟩ (Led 253 [(0, AV.ptr e.k 0 0), (1, AV.vec (Go.Un.Sl.len (pre.app (.cons 1 (vnm j) a l5 [] .nil .nil rest))) (n6 (pre.app (.cons 1 (vnm j) a l5 [] .nil .nil rest)))), (4, AV.vec l0.length (g8 l0)), (5, AV.int .i64 ((pre.len : Nat) : Int))] ((hT e (u7 e.k (oV (m6 (aQ s) ⟨1, s.loc, false, eD s.l a, aZ, [], []⟩ s.st) (vnm j))) ((oV (m6 (aQ s) ⟨1, s.loc, false, eD s.l a, aZ, [], []⟩ s.st) (vnm j))).code ((oV (m6 (aQ s) ⟨1, s.loc, false, eD s.l a, aZ, [], []⟩ s.st) (vnm j))).sites))) := by
  obtain ⟨q1, q2, q3, q4, q5, q6, q7, q8⟩ := B
  have hlc := @s6 pre 1 (vnm j) a l5 [] .nil .nil rest
  refine c140z ?_
  refine c9.v9 (hT e (u7 e.k (aQ s)) s.code s.sites ++ [⟨0, false, 140, 11, [.int .i64 1, .str (vnm j), .int .i64 a.op, .int .i64 a.num, .str a.name, .vec a.args.length (l6 a.args), .str l5.name, .vec l5.idx.length (l6 l5.idx), .vec (([] : List Ar)).length (aM ([] : List Ar)), .vec (Go.Un.Sl.len Go.Un.Sl.nil) (n6 Go.Un.Sl.nil), .vec (Go.Un.Sl.len Go.Un.Sl.nil) (n6 Go.Un.Sl.nil)], 0⟩]) rfl ?_
  refine c22z ?_
  refine .c7 [0, 1, 4, 5, 6, 7, 41] ?_
  refine c96z ?_
  refine .seq ?_
  refine c21z ?_
  refine c102z ?_
  refine .cl rfl rfl (fun _ => DF (sc.fr j hj hn) (by omega)) ?_
  refine c223z ?_
  refine .c7 [0, 1, 4, 5, 6, 7, 9] ?_
  refine c8z ?_
  refine .sk ?_
  refine c27z ?_
  refine .ch rfl rfl (eJ (KQ (s := aQ s) t113 s.st sc.var he _)) ?_
  refine .n ?_
  refine .sg s7 (mkH 9 [0, 0, 2, 6, 14, 0, 62, 0, 255] [8] [] [0, 256] []) 0 ?_
  refine s4.v9 t22 ?_
  refine c150z ?_
  refine .rn [true] ?_
  refine .p 2 ?_
  refine .cn [true] [256, 0] [_] rfl rfl (by simp only [iS, and_true, List.cons_append, List.nil_append]; exact eJ (kV t42 t39 ⟨1, s.loc, false, eD s.l a, aZ, [], []⟩ s.st t21)) ?_
  refine s4.nil rfl ?_
  refine .c7 [0, 1, 4, 5, 6] ?_
  refine .sg s7 (mkH 19 [0, 0, 0, 4, 12, 28, 62, 0, 128, 0, 512, 1536, 3584, 8064, 16256, 32766, 65535, 131071, 262143] [1, 6, 14, 15, 18] [(1, 0), (14, 1)] [0, 2, 66, 16384, 16386, 16450, 49218, 311362] [0, 1, 2, 3, 4, 5, 6]) 2 ?_
  refine .p 1 ?_
  refine .em [true] [2, 0] [_] ?_
  refine .p 3 ?_
  refine .rm [true, true] ?_
  refine .em [true, false] [66, 2, 0] [_] ?_
  refine .p 1 ?_
  refine .rn [true, true, true] ?_
  refine .p 3 ?_
  refine .rn [true, true, true] ?_
  refine .p 1 ?_
  refine .en [true, true, true] [16450, 16386, 16384, 66, 2, 0] [_, _, _] ?_
  refine .en [true, false, false, false, false, false] [49218, 16450, 16386, 16384, 66, 2, 0] [_] ?_
  refine .p 2 ?_
  refine .en [true, false, false, false, false, false, false] [311362, 49218, 16450, 16386, 16384, 66, 2, 0] [_] ?_
  refine .po [false, false, false, true, false, false, true, false] ?_
  refine .po [false, false, false, true, true, false, true, true] ?_
  refine .po [false, false, false, false, true, false, false, true] ?_
  refine s4.nil rfl ?_
  refine .c7 [0, 1, 4, 5] ?_
  refine c9.C2 (γ := e.n + 3) (β := e.k) (k := 3) (off := 0) (len := s.l.length + 1) (cs := g8 (s.l ++ [⟨vnm j, 4, s.loc⟩])) t84 rfl t159 (by rw [List.drop_zero, List.take_of_length_le t159]; exact (oY _).QD) (by simp only [KL]; rfl) (by have := e.lt; omega) rfl ?_
  simp only [fF, N1, List.set_cons_succ, List.set_cons_zero]
  refine .rz ?_
  exact .mk _ (by rw [KR]; rfl)
theorem c_blk2 {e : Frm} {c : Ctx} (sc : SC E c vs s.l) (bd : Bd E c s.p) (B : Bnd s W) (hW : 1 ≤ W) (n : BA) (hn : n ∈ vs) (a : Ex) (he : GE vs 2 a) : c9 Tryz.prog cfg (oP [1, 0, 1, 0, 0, 1, 0] (gZ Tryz.f81)) ⟨mkS 253 [(0, AV.ptr e.k 0 0), (1, AV.vec (Go.Un.Sl.len (pre.app (.cons 2 n a l5 [] .nil .nil rest))) (n6 (pre.app (.cons 2 n a l5 [] .nil .nil rest)))), (4, AV.vec l0.length (g8 l0)), (5, AV.int .i64 ((pre.len : Nat) : Int))], (hT e (u7 e.k s) s.code s.sites)⟩ (Led 253 [(0, AV.ptr e.k 0 0), (1, AV.vec (Go.Un.Sl.len (pre.app (.cons 2 n a l5 [] .nil .nil rest))) (n6 (pre.app (.cons 2 n a l5 [] .nil .nil rest)))), (4, AV.vec l0.length (g8 l0)), (5, AV.int .i64 ((pre.len : Nat) : Int))] ((hT e (u7 e.k (m6 (aQ s) ⟨1, (dP s.l n).n, (dP s.l n).kind == 1, eD s.l a, aZ, [], []⟩ s.st)) ((m6 (aQ s) ⟨1, (dP s.l n).n, (dP s.l n).kind == 1, eD s.l a, aZ, [], []⟩ s.st)).code ((m6 (aQ s) ⟨1, (dP s.l n).n, (dP s.l n).kind == 1, eD s.l a, aZ, [], []⟩ s.st)).sites))) := by
  obtain ⟨q1, q2, q3, q4, q5, q6, q7, q8⟩ := B
  have hlc := @s6 pre 2 n a l5 [] .nil .nil rest
  obtain ⟨v, hv1, hv2⟩ := sc.var n hn
  refine c140z ?_
  refine c9.v9 (hT e (u7 e.k (aQ s)) s.code s.sites ++ [⟨0, false, 140, 11, [.int .i64 2, .str n, .int .i64 a.op, .int .i64 a.num, .str a.name, .vec a.args.length (l6 a.args), .str l5.name, .vec l5.idx.length (l6 l5.idx), .vec (([] : List Ar)).length (aM ([] : List Ar)), .vec (Go.Un.Sl.len Go.Un.Sl.nil) (n6 Go.Un.Sl.nil), .vec (Go.Un.Sl.len Go.Un.Sl.nil) (n6 Go.Un.Sl.nil)], 0⟩]) rfl ?_
  refine c151z ?_
  refine c96z ?_
  refine c27z ?_
  refine .ch rfl rfl (eJ (c_var (s := aQ s) t113 s.st hv1 hv2)) ?_
  refine .n ?_
  refine .c7 [0, 1, 4, 5, 6, 7, 11] ?_
  refine .og s7 (mkH 14 [0, 0, 2, 0, 8, 24, 0, 0, 128, 0, 960, 2046, 0, 8191] [10, 13] [] [0, 1024, 9216] [0, 1, 2, 3, 4, 5]) 0 ?_
  refine s4.v9 t22 ?_
  refine .p 2 ?_
  refine c102z ?_
  refine c86z ?_
  refine .p 1 ?_
  refine .cn [true] [1024, 0] [_] rfl rfl (by simp only [iS, and_true, List.cons_append, List.nil_append]; exact eJ (KQ (s := aQ s) t113 s.st sc.var he _)) ?_
  refine .p 2 ?_
  refine .cn [true, false] [9216, 1024, 0] [_] rfl rfl (by simp only [iS, and_true, List.cons_append, List.nil_append]; exact eJ (kV t42 t39 ⟨1, v.n, v.kind == 1, eD s.l a, aZ, [], []⟩ s.st t21)) ?_
  refine c136z ?_
  exact .mk _ (by rw [dD hv1])
theorem c_blk3 {e : Frm} {c : Ctx} (sc : SC E c vs s.l) (bd : Bd E c s.p) (B : Bnd s W) (hW : 1 ≤ W) (f : BA × List Pm) (hf : f ∈ E.funcs) (xs : List Ar) (ha : GAs E vs f.2 xs) : c9 Tryz.prog cfg (oP [1, 0, 1, 0, 0, 1, 0] (gZ Tryz.f81)) ⟨mkS 253 [(0, AV.ptr e.k 0 0), (1, AV.vec (Go.Un.Sl.len (pre.app (.cons 3 f.1 j8 l5 xs .nil .nil rest))) (n6 (pre.app (.cons 3 f.1 j8 l5 xs .nil .nil rest)))), (4, AV.vec l0.length (g8 l0)), (5, AV.int .i64 ((pre.len : Nat) : Int))], (hT e (u7 e.k s) s.code s.sites)⟩ (Led 253 [(0, AV.ptr e.k 0 0), (1, AV.vec (Go.Un.Sl.len (pre.app (.cons 3 f.1 j8 l5 xs .nil .nil rest))) (n6 (pre.app (.cons 3 f.1 j8 l5 xs .nil .nil rest)))), (4, AV.vec l0.length (g8 l0)), (5, AV.int .i64 ((pre.len : Nat) : Int))] ((hT e (u7 e.k (m6 (aQ s) ⟨2, (dP s.l f.1).n, false, j8, aZ, z9 s.l xs, u5 s.l xs⟩ s.st)) ((m6 (aQ s) ⟨2, (dP s.l f.1).n, false, j8, aZ, z9 s.l xs, u5 s.l xs⟩ s.st)).code ((m6 (aQ s) ⟨2, (dP s.l f.1).n, false, j8, aZ, z9 s.l xs, u5 s.l xs⟩ s.st)).sites))) := by
  obtain ⟨q1, q2, q3, q4, q5, q6, q7, q8⟩ := B
  have hlc := @s6 pre 3 f.1 j8 l5 xs .nil .nil rest
  obtain ⟨⟨fy, fk, fn⟩, hf1, hfk, hf5, hf6, hf7⟩ := sc.fn f hf
  simp only at hfk hf5 hf6 hf7
  subst hfk
  have hf2 : 0 ≤ fn ∧ fn < s.p.funcs.length := by rw [bd.hf, List.length_map] at hf6; exact ⟨hf5, hf6⟩
  have hf3 : (s.p.funcs.getD fn.toNat g7).params = f.2 := by rw [bd.hf, getD_map (d' := g7) (by omega)] at hf7; rw [← hf7]
  have hf4 := bd.fp f hf
  refine c140z ?_
  refine c9.v9 (hT e (u7 e.k (aQ s)) s.code s.sites ++ [⟨0, false, 140, 11, [.int .i64 3, .str f.1, .int .i64 j8.op, .int .i64 j8.num, .str j8.name, .vec j8.args.length (l6 j8.args), .str l5.name, .vec l5.idx.length (l6 l5.idx), .vec (xs).length (aM xs), .vec (Go.Un.Sl.len Go.Un.Sl.nil) (n6 Go.Un.Sl.nil), .vec (Go.Un.Sl.len Go.Un.Sl.nil) (n6 Go.Un.Sl.nil)], 0⟩]) rfl ?_
  refine c174z ?_
  refine .T ?_
  refine .sk ?_
  refine .T ?_
  refine c148z ?_
  refine .ch rfl rfl (eJ (c_call3 (s := aQ s) t113 s.st sc bd.hE bd.hc hf1 hf2 hf3 hf4 ha)) ?_
  refine .e 1 ?_
  refine .ch rfl rfl (eJ (kV t42 t39 ⟨2, fn, false, j8, aZ, z9 s.l xs, u5 s.l xs⟩ s.st t21)) ?_
  refine .nil ?_
  exact .mk _ (by rw [dD hf1])
theorem c_blk4 {e : Frm} {c : Ctx} (sc : SC E c vs s.l) (bd : Bd E c s.p) (B : Bnd s W) (hW : 1 ≤ W) (f : BA × List Pm) (hf : f ∈ E.funcs) (xs : List Ar) (ha : GAs E vs f.2 xs) : c9 Tryz.prog cfg (oP [1, 0, 1, 0, 0, 1, 0] (gZ Tryz.f81)) ⟨mkS 253 [(0, AV.ptr e.k 0 0), (1, AV.vec (Go.Un.Sl.len (pre.app (.cons 4 f.1 j8 l5 xs .nil .nil rest))) (n6 (pre.app (.cons 4 f.1 j8 l5 xs .nil .nil rest)))), (4, AV.vec l0.length (g8 l0)), (5, AV.int .i64 ((pre.len : Nat) : Int))], (hT e (u7 e.k s) s.code s.sites)⟩ (Led 253 [(0, AV.ptr e.k 0 0), (1, AV.vec (Go.Un.Sl.len (pre.app (.cons 4 f.1 j8 l5 xs .nil .nil rest))) (n6 (pre.app (.cons 4 f.1 j8 l5 xs .nil .nil rest)))), (4, AV.vec l0.length (g8 l0)), (5, AV.int .i64 ((pre.len : Nat) : Int))] ((hT e (u7 e.k (m6 (aQ s) ⟨3, (dP s.l f.1).n, false, j8, aZ, z9 s.l xs, u5 s.l xs⟩ s.st)) ((m6 (aQ s) ⟨3, (dP s.l f.1).n, false, j8, aZ, z9 s.l xs, u5 s.l xs⟩ s.st)).code ((m6 (aQ s) ⟨3, (dP s.l f.1).n, false, j8, aZ, z9 s.l xs, u5 s.l xs⟩ s.st)).sites))) := by
  obtain ⟨q1, q2, q3, q4, q5, q6, q7, q8⟩ := B
  have hlc := @s6 pre 4 f.1 j8 l5 xs .nil .nil rest
  obtain ⟨⟨fy, fk, fn⟩, hf1, hfk, hf5, hf6, hf7⟩ := sc.fn f hf
  simp only at hfk hf5 hf6 hf7
  subst hfk
  have hf2 : 0 ≤ fn ∧ fn < s.p.funcs.length := by rw [bd.hf, List.length_map] at hf6; exact ⟨hf5, hf6⟩
  have hf3 : (s.p.funcs.getD fn.toNat g7).params = f.2 := by rw [bd.hf, getD_map (d' := g7) (by omega)] at hf7; rw [← hf7]
  have hf4 := bd.fp f hf
  refine c140z ?_
  refine c9.v9 (hT e (u7 e.k (aQ s)) s.code s.sites ++ [⟨0, false, 140, 11, [.int .i64 4, .str f.1, .int .i64 j8.op, .int .i64 j8.num, .str j8.name, .vec j8.args.length (l6 j8.args), .str l5.name, .vec l5.idx.length (l6 l5.idx), .vec (xs).length (aM xs), .vec (Go.Un.Sl.len Go.Un.Sl.nil) (n6 Go.Un.Sl.nil), .vec (Go.Un.Sl.len Go.Un.Sl.nil) (n6 Go.Un.Sl.nil)], 0⟩]) rfl ?_
  refine c203z ?_
  refine .T ?_
  refine .c7 [0, 1, 4, 5, 6, 7] ?_
  refine c148z ?_
  refine .ch rfl rfl (eJ (c_call4 (s := aQ s) t113 s.st sc bd.hE bd.hc hf1 hf2 hf3 hf4 ha)) ?_
  refine .e 1 ?_
  refine .ch rfl rfl (eJ (kV t42 t39 ⟨3, fn, false, j8, aZ, z9 s.l xs, u5 s.l xs⟩ s.st t21)) ?_
  refine .nil ?_
  exact .mk _ (by rw [dD hf1])
theorem c_blk5 {e : Frm} {c : Ctx} (sc : SC E c vs s.l) (bd : Bd E c s.p) (B : Bnd s W) (hW : 1 ≤ W) (r : Rf) (hR : GR E vs r) : c9 Tryz.prog cfg (oP [1, 0, 1, 0, 0, 1, 0] (gZ Tryz.f81)) ⟨mkS 253 [(0, AV.ptr e.k 0 0), (1, AV.vec (Go.Un.Sl.len (pre.app (.cons 5 ByteArray.empty j8 r [] .nil .nil rest))) (n6 (pre.app (.cons 5 ByteArray.empty j8 r [] .nil .nil rest)))), (4, AV.vec l0.length (g8 l0)), (5, AV.int .i64 ((pre.len : Nat) : Int))], (hT e (u7 e.k s) s.code s.sites)⟩ (Led 253 [(0, AV.ptr e.k 0 0), (1, AV.vec (Go.Un.Sl.len (pre.app (.cons 5 ByteArray.empty j8 r [] .nil .nil rest))) (n6 (pre.app (.cons 5 ByteArray.empty j8 r [] .nil .nil rest)))), (4, AV.vec l0.length (g8 l0)), (5, AV.int .i64 ((pre.len : Nat) : Int))] ((hT e (u7 e.k (m6 (aQ s) ⟨4, 0, false, j8, oR s.l r, [], []⟩ s.st)) ((m6 (aQ s) ⟨4, 0, false, j8, oR s.l r, [], []⟩ s.st)).code ((m6 (aQ s) ⟨4, 0, false, j8, oR s.l r, [], []⟩ s.st)).sites))) := by
  obtain ⟨q1, q2, q3, q4, q5, q6, q7, q8⟩ := B
  have hlc := @s6 pre 5 ByteArray.empty j8 r [] .nil .nil rest
  refine c140z ?_
  refine c9.v9 (hT e (u7 e.k (aQ s)) s.code s.sites ++ [⟨0, false, 140, 11, [.int .i64 5, .str ByteArray.empty, .int .i64 j8.op, .int .i64 j8.num, .str j8.name, .vec j8.args.length (l6 j8.args), .str r.name, .vec r.idx.length (l6 r.idx), .vec (([] : List Ar)).length (aM ([] : List Ar)), .vec (Go.Un.Sl.len Go.Un.Sl.nil) (n6 Go.Un.Sl.nil), .vec (Go.Un.Sl.len Go.Un.Sl.nil) (n6 Go.Un.Sl.nil)], 0⟩]) rfl ?_
  refine c233z ?_
  refine c96z ?_
  refine .c7 [0, 1, 4, 5, 6, 7] ?_
  refine .r ?_
  refine .e 5 ?_
  refine .ch rfl rfl (eJ (DJ (s := aQ s) t113 s.st sc bd.hE bd.hc hR)) ?_
  refine .e 2 ?_
  refine .ch rfl rfl (eJ (kV t42 t39 ⟨4, 0, false, j8, oR s.l r, [], []⟩ s.st t21)) ?_
  refine .nil ?_
  exact .mk _ rfl
theorem c_blk6 {e : Frm} {c : Ctx} (sc : SC E c vs s.l) (bd : Bd E c s.p) (B : Bnd s W) (hW : 1 ≤ W) (r : Rf) (hR : GR E vs r) : c9 Tryz.prog cfg (oP [1, 0, 1, 0, 0, 1, 0] (gZ Tryz.f81)) ⟨mkS 253 [(0, AV.ptr e.k 0 0), (1, AV.vec (Go.Un.Sl.len (pre.app (.cons 6 ByteArray.empty j8 r [] .nil .nil rest))) (n6 (pre.app (.cons 6 ByteArray.empty j8 r [] .nil .nil rest)))), (4, AV.vec l0.length (g8 l0)), (5, AV.int .i64 ((pre.len : Nat) : Int))], (hT e (u7 e.k s) s.code s.sites)⟩ (Led 253 [(0, AV.ptr e.k 0 0), (1, AV.vec (Go.Un.Sl.len (pre.app (.cons 6 ByteArray.empty j8 r [] .nil .nil rest))) (n6 (pre.app (.cons 6 ByteArray.empty j8 r [] .nil .nil rest)))), (4, AV.vec l0.length (g8 l0)), (5, AV.int .i64 ((pre.len : Nat) : Int))] ((hT e (u7 e.k (m6 (aQ s) ⟨5, 0, false, j8, oR s.l r, [], []⟩ s.st)) ((m6 (aQ s) ⟨5, 0, false, j8, oR s.l r, [], []⟩ s.st)).code ((m6 (aQ s) ⟨5, 0, false, j8, oR s.l r, [], []⟩ s.st)).sites))) := by
  obtain ⟨q1, q2, q3, q4, q5, q6, q7, q8⟩ := B
  have hlc := @s6 pre 6 ByteArray.empty j8 r [] .nil .nil rest
  refine c140z ?_
  refine c9.v9 (hT e (u7 e.k (aQ s)) s.code s.sites ++ [⟨0, false, 140, 11, [.int .i64 6, .str ByteArray.empty, .int .i64 j8.op, .int .i64 j8.num, .str j8.name, .vec j8.args.length (l6 j8.args), .str r.name, .vec r.idx.length (l6 r.idx), .vec (([] : List Ar)).length (aM ([] : List Ar)), .vec (Go.Un.Sl.len Go.Un.Sl.nil) (n6 Go.Un.Sl.nil), .vec (Go.Un.Sl.len Go.Un.Sl.nil) (n6 Go.Un.Sl.nil)], 0⟩]) rfl ?_
  refine c233z ?_
  refine c8z ?_
  refine .c7 [0, 1, 4, 5, 6, 7, 41] ?_
  refine c96z ?_
  refine .r ?_
  refine .e 5 ?_
  refine .ch rfl rfl (eJ (DJ (s := aQ s) t113 s.st sc bd.hE bd.hc hR)) ?_
  refine .e 2 ?_
  refine .ch rfl rfl (eJ (kV t42 t39 ⟨5, 0, false, j8, oR s.l r, [], []⟩ s.st t21)) ?_
  refine .nil ?_
  exact .mk _ rfl
theorem c_blk7 {e : Frm} {c : Ctx} (sc : SC E c vs s.l) (bd : Bd E c s.p) (B : Bnd s W) (a : Ex) (he : GE vs 2 a) (th : Sl) (hW : 1 + th.wt ≤ W) (ith : (∀ s' : Sco, SC E c vs s'.l → s'.p = s.p → Bnd s' th.wt → ∀ e : Frm, CH 81 [.ptr e.k 0 0, .vec th.len (n6 th)] (hT e (u7 e.k s') (s').code (s').sites) (.tup []) (hT e (u7 e.k (bQ s'.l s' th)) ((bQ s'.l s' th)).code ((bQ s'.l s' th)).sites))) : c9 Tryz.prog cfg (oP [1, 0, 1, 0, 0, 1, 0] (gZ Tryz.f81)) ⟨mkS 253 [(0, AV.ptr e.k 0 0), (1, AV.vec (Go.Un.Sl.len (pre.app (.cons 7 ByteArray.empty a l5 [] th .nil rest))) (n6 (pre.app (.cons 7 ByteArray.empty a l5 [] th .nil rest)))), (4, AV.vec l0.length (g8 l0)), (5, AV.int .i64 ((pre.len : Nat) : Int))], (hT e (u7 e.k s) s.code s.sites)⟩ (Led 253 [(0, AV.ptr e.k 0 0), (1, AV.vec (Go.Un.Sl.len (pre.app (.cons 7 ByteArray.empty a l5 [] th .nil rest))) (n6 (pre.app (.cons 7 ByteArray.empty a l5 [] th .nil rest)))), (4, AV.vec l0.length (g8 l0)), (5, AV.int .i64 ((pre.len : Nat) : Int))] ((hT e (u7 e.k (bL (cL s a th) s.code.length ((cL s a th).code.length : Int))) ((bL (cL s a th) s.code.length ((cL s a th).code.length : Int))).code ((bL (cL s a th) s.code.length ((cL s a th).code.length : Int))).sites))) := by
  obtain ⟨q1, q2, q3, q4, q5, q6, q7, q8⟩ := B
  have hlc := @s6 pre 7 ByteArray.empty a l5 [] th .nil rest
  refine c140z ?_
  refine c9.v9 (hT e (u7 e.k (aQ s)) s.code s.sites ++ [⟨0, false, 140, 11, [.int .i64 7, .str ByteArray.empty, .int .i64 a.op, .int .i64 a.num, .str a.name, .vec a.args.length (l6 a.args), .str l5.name, .vec l5.idx.length (l6 l5.idx), .vec (([] : List Ar)).length (aM ([] : List Ar)), .vec (Go.Un.Sl.len th) (n6 th), .vec (Go.Un.Sl.len Go.Un.Sl.nil) (n6 Go.Un.Sl.nil)], 0⟩]) rfl ?_
  refine c233z ?_
  refine c8z ?_
  refine c32z ?_
  refine c96z ?_
  refine c24z ?_
  refine c137z ?_
  refine .n ?_
  refine .c7 [0, 1, 4, 5, 6, 7, 12] ?_
  have b1 : Bnd (m6 (aQ s) ⟨6, 0, false, eD s.l a, aZ, [], []⟩ s.st) th.wt := ⟨q1, t163, t150, t144, q5, t154, t145, t130⟩
  refine c89z ?_
  refine .nil ?_
  have fc := gE (l0 := s.l) (s := m6 (aQ s) ⟨6, 0, false, eD s.l a, aZ, [], []⟩ s.st) (S := th)
  have fs := fZ (l0 := s.l) (s := m6 (aQ s) ⟨6, 0, false, eD s.l a, aZ, [], []⟩ s.st) (S := th)
  rw [bE, eT] at fc
  rw [aU, dL] at fs
  change _ ≤ (cL s a th).code.length ∧ (cL s a th).code.length ≤ _ at fc
  change _ ≤ (cL s a th).sites.length ∧ (cL s a th).sites.length ≤ _ at fs
  change c9 _ _ _ ⟨mkS _ _, hT e (u7 e.k (cL s a th)) (cL s a th).code (cL s a th).sites ++ _⟩ _
  refine c8z ?_
  refine .c7 [0, 1, 4, 5, 12] ?_
  refine c100z ?_
  refine c150z ?_
  refine .p 3 ?_
  refine c157z ?_
  exact .mk _ (by rw [rA]; rfl)
theorem c_blk17 {e : Frm} {c : Ctx} (sc : SC E c vs s.l) (bd : Bd E c s.p) (B : Bnd s W) (a : Ex) (he : GE vs 2 a) (th el : Sl) (hel : 0 < el.len) (hW : 1 + th.wt + el.wt ≤ W) (ith : (∀ s' : Sco, SC E c vs s'.l → s'.p = s.p → Bnd s' th.wt → ∀ e : Frm, CH 81 [.ptr e.k 0 0, .vec th.len (n6 th)] (hT e (u7 e.k s') (s').code (s').sites) (.tup []) (hT e (u7 e.k (bQ s'.l s' th)) ((bQ s'.l s' th)).code ((bQ s'.l s' th)).sites))) (iel : (∀ s' : Sco, SC E c vs s'.l → s'.p = s.p → Bnd s' el.wt → ∀ e : Frm, CH 81 [.ptr e.k 0 0, .vec el.len (n6 el)] (hT e (u7 e.k s') (s').code (s').sites) (.tup []) (hT e (u7 e.k (bQ s'.l s' el)) ((bQ s'.l s' el)).code ((bQ s'.l s' el)).sites))) : c9 Tryz.prog cfg (oP [1, 0, 1, 0, 0, 1, 0] (gZ Tryz.f81)) ⟨mkS 253 [(0, AV.ptr e.k 0 0), (1, AV.vec (Go.Un.Sl.len (pre.app (.cons 7 ByteArray.empty a l5 [] th el rest))) (n6 (pre.app (.cons 7 ByteArray.empty a l5 [] th el rest)))), (4, AV.vec l0.length (g8 l0)), (5, AV.int .i64 ((pre.len : Nat) : Int))], (hT e (u7 e.k s) s.code s.sites)⟩ (Led 253 [(0, AV.ptr e.k 0 0), (1, AV.vec (Go.Un.Sl.len (pre.app (.cons 7 ByteArray.empty a l5 [] th el rest))) (n6 (pre.app (.cons 7 ByteArray.empty a l5 [] th el rest)))), (4, AV.vec l0.length (g8 l0)), (5, AV.int .i64 ((pre.len : Nat) : Int))] ((hT e (u7 e.k (bL (cM s a th el) (cL s a th).code.length ((cM s a th el).code.length : Int))) ((bL (cM s a th el) (cL s a th).code.length ((cM s a th el).code.length : Int))).code ((bL (cM s a th el) (cL s a th).code.length ((cM s a th el).code.length : Int))).sites))) := by
  obtain ⟨q1, q2, q3, q4, q5, q6, q7, q8⟩ := B
  have hlc := @s6 pre 7 ByteArray.empty a l5 [] th el rest
  refine c140z ?_
  refine c9.v9 (hT e (u7 e.k (aQ s)) s.code s.sites ++ [⟨0, false, 140, 11, [.int .i64 7, .str ByteArray.empty, .int .i64 a.op, .int .i64 a.num, .str a.name, .vec a.args.length (l6 a.args), .str l5.name, .vec l5.idx.length (l6 l5.idx), .vec (([] : List Ar)).length (aM ([] : List Ar)), .vec (Go.Un.Sl.len th) (n6 th), .vec (Go.Un.Sl.len el) (n6 el)], 0⟩]) rfl ?_
  refine c233z ?_
  refine c8z ?_
  refine c32z ?_
  refine c96z ?_
  refine c24z ?_
  refine c137z ?_
  refine .n ?_
  refine .c7 [0, 1, 4, 5, 6, 7, 12] ?_
  have b1 : Bnd (m6 (aQ s) ⟨6, 0, false, eD s.l a, aZ, [], []⟩ s.st) th.wt := ⟨q1, t163, t150, t144, q5, t154, t145, t130⟩
  refine c89z ?_
  refine .nil ?_
  have fc := gE (l0 := s.l) (s := m6 (aQ s) ⟨6, 0, false, eD s.l a, aZ, [], []⟩ s.st) (S := th)
  have fs := fZ (l0 := s.l) (s := m6 (aQ s) ⟨6, 0, false, eD s.l a, aZ, [], []⟩ s.st) (S := th)
  rw [bE, eT] at fc
  rw [aU, dL] at fs
  change _ ≤ (cL s a th).code.length ∧ (cL s a th).code.length ≤ _ at fc
  change _ ≤ (cL s a th).sites.length ∧ (cL s a th).sites.length ≤ _ at fs
  change c9 _ _ _ ⟨mkS _ _, hT e (u7 e.k (cL s a th)) (cL s a th).code (cL s a th).sites ++ _⟩ _
  refine .z ?_
  refine uTbz ?_
  intro e1 qe1
  refine .c7 [0, 1, 4, 5, 6, 7, 12] ?_
  refine c19z ?_
  refine .ch rfl rfl (eJ (kV t42 t39 ⟨7, 0, false, j8, aZ, [], []⟩ s.st t21)) ?_
  refine .n ?_
  change c9 _ _ _ ⟨mkS _ _, hT e (u7 e.k (stJ s a th)) (stJ s a th).code (stJ s a th).sites ++ _⟩ _
  have jc : (stJ s a th).code.length = (cL s a th).code.length + 1 := bE
  have js : (stJ s a th).sites.length = (cL s a th).sites.length + 1 := aU
  refine .sg s7 (mkH 13 [0, 1, 3, 7, 0, 0, 32, 96, 224, 480, 1023, 2047, 4095] [12] [] [0, 4096] []) 0 ?_
  refine c86z ?_
  refine c150z ?_
  refine .p 3 ?_
  refine c157z ?_
  refine .c7 [0, 1, 4, 5, 6, 13] ?_
  refine c9.v9 (hT e (u7 e.k (bL (stJ s a th) s.code.length ((stJ s a th).code.length : Int))) (bL (stJ s a th) s.code.length ((stJ s a th).code.length : Int)).code (bL (stJ s a th) s.code.length ((stJ s a th).code.length : Int)).sites ++ [_]) (by rw [rA]; rfl) ?_
  have lb := pO th s.loc
  have b2 : Bnd (bL (stJ s a th) s.code.length ((stJ s a th).code.length : Int)) el.wt := ⟨q1, by show s.l.length + _ ≤ _; omega, by rw [iK, jc]; omega, by rw [mH, js]; omega, by show 0 ≤ eE th s.loc; omega, by show eE th s.loc + _ ≤ _; omega, by show 0 ≤ s.st + 1 + (th.wt : Int); omega, by show s.st + 1 + (th.wt : Int) + _ ≤ _; omega⟩
  refine c19z ?_
  refine .ch rfl rfl (eJ (iel (bL (stJ s a th) s.code.length ((stJ s a th).code.length : Int)) sc rfl b2 _)) ?_
  refine .nil ?_
  have ec : (stJ s a th).code.length ≤ (cM s a th el).code.length ∧ (cM s a th el).code.length ≤ (stJ s a th).code.length + 2 * el.wt := by have h0 := gE (l0 := s.l) (s := (bL (stJ s a th) s.code.length ((stJ s a th).code.length : Int))) (S := el); rw [iK] at h0; exact h0
  change c9 _ _ _ ⟨mkS _ _, hT e (u7 e.k (cM s a th el)) (cM s a th el).code (cM s a th el).sites ++ _⟩ _
  refine c100z ?_
  refine c150z ?_
  refine .p 3 ?_
  refine c157z ?_
  exact .mk _ (by rw [rA]; rfl)
theorem c_blk8 {e : Frm} {c : Ctx} (sc : SC E c vs s.l) (bd : Bd E c s.p) (B : Bnd s W) (a : Ex) (he : GE vs 2 a) (th : Sl) (hW : 1 + th.wt ≤ W) (ith : (∀ s' : Sco, SC E c vs s'.l → s'.p = s.p → Bnd s' th.wt → ∀ e : Frm, CH 81 [.ptr e.k 0 0, .vec th.len (n6 th)] (hT e (u7 e.k s') (s').code (s').sites) (.tup []) (hT e (u7 e.k (bQ s'.l s' th)) ((bQ s'.l s' th)).code ((bQ s'.l s' th)).sites))) : c9 Tryz.prog cfg (oP [1, 0, 1, 0, 0, 1, 0] (gZ Tryz.f81)) ⟨mkS 253 [(0, AV.ptr e.k 0 0), (1, AV.vec (Go.Un.Sl.len (pre.app (.cons 8 ByteArray.empty a l5 [] th .nil rest))) (n6 (pre.app (.cons 8 ByteArray.empty a l5 [] th .nil rest)))), (4, AV.vec l0.length (g8 l0)), (5, AV.int .i64 ((pre.len : Nat) : Int))], (hT e (u7 e.k s) s.code s.sites)⟩ (Led 253 [(0, AV.ptr e.k 0 0), (1, AV.vec (Go.Un.Sl.len (pre.app (.cons 8 ByteArray.empty a l5 [] th .nil rest))) (n6 (pre.app (.cons 8 ByteArray.empty a l5 [] th .nil rest)))), (4, AV.vec l0.length (g8 l0)), (5, AV.int .i64 ((pre.len : Nat) : Int))] ((hT e (u7 e.k (bL (xR s a th) s.code.length ((xR s a th).code.length : Int))) ((bL (xR s a th) s.code.length ((xR s a th).code.length : Int))).code ((bL (xR s a th) s.code.length ((xR s a th).code.length : Int))).sites))) := by
  obtain ⟨q1, q2, q3, q4, q5, q6, q7, q8⟩ := B
  have hlc := @s6 pre 8 ByteArray.empty a l5 [] th .nil rest
  refine c140z ?_
  refine c9.v9 (hT e (u7 e.k (aQ s)) s.code s.sites ++ [⟨0, false, 140, 11, [.int .i64 8, .str ByteArray.empty, .int .i64 a.op, .int .i64 a.num, .str a.name, .vec a.args.length (l6 a.args), .str l5.name, .vec l5.idx.length (l6 l5.idx), .vec (([] : List Ar)).length (aM ([] : List Ar)), .vec (Go.Un.Sl.len th) (n6 th), .vec (Go.Un.Sl.len Go.Un.Sl.nil) (n6 Go.Un.Sl.nil)], 0⟩]) rfl ?_
  refine c233z ?_
  refine c8z ?_
  refine c32z ?_
  refine c8z ?_
  refine c96z ?_
  refine c24z ?_
  refine c137z ?_
  refine .n ?_
  refine .c7 [0, 1, 4, 5, 6, 7, 14] ?_
  have b1 : Bnd (m6 (aQ s) ⟨6, 0, false, eD s.l a, aZ, [], []⟩ s.st) th.wt := ⟨q1, t163, t150, t144, q5, t154, t145, t130⟩
  refine c89z ?_
  refine .nil ?_
  have fc := gE (l0 := s.l) (s := m6 (aQ s) ⟨6, 0, false, eD s.l a, aZ, [], []⟩ s.st) (S := th)
  have fs := fZ (l0 := s.l) (s := m6 (aQ s) ⟨6, 0, false, eD s.l a, aZ, [], []⟩ s.st) (S := th)
  rw [bE, eT] at fc
  rw [aU, dL] at fs
  change _ ≤ (cL s a th).code.length ∧ (cL s a th).code.length ≤ _ at fc
  change _ ≤ (cL s a th).sites.length ∧ (cL s a th).sites.length ≤ _ at fs
  change c9 _ _ _ ⟨mkS _ _, hT e (u7 e.k (cL s a th)) (cL s a th).code (cL s a th).sites ++ _⟩ _
  refine c27z ?_
  refine .ch rfl rfl (eJ (kV t42 t39 ⟨7, ((s.code.length : Nat) : Int), false, j8, aZ, [], []⟩ s.st t21)) ?_
  refine .nil ?_
  refine .c7 [0, 1, 4, 5, 14] ?_
  change c9 _ _ _ ⟨mkS _ _, hT e (u7 e.k (xR s a th)) (xR s a th).code (xR s a th).sites ++ _⟩ _
  have jc : (xR s a th).code.length = (cL s a th).code.length + 1 := bE
  refine c100z ?_
  refine c150z ?_
  refine .p 3 ?_
  refine c157z ?_
  exact .mk _ (by rw [rA]; rfl)
theorem c_blk9 {e : Frm} {c : Ctx} (sc : SC E c vs s.l) (bd : Bd E c s.p) (B : Bnd s W) (hW : 1 ≤ W) : c9 Tryz.prog cfg (oP [1, 0, 1, 0, 0, 1, 0] (gZ Tryz.f81)) ⟨mkS 253 [(0, AV.ptr e.k 0 0), (1, AV.vec (Go.Un.Sl.len (pre.app (.cons 9 ByteArray.empty j8 l5 [] .nil .nil rest))) (n6 (pre.app (.cons 9 ByteArray.empty j8 l5 [] .nil .nil rest)))), (4, AV.vec l0.length (g8 l0)), (5, AV.int .i64 ((pre.len : Nat) : Int))], (hT e (u7 e.k s) s.code s.sites)⟩ (Led 253 [(0, AV.ptr e.k 0 0), (1, AV.vec (Go.Un.Sl.len (pre.app (.cons 9 ByteArray.empty j8 l5 [] .nil .nil rest))) (n6 (pre.app (.cons 9 ByteArray.empty j8 l5 [] .nil .nil rest)))), (4, AV.vec l0.length (g8 l0)), (5, AV.int .i64 ((pre.len : Nat) : Int))] ((hT e (u7 e.k (m6 (aQ s) ⟨8, 0, false, j8, aZ, [], []⟩ s.st)) ((m6 (aQ s) ⟨8, 0, false, j8, aZ, [], []⟩ s.st)).code ((m6 (aQ s) ⟨8, 0, false, j8, aZ, [], []⟩ s.st)).sites))) := by
  obtain ⟨q1, q2, q3, q4, q5, q6, q7, q8⟩ := B
  have hlc := @s6 pre 9 ByteArray.empty j8 l5 [] .nil .nil rest
  refine c140z ?_
  refine c9.v9 (hT e (u7 e.k (aQ s)) s.code s.sites ++ [⟨0, false, 140, 11, [.int .i64 9, .str ByteArray.empty, .int .i64 j8.op, .int .i64 j8.num, .str j8.name, .vec j8.args.length (l6 j8.args), .str l5.name, .vec l5.idx.length (l6 l5.idx), .vec (([] : List Ar)).length (aM ([] : List Ar)), .vec (Go.Un.Sl.len Go.Un.Sl.nil) (n6 Go.Un.Sl.nil), .vec (Go.Un.Sl.len Go.Un.Sl.nil) (n6 Go.Un.Sl.nil)], 0⟩]) rfl ?_
  refine c233z ?_
  refine c8z ?_
  refine c32z ?_
  refine c106z ?_
  refine .c7 [0, 1, 4, 5, 7] ?_
  refine .r ?_
  refine .e 3 ?_
  refine .ch rfl rfl (eJ (kV t42 t39 ⟨8, 0, false, j8, aZ, [], []⟩ s.st t21)) ?_
  refine .nil ?_
  exact .mk _ rfl
theorem Bnd.mono {W' : Nat} (h : Bnd s W) (hw : W' ≤ W) : Bnd s W' := by
  obtain ⟨q1, q2, q3, q4, q5, q6, q7, q8⟩ := h
  exact ⟨q1, by omega, by omega, by omega, q5, by omega, q7, by omega⟩
theorem Bnd.ins (h : Bnd s (1 + W)) (i : Ins) : Bnd (m6 (aQ s) i s.st) W := by
  obtain ⟨q1, q2, q3, q4, q5, q6, q7, q8⟩ := h
  exact ⟨q1, t163, t150, t144, q5, t154, t145, t130⟩
theorem Bnd.var (h : Bnd s (1 + W)) (i : Ins) (n : BA) : Bnd (oV (m6 (aQ s) i s.st) n) W := by
  obtain ⟨q1, q2, q3, q4, q5, q6, q7, q8⟩ := h
  exact ⟨by simp [oV], by show (s.l ++ [_]).length + _ ≤ _; simp; omega, by show (m6 (aQ s) i s.st).code.length + _ ≤ _; rw [bE, eT]; omega, by show (m6 (aQ s) i s.st).sites.length + _ ≤ _; rw [aU, dL]; omega, by show 0 ≤ s.loc + 1; omega, by show s.loc + 1 + _ ≤ _; omega, t145, t130⟩
theorem Bnd.fin (h : Bnd s (S.wt + W)) : Bnd (bQ s.l s S) W := by
  obtain ⟨q1, q2, q3, q4, q5, q6, q7, q8⟩ := h
  have h1 := gE (l0 := s.l) (s := s) (S := S)
  have h2 := fZ (l0 := s.l) (s := s) (S := S)
  have h3 := pO S s.loc
  exact ⟨q1, by show s.l.length + _ ≤ _; omega, by omega, by omega, by show 0 ≤ eE S s.loc; omega, by show eE S s.loc + _ ≤ _; omega, by show 0 ≤ s.st + (S.wt : Int); omega, by show s.st + (S.wt : Int) + _ ≤ _; omega⟩
theorem Bnd.tgt {i : Nat} {v : Int} (h : Bnd s W) : Bnd (bL s i v) W := by
  obtain ⟨q1, q2, q3, q4, q5, q6, q7, q8⟩ := h
  exact ⟨q1, q2, by rw [iK]; exact q3, q4, q5, q6, q7, q8⟩
theorem Bnd.put2 (h : Bnd s W) (i : Ins) (t : Int) (hc : s.code.length + 1 + 2 * W ≤ 5000) (hs : s.sites.length + 1 + 2 * W ≤ 5000) : Bnd (m6 s i t) W := by
  obtain ⟨q1, q2, q3, q4, q5, q6, q7, q8⟩ := h
  exact ⟨q1, by rw [F0]; omega, by rw [bE]; omega, by rw [aU]; omega, q5, by rw [sX]; omega, q7, by rw [N8]; omega⟩
variable {a : Ex}
theorem zW (h : Bnd s (1 + th.wt + W)) : Bnd (cL s a th) W ∧ (cL s a th).code.length + 1 + 2 * W ≤ 5000 ∧ (cL s a th).sites.length + 1 + 2 * W ≤ 5000 := by
  have h1 := (show Bnd s (1 + (th.wt + W)) from h.mono (by omega)).ins ⟨6, 0, false, eD s.l a, aZ, [], []⟩
  have h2 := gE (l0 := s.l) (s := m6 (aQ s) ⟨6, 0, false, eD s.l a, aZ, [], []⟩ s.st) (S := th)
  have h3 := fZ (l0 := s.l) (s := m6 (aQ s) ⟨6, 0, false, eD s.l a, aZ, [], []⟩ s.st) (S := th)
  rw [bE, eT] at h2
  rw [aU, dL] at h3
  have q3 := h.cb
  have q4 := h.sb
  exact ⟨h1.fin, by show (bQ s.l (m6 (aQ s) _ s.st) th).code.length + 1 + 2 * W ≤ 5000; omega, by show (bQ s.l (m6 (aQ s) _ s.st) th).sites.length + 1 + 2 * W ≤ 5000; omega⟩
theorem KU (h : Bnd s (1 + th.wt + (el.wt + W))) : Bnd (cM s a th el) W := by
  obtain ⟨h1, h2, h3⟩ := zW (a := a) h
  exact (((h1.put2 ⟨7, 0, false, j8, aZ, [], []⟩ s.st h2 h3).tgt (i := s.code.length) (v := ((stJ s a th).code.length : Int)))).fin
theorem KV {e : Frm} {c : Ctx} (sc : SC E c vs s.l) (bd : Bd E c s.p) {k : Int} {n : BA} (hG : GS E (.cons k n a r xs th el rest) vs) (B : Bnd s (Sl.cons k n a r xs th el rest).wt) (ih : ∀ T : Sl, (T = th ∨ T = el) → GS E T vs → (∀ s' : Sco, SC E c vs s'.l → s'.p = s.p → Bnd s' T.wt → ∀ e : Frm, CH 81 [.ptr e.k 0 0, .vec T.len (n6 T)] (hT e (u7 e.k s') (s').code (s').sites) (.tup []) (hT e (u7 e.k (bQ s'.l s' T)) ((bQ s'.l s' T)).code ((bQ s'.l s' T)).sites))) : ∃ s' vs', SC E c vs' s'.l ∧ GS E rest vs' ∧ s'.p = s.p ∧ Bnd s' rest.wt ∧ bQ l0 s' rest = bQ l0 s (.cons k n a r xs th el rest) ∧ c9 Tryz.prog cfg (oP [1, 0, 1, 0, 0, 1, 0] (gZ Tryz.f81)) ⟨mkS 253 [(0, AV.ptr e.k 0 0), (1, AV.vec (Go.Un.Sl.len (pre.app (.cons k n a r xs th el rest))) (n6 (pre.app (.cons k n a r xs th el rest)))), (4, AV.vec l0.length (g8 l0)), (5, AV.int .i64 ((pre.len : Nat) : Int))], (hT e (u7 e.k s) s.code s.sites)⟩ (Led 253 [(0, AV.ptr e.k 0 0), (1, AV.vec (Go.Un.Sl.len (pre.app (.cons k n a r xs th el rest))) (n6 (pre.app (.cons k n a r xs th el rest)))), (4, AV.vec l0.length (g8 l0)), (5, AV.int .i64 ((pre.len : Nat) : Int))] (hT e (u7 e.k s') (s').code (s').sites)) := by
  rcases hG with ⟨rfl, ⟨j, hj, rfl⟩, hn, he, rfl, rfl, rfl, rfl, hr⟩ | ⟨rfl, hn, he, rfl, rfl, rfl, rfl, hr⟩ | ⟨rfl | rfl, ⟨f, hf, rfl, ha⟩, rfl, rfl, rfl, rfl, hr⟩ | ⟨rfl | rfl, rfl, rfl, hR, rfl, rfl, rfl, hr⟩ | ⟨rfl, rfl, he, rfl, rfl, hth, hel, hr⟩ | ⟨rfl, rfl, he, rfl, rfl, hth, rfl, hr⟩ | ⟨rfl, rfl, rfl, rfl, rfl, rfl, rfl, hr⟩
  all_goals simp only [Sl.wt, Nat.add_zero] at B
  · exact ⟨(oV (m6 (aQ s) ⟨1, s.loc, false, eD s.l a, aZ, [], []⟩ s.st) (vnm j)), _, sc.push hj hn s.loc, hr, rfl, B.var _ _, fin_var, c_blk1 sc bd B (by omega) j hj hn a he⟩
  · exact ⟨(m6 (aQ s) ⟨1, (dP s.l n).n, (dP s.l n).kind == 1, eD s.l a, aZ, [], []⟩ s.st), vs, sc, hr, rfl, B.ins _, oX (by simp only [n5, show ¬ (2 : Int) = 1 from by decide, if_true, if_false]; rfl) (by decide), c_blk2 sc bd B (by omega) n hn a he⟩
  · exact ⟨(m6 (aQ s) ⟨2, (dP s.l f.1).n, false, j8, aZ, z9 s.l xs, u5 s.l xs⟩ s.st), vs, sc, hr, rfl, B.ins _, oX (by simp only [n5, show ¬ (3 : Int) = 1 from by decide, show ¬ (3 : Int) = 2 from by decide, show ¬ (3 : Int) = 4 from by decide, true_or, if_true, if_false]) (by decide), c_blk3 sc bd B (by omega) f hf xs ha⟩
  · exact ⟨(m6 (aQ s) ⟨3, (dP s.l f.1).n, false, j8, aZ, z9 s.l xs, u5 s.l xs⟩ s.st), vs, sc, hr, rfl, B.ins _, oX (by simp only [n5, show ¬ (4 : Int) = 1 from by decide, show ¬ (4 : Int) = 2 from by decide, or_true, if_true, if_false]) (by decide), c_blk4 sc bd B (by omega) f hf xs ha⟩
  · exact ⟨(m6 (aQ s) ⟨4, 0, false, j8, oR s.l r, [], []⟩ s.st), vs, sc, hr, rfl, B.ins _, oX (by simp only [n5, show ¬ (5 : Int) = 1 from by decide, show ¬ (5 : Int) = 2 from by decide, show ¬ ((5 : Int) = 3 ∨ (5 : Int) = 4) from by decide, if_true, if_false]) (by decide), c_blk5 sc bd B (by omega) r hR⟩
  · exact ⟨(m6 (aQ s) ⟨5, 0, false, j8, oR s.l r, [], []⟩ s.st), vs, sc, hr, rfl, B.ins _, oX (by simp only [n5, show ¬ (6 : Int) = 1 from by decide, show ¬ (6 : Int) = 2 from by decide, show ¬ ((6 : Int) = 3 ∨ (6 : Int) = 4) from by decide, show ¬ (6 : Int) = 5 from by decide, if_true, if_false]) (by decide), c_blk6 sc bd B (by omega) r hR⟩
  · by_cases h0 : 0 < el.len
    · exact ⟨(bL (cM s a th el) (cL s a th).code.length ((cM s a th el).code.length : Int)), vs, sc, hr, rfl, (KU (B.mono (by omega))).tgt, KT h0, c_blk17 sc bd B a he th el h0 (by omega) (ih _ (.inl rfl) hth) (ih _ (.inr rfl) hel)⟩
    · obtain rfl := len_nil.1 h0
      simp only [Sl.wt, Nat.add_zero] at B
      exact ⟨(bL (cL s a th) s.code.length ((cL s a th).code.length : Int)), vs, sc, hr, rfl, (zW B).1.tgt, fin_if, c_blk7 sc bd B a he th (by omega) (ih _ (.inl rfl) hth)⟩
  · exact ⟨(bL (xR s a th) s.code.length ((xR s a th).code.length : Int)), vs, sc, hr, rfl, ((zW (a := a) B).1.put2 _ _ (zW B).2.1 (zW B).2.2).tgt, fin_wh, c_blk8 sc bd B a he th (by omega) (ih _ (.inl rfl) hth)⟩
  · exact ⟨(m6 (aQ s) ⟨8, 0, false, j8, aZ, [], []⟩ s.st), vs, sc, hr, rfl, B.ins _, oX (by simp only [n5, show ¬ (9 : Int) = 1 from by decide, show ¬ (9 : Int) = 2 from by decide, show ¬ ((9 : Int) = 3 ∨ (9 : Int) = 4) from by decide, show ¬ (9 : Int) = 5 from by decide, show ¬ (9 : Int) = 6 from by decide, show ¬ (9 : Int) = 7 from by decide, show ¬ (9 : Int) = 8 from by decide, if_false]) (by decide), c_blk9 sc bd B (by omega)⟩
theorem fin_nil : bQ l0 s .nil = { s with l := l0 } := by
  refine Sco.eq rfl rfl rfl ?_ ?_ ?_
  · simp [bQ, Sl.wt]
  · simp [bQ, n5]
  · simp [bQ, bJ]
theorem KW {c : Ctx} (S : Sl) (hSl : S.wt ≤ 1000) (vars : List BA) (s : Sco) (sc0 : SC E c vars s.l) (hG0 : GS E S vars) (bd : Bd E c s.p) (B0 : Bnd s S.wt) (e : Frm) (ih : ∀ S' : Sl, S'.wt < S.wt → ∀ (vars : List BA) (s : Sco), SC E c vars s.l → GS E S' vars → Bd E c s.p → Bnd s S'.wt → ∀ e : Frm, CH 81 [.ptr e.k 0 0, .vec S'.len (n6 S')] (hT e (u7 e.k s) (s).code (s).sites) (.tup []) (hT e (u7 e.k (bQ s.l s S')) ((bQ s.l s S')).code ((bQ s.l s S')).sites)) : CH 81 [.ptr e.k 0 0, .vec S.len (n6 S)] (hT e (u7 e.k s) s.code s.sites) (.tup []) (hT e (u7 e.k (bQ s.l s S)) ((bQ s.l s S)).code ((bQ s.l s S)).sites) := by
  refine .wz Tryz.f81 253 ?_
  have hlw := cA S
  refine c55z ?_
  refine .aW (fun m st => ∃ (Z : Sl) (pre : Sl) (rst : Sl) (vs : List BA) (cur : Sco), (m = rst.len ∧ (Z = S ∧ S = pre.app rst ∧ GS E rst vs ∧ SC E c vs cur.l ∧ cur.p = s.p ∧ Bnd cur rst.wt ∧ bQ s.l cur rst = bQ s.l s S)) ∧ st = ⟨mkS 253 [(0, AV.ptr e.k 0 0), (1, AV.vec (Go.Un.Sl.len Z) (n6 Z)), (4, AV.vec s.l.length (g8 s.l)), (5, AV.int .i64 ((pre.len : Nat) : Int))], hT e (u7 e.k cur) cur.code cur.sites⟩) (.v ⟨S, Sl.nil, S, vars, s, ⟨rfl, ⟨rfl, rfl, hG0, sc0, rfl, B0, rfl⟩⟩, rfl⟩ (hs := t9) (hr := t82)) ?_
  rintro m sl h' ⟨Z, pre, rst, vs, cur, ⟨hm, ⟨hZ, hS, hG, sc, hp, B, hF⟩⟩, hst⟩
  obtain ⟨rfl, rfl⟩ := St.mk.inj hst; clear hst
  subst hZ
  have hlen := congrArg Go.Un.Sl.len hS; rw [Go.Un.Sl.bC] at hlen
  refine c0z ?_
  refine u2z ?_ ?_
  ·intro e1 qe1
   refine c183z ?_
   obtain ⟨k, n, a, r, xs, th, el, rest, rfl⟩ := Go.Un.Sl.mE (s := rst) (by omega)
   subst hS
   have hwc := @E3 pre k n a r xs th el rest
   have hlc := @s6 pre k n a r xs th el rest
   obtain ⟨s2, vs2, r1, r2, r3, r4, r5, hrun⟩ := KV (e := e) (l0 := s.l) (pre := pre) sc (by rw [hp]; exact bd) hG B (fun T hT hgT s' q1 q2 q3 e' => ih T (by rcases hT with rfl | rfl <;> omega) _ s' q1 hgT (by rw [q2, hp]; exact bd) q3 e')
   refine c9.fitS [(0, AV.ptr e.k 0 0), (1, AV.vec (Go.Un.Sl.len (pre.app (.cons k n a r xs th el rest))) (n6 (pre.app (.cons k n a r xs th el rest)))), (4, AV.vec s.l.length (g8 s.l)), (5, AV.int .i64 ((pre.len : Nat) : Int))] ?_
   refine c9.led (hrun) ?_
   intro lq hq haq
   change c9 ..
   refine c9.fitS [(0, AV.ptr e.k 0 0), (1, AV.vec (Go.Un.Sl.len (pre.app (.cons k n a r xs th el rest))) (n6 (pre.app (.cons k n a r xs th el rest)))), (4, AV.vec s.l.length (g8 s.l)), (5, AV.int .i64 ((pre.len : Nat) : Int))] ?_ haq
   refine .rz ?_
   exact ⟨_, by omega, .v ⟨_, (pre.app (.cons k n a r xs th el .nil)), rest, vs2, s2, ⟨rfl, ⟨rfl, dF, r2, r1, r3.trans hp, r4, r5.trans hF⟩⟩, rfl⟩ (he := by rfl) (hl := by simp only [w7]; exact Nat.le_refl _) (hk := by exact hT_keep rfl) (hs := t9) (hr := t82)⟩
  intro e1 qe1
  refine .exit ?_
  have hr0 : rst = .nil := Sl.wF (by omega)
  subst hr0
  change c9 ..
  refine .rz ?_
  refine Ends.n ?_
  exact ⟨hT e ⟨0, false, 148, 10, [.vec cur.p.globals.length (o5 cur.p.globals), .vec cur.p.c4.length (g9 cur.p.c4), .vec cur.p.funcs.length (n4 cur.p.funcs), .vec s.l.length (g8 s.l), .int .i64 cur.loc, .int .i64 cur.st, .int .i64 0, .int .i64 0, .own (e.k + 1) cur.code.length 0 cur.code.length, .own (e.k + 2) cur.sites.length 0 cur.sites.length], 0⟩ cur.code cur.sites, [], _, (List.append_nil _).symm, by (simp only [w7]; exact Nat.le_refl _), (xC (eV.get ⟨.vec _ _, .vec _ _, .vec _ _, .vec _ _, .int _ _, .int _ _, .int _ _, .int _ _, .own _ _ _ _ e.lt.2.1, .own _ _ _ _ e.lt.2.2, trivial⟩)), rfl, by rw [← hF, fin_nil]; exact ⟨rfl, rfl⟩⟩
theorem N9 {E : Env} {c : Ctx} : ∀ (n : Nat) (S : Sl), S.wt ≤ n → n ≤ 1000 → ∀ (vars : List BA) (s : Sco), SC E c vars s.l → GS E S vars → Bd E c s.p → Bnd s S.wt → ∀ e : Frm, CH 81 [.ptr e.k 0 0, .vec S.len (n6 S)] (hT e (u7 e.k s) (s).code (s).sites) (.tup []) (hT e (u7 e.k (bQ s.l s S)) ((bQ s.l s S)).code ((bQ s.l s S)).sites)
  | n, S, hn, h1, vars, s, sc, hG, bd, B, e => by
    refine KW S (by omega) vars s sc hG bd B e (fun S' hS' => ?_)
    cases n with
    | zero => omega
    | succ n => exact N9 n S' (by omega) (by omega)
end Go.Proofs.YtfbjlfhjkojmkaaGreat
end
