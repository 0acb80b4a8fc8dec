/- My own texts, put together by a program of mine. -/
import Derived.Test.YtfbjlfhjkojmkaaGreatH23
set_option linter.unusedSimpArgs false
set_option linter.unusedVariables false
set_option maxRecDepth 100000
set_option maxHeartbeats 4000000
section
namespace Go.Proofs.YtfbjlfhjkojmkaaGreat
open Go.Ab Go.Un
def bL : Sl → Int → List Int
  | .nil, _ => []
  | .cons k n e r xs th el rest, t =>
    if k = 7 then t :: (bL th (t + 1) ++ ((if 0 < el.len then t :: bL el (t + 1 + (th.wt : Int)) else []) ++ bL rest (t + 1 + (th.wt : Int) + (el.wt : Int))))
    else if k = 8 then t :: (bL th (t + 1) ++ (t :: bL rest (t + 1 + (th.wt : Int))))
    else t :: bL rest (t + 1)
theorem gA : ∀ (S : Sl) (t : Int), (bL S t).length ≤ 2 * S.wt
  | .nil, t => by simp [bL]
  | .cons k n e r xs th el rest, t => by
    have h1 := gA th (t + 1)
    have h2 := gA el (t + 1 + (th.wt : Int))
    have h3 := gA rest (t + 1 + (th.wt : Int) + (el.wt : Int))
    have h4 := gA rest (t + 1 + (th.wt : Int))
    have h5 := gA rest (t + 1)
    unfold bL
    simp only [Sl.wt]
    split
    · split <;> simp only [List.length_cons, List.length_append, List.length_nil] <;> omega
    · split <;> simp only [List.length_cons, List.length_append] <;> omega
def qN (c : List Ins) (i : Nat) (v : Int) : List Ins := c.set i { c.getD i g6 with target := v }
theorem jO {c : List Ins} {i : Nat} {v : Int} : (qN c i v).length = c.length := by simp [qN]
theorem yD {c d : List Ins} {x : Ins} {i : Nat} {v : Int} (hi : i = c.length) : qN (c ++ (x :: d)) i v = c ++ ({ x with target := v } :: d) := by
  subst hi
  simp [qN, List.getD]
def aS (s : Sco) : Sco := { s with st := s.st + 1 }
def m9 (s : Sco) (i : Ins) (t : Int) : Sco := { s with code := s.code ++ [i], sites := s.sites ++ [t] }
def bN (s : Sco) (i : Nat) (v : Int) : Sco := { s with code := qN s.code i v }
def pI (s : Sco) (n : BA) : Sco := { s with l := s.l ++ [⟨n, 4, s.loc⟩], loc := s.loc + 1 }
def bS (l0 : List Ent) (s : Sco) (S : Sl) : Sco := { s with l := l0, loc := eG S s.loc, st := s.st + (S.wt : Int), code := s.code ++ n7 S s.l s.loc s.code.length, sites := s.sites ++ bL S s.st }
variable {k : Nat} {s : Sco}
theorem rQ {i : Nat} {v : Int} : v8 k (bN s i v) = v8 k s := by simp only [v8, bN, jO]
variable {t : Int}
theorem MQ {i : Ins} {n : BA} : v8 k (pI (m9 (aS s) i t) n) = ⟨0, false, 148, 10, [.vec s.p.globals.length (o8 s.p.globals), .vec s.p.c4.length (g5 s.p.c4), .vec s.p.funcs.length (n6 s.p.funcs), .vec (s.l.length + 1) (j0 (s.l ++ [⟨n, 4, s.loc⟩])), .int .i64 (s.loc + 1), .int .i64 (s.st + 1), .int .i64 0, .int .i64 0, .own (k + 1) (s.code.length + 1) 0 (s.code.length + 1), .own (k + 2) (s.sites.length + 1) 0 (s.sites.length + 1)], 0⟩ := by
  simp only [v8, pI, m9, aS, List.length_append, List.length_cons, List.length_nil, Nat.zero_add]
theorem yE : (v8 k s).gen = 0 := rfl
theorem tM : (v8 k s).bH = false := rfl
theorem tN : (v8 k s).elem = 148 := rfl
theorem yF : (v8 k s).esz = 10 := rfl
theorem yG : (v8 k s).frz = 0 := rfl
theorem pJ : (v8 k s).cells = [.vec s.p.globals.length (o8 s.p.globals), .vec s.p.c4.length (g5 s.p.c4), .vec s.p.funcs.length (n6 s.p.funcs), .vec s.l.length (j0 s.l), .int .i64 s.loc, .int .i64 s.st, .int .i64 0, .int .i64 0, .own (k + 1) s.code.length 0 s.code.length, .own (k + 2) s.sites.length 0 s.sites.length] := rfl
theorem FA : (aS s).l = s.l := rfl
theorem R5 : (aS s).loc = s.loc := rfl
theorem stSt_p : (aS s).p = s.p := rfl
theorem eU : (aS s).code.length = s.code.length := rfl
theorem dN : (aS s).sites.length = s.sites.length := rfl
theorem J2 {i : Ins} : (m9 s i t).l = s.l := rfl
theorem tP {i : Ins} : (m9 s i t).loc = s.loc := rfl
theorem R6 {i : Ins} : (m9 s i t).st = s.st := rfl
theorem stPut_p {i : Ins} : (m9 s i t).p = s.p := rfl
theorem bF {i : Ins} : (m9 s i t).code.length = s.code.length + 1 := by simp [m9]
theorem aW {i : Ins} : (m9 s i t).sites.length = s.sites.length + 1 := by simp [m9]
theorem stTgt_l {i : Nat} : (bN s i t).l = s.l := rfl
theorem iN {i : Nat} : (bN s i t).code.length = s.code.length := jO
theorem mS {i : Nat} : (bN s i t).sites.length = s.sites.length := rfl
variable {l0 : List Ent} {S : Sl}
theorem finS_l : (bS l0 s S).l = l0 := rfl
theorem finS_p : (bS l0 s S).p = s.p := rfl
theorem gH : s.code.length ≤ (bS l0 s S).code.length ∧ (bS l0 s S).code.length ≤ s.code.length + 2 * S.wt := by
  have := dU S s.l s.loc s.code.length
  simp only [bS, List.length_append]; omega
theorem gB : s.sites.length ≤ (bS l0 s S).sites.length ∧ (bS l0 s S).sites.length ≤ s.sites.length + 2 * S.wt := by
  have := gA S s.st
  simp only [bS, List.length_append]; omega
theorem qE : ∀ (S : Sl) (n : Int), n ≤ eG S n ∧ eG S n ≤ n + (S.wt : Int)
  | .nil, n => by simp [eG, Sl.wt]
  | .cons k nm e r xs th el rest, n => by
    have r1 := qE rest (n + 1)
    have r2 := qE rest (eG el (eG th n))
    have r3 := qE rest (eG th n)
    have r4 := qE rest n
    have t1 := qE th n
    have e1 := qE el (eG th n)
    simp only [eG, Sl.wt]
    split
    · omega
    · split
      · omega
      · split <;> omega
structure Bnd (s : Sco) (W : Nat) : Prop where
  lp : 0 < s.l.length
  lb : s.l.length + W ≤ 900
  cb : s.code.length + 2 * W ≤ 5000
  sb : s.sites.length + 2 * W ≤ 5000
  o0 : 0 ≤ s.loc
  ob : s.loc + (W : Int) ≤ 5000
  t0 : 0 ≤ s.st
  tb : s.st + (W : Int) ≤ 5000
structure Bd (E : Env) (c : Ctx) (p : Go.Un.Pg) : Prop where
  hE : E.c4 = p.c4
  hc : c.nm = p.c4.length
  hf : E.funcs = p.funcs.map fun f => (f.name, f.params)
  fp : ∀ f ∈ E.funcs, f.2.length ≤ 2
theorem Sco.eq {a b : Sco} (h1 : a.p = b.p) (h2 : a.l = b.l) (h3 : a.loc = b.loc) (h4 : a.st = b.st) (h5 : a.code = b.code) (h6 : a.sites = b.sites) : a = b := by
  cases a; cases b; simp_all
variable {rest : Sl}
theorem fin_var {n : BA} {e : Ex} : bS l0 (pI (m9 (aS s) ⟨1, s.loc, false, eF s.l e, bA, [], []⟩ s.st) n) rest = bS l0 s (.cons 1 n e l7 [] .nil .nil rest) := by
  refine Sco.eq rfl rfl ?_ ?_ ?_ ?_
  · simp only [bS, pI, m9, aS, eG, if_true]
  · simp only [bS, pI, m9, aS, Sl.wt]; omega
  · simp only [bS, pI, m9, aS, n7, if_true, List.append_assoc, List.cons_append, List.nil_append, List.length_append, List.length_cons, List.length_nil, Nat.zero_add]
  · simp only [bS, pI, m9, aS, bL, show ¬ (1 : Int) = 7 from by decide, show ¬ (1 : Int) = 8 from by decide, if_false, List.append_assoc, List.cons_append, List.nil_append]
variable {r : Rf} {xs : List Ar}
theorem pK {i : Ins} {k : Int} {n : BA} {e : Ex} (h : n7 (.cons k n e r xs .nil .nil rest) s.l s.loc s.code.length = i :: n7 rest s.l s.loc (s.code.length + 1)) (hk : k ≠ 1 ∧ k ≠ 7 ∧ k ≠ 8) : bS l0 (m9 (aS s) i s.st) rest = bS l0 s (.cons k n e r xs .nil .nil rest) := by
  refine Sco.eq rfl rfl ?_ ?_ ?_ ?_
  · simp only [bS, m9, aS, eG, hk.1, hk.2.1, hk.2.2, if_false]
  · simp only [bS, m9, aS, Sl.wt]; omega
  · simp only [bS, h, m9, aS, List.append_assoc, List.cons_append, List.nil_append, List.length_append, List.length_cons, List.length_nil, Nat.zero_add]
  · simp only [bS, m9, aS, bL, hk.2.1, hk.2.2, if_false, List.append_assoc, List.cons_append, List.nil_append]
theorem len_nil {s : Sl} : ¬ 0 < s.len ↔ s = .nil := ⟨fun h => Sl.xE (by omega), fun h => by subst h; simp [Go.Un.Sl.len]⟩
def cP (s : Sco) (e : Ex) (th : Sl) : Sco := bS s.l (m9 (aS s) ⟨6, 0, false, eF s.l e, bA, [], []⟩ s.st) th
def stJ (s : Sco) (e : Ex) (th : Sl) : Sco := m9 (cP s e th) ⟨7, 0, false, j9, bA, [], []⟩ s.st
def cQ (s : Sco) (e : Ex) (th el : Sl) : Sco := bS s.l (bN (stJ s e th) s.code.length ((stJ s e th).code.length : Int)) el
def yX (s : Sco) (e : Ex) (th : Sl) : Sco := m9 (cP s e th) ⟨7, ((s.code.length : Nat) : Int), false, j9, bA, [], []⟩ s.st
variable {th : Sl}
theorem oA {e : Ex} : (cP s e th).code = s.code ++ ((⟨6, 0, false, eF s.l e, bA, [], []⟩ : Ins) :: n7 th s.l s.loc (s.code.length + 1)) := by
  simp only [cP, bS, m9, aS, List.append_assoc, List.cons_append, List.nil_append, List.length_append, List.length_cons, List.length_nil, Nat.zero_add]
theorem oB {e : Ex} : (cP s e th).code.length = s.code.length + 1 + (n7 th s.l s.loc (s.code.length + 1)).length := by
  rw [oA]; simp; omega
theorem MR {e : Ex} {v : Int} : (bN (stJ s e th) s.code.length v).code = s.code ++ ((⟨6, v, false, eF s.l e, bA, [], []⟩ : Ins) :: (n7 th s.l s.loc (s.code.length + 1) ++ [⟨7, 0, false, j9, bA, [], []⟩])) := by
  simp only [bN, stJ, m9, oA, List.append_assoc, List.cons_append]
  exact yD rfl
variable {el : Sl}
theorem tQ {e : Ex} : (cQ s e th el).code = s.code ++ ((⟨6, ((stJ s e th).code.length : Int), false, eF s.l e, bA, [], []⟩ : Ins) :: (n7 th s.l s.loc (s.code.length + 1) ++ (⟨7, 0, false, j9, bA, [], []⟩ :: n7 el s.l (eG th s.loc) ((cP s e th).code.length + 1)))) := by
  have h1 : (bN (stJ s e th) s.code.length ((stJ s e th).code.length : Int)).code.length = (cP s e th).code.length + 1 := by
    simp only [bN, jO, stJ, m9, List.length_append, List.length_cons, List.length_nil, Nat.zero_add]
  show (bN (stJ s e th) s.code.length ((stJ s e th).code.length : Int)).code ++ n7 el s.l (eG th s.loc) _ = _
  rw [h1, MR]
  simp only [List.append_assoc, List.cons_append, List.nil_append]
theorem stJ_len {e : Ex} : (stJ s e th).code.length = (cP s e th).code.length + 1 := by simp [stJ, m9]
theorem Z1 {e : Ex} : (cQ s e th el).code.length = (cP s e th).code.length + 1 + (n7 el s.l (eG th s.loc) ((cP s e th).code.length + 1)).length := by
  rw [tQ, oB]; simp; omega
theorem fin_if {n : BA} {e : Ex} : bS l0 (bN (cP s e th) s.code.length ((cP s e th).code.length : Int)) rest = bS l0 s (.cons 7 n e r xs th .nil rest) := by
  have hne : ¬ (7 : Int) = 1 ∧ ¬ (7 : Int) = 2 ∧ ¬ ((7 : Int) = 3 ∨ (7 : Int) = 4) ∧ ¬ (7 : Int) = 5 ∧ ¬ (7 : Int) = 6 := by decide
  have h0 : ¬ 0 < Sl.nil.len := by simp [Go.Un.Sl.len]
  refine Sco.eq rfl rfl ?_ ?_ ?_ ?_
  · simp only [bS, bN, cP, m9, aS, eG, hne.1, if_false, if_true]
  · simp only [bS, bN, cP, m9, aS, Sl.wt]; omega
  · show qN (cP s e th).code s.code.length _ ++ n7 rest s.l (eG th s.loc) (qN (cP s e th).code s.code.length _).length = s.code ++ n7 _ s.l s.loc s.code.length
    rw [jO, oB, oA, yD rfl]
    simp only [n7, eG, hne.1, hne.2.1, hne.2.2.1, hne.2.2.2.1, hne.2.2.2.2, h0, if_false, if_true, List.append_assoc, List.cons_append]
  · show s.sites ++ [s.st] ++ bL th (s.st + 1) ++ bL rest (s.st + 1 + (th.wt : Int)) = s.sites ++ bL _ s.st
    simp only [bL, Sl.wt, h0, if_true, if_false, List.append_assoc, List.cons_append, List.nil_append, Int.natCast_zero, Int.add_zero]
theorem MS {n : BA} {e : Ex} (hel : 0 < el.len) : bS l0 (bN (cQ s e th el) (cP s e th).code.length ((cQ s e th el).code.length : Int)) rest = bS l0 s (.cons 7 n e r xs th el rest) := by
  have hne : ¬ (7 : Int) = 1 ∧ ¬ (7 : Int) = 2 ∧ ¬ ((7 : Int) = 3 ∨ (7 : Int) = 4) ∧ ¬ (7 : Int) = 5 ∧ ¬ (7 : Int) = 6 := by decide
  refine Sco.eq rfl rfl ?_ ?_ ?_ ?_
  · simp only [bS, bN, cQ, stJ, cP, m9, aS, eG, hne.1, if_false, if_true]
  · simp only [bS, bN, cQ, stJ, cP, m9, aS, Sl.wt]; omega
  · show qN (cQ s e th el).code (cP s e th).code.length _ ++ n7 rest s.l (eG el (eG th s.loc)) (qN (cQ s e th el).code (cP s e th).code.length _).length = s.code ++ n7 _ s.l s.loc s.code.length
    rw [jO, Z1, tQ]
    rw [show s.code ++ ((⟨6, ((stJ s e th).code.length : Int), false, eF s.l e, bA, [], []⟩ : Ins) :: (n7 th s.l s.loc (s.code.length + 1) ++ (⟨7, 0, false, j9, bA, [], []⟩ :: n7 el s.l (eG th s.loc) ((cP s e th).code.length + 1)))) = (s.code ++ ((⟨6, ((stJ s e th).code.length : Int), false, eF s.l e, bA, [], []⟩ : Ins) :: n7 th s.l s.loc (s.code.length + 1))) ++ (⟨7, 0, false, j9, bA, [], []⟩ :: n7 el s.l (eG th s.loc) ((cP s e th).code.length + 1)) from by simp only [List.append_assoc, List.cons_append]]
    rw [yD (by rw [oB]; simp; omega), stJ_len, oB]
    simp only [n7, hne.1, hne.2.1, hne.2.2.1, hne.2.2.2.1, hne.2.2.2.2, hel, if_false, if_true, List.append_assoc, List.cons_append]
  · show s.sites ++ [s.st] ++ bL th (s.st + 1) ++ [s.st] ++ bL el (s.st + 1 + (th.wt : Int)) ++ bL rest (s.st + 1 + (th.wt : Int) + (el.wt : Int)) = s.sites ++ bL _ s.st
    simp only [bL, hel, if_true, List.append_assoc, List.cons_append, List.nil_append]
theorem fin_wh {n : BA} {e : Ex} : bS l0 (bN (yX s e th) s.code.length ((yX s e th).code.length : Int)) rest = bS l0 s (.cons 8 n e r xs th .nil rest) := by
  have hne : ¬ (8 : Int) = 1 ∧ ¬ (8 : Int) = 2 ∧ ¬ ((8 : Int) = 3 ∨ (8 : Int) = 4) ∧ ¬ (8 : Int) = 5 ∧ ¬ (8 : Int) = 6 ∧ ¬ (8 : Int) = 7 := by decide
  rw [show (yX s e th).code.length = (cP s e th).code.length + 1 from by simp [yX, m9]]
  refine Sco.eq rfl rfl ?_ ?_ ?_ ?_
  · simp only [bS, bN, yX, cP, m9, aS, eG, hne.1, hne.2.2.2.2.2, if_false, if_true]
  · simp only [bS, bN, yX, cP, m9, aS, Sl.wt]; omega
  · show qN ((cP s e th).code ++ [⟨7, ((s.code.length : Nat) : Int), false, j9, bA, [], []⟩]) s.code.length _ ++ n7 rest s.l (eG th s.loc) (qN ((cP s e th).code ++ [⟨7, ((s.code.length : Nat) : Int), false, j9, bA, [], []⟩]) s.code.length _).length = s.code ++ n7 _ s.l s.loc s.code.length
    rw [jO, List.length_append, oB, oA, List.append_assoc, List.cons_append, yD rfl]
    simp only [n7, hne.1, hne.2.1, hne.2.2.1, hne.2.2.2.1, hne.2.2.2.2.1, hne.2.2.2.2.2, if_false, if_true, List.append_assoc, List.cons_append, List.nil_append, List.length_cons, List.length_nil, Nat.zero_add]
  · show s.sites ++ [s.st] ++ bL th (s.st + 1) ++ [s.st] ++ bL rest (s.st + 1 + (th.wt : Int)) = s.sites ++ bL _ s.st
    simp only [bL, hne.2.2.2.2.2, if_true, if_false, List.append_assoc, List.cons_append, List.nil_append]
theorem agg_nil {h : c6} {φ : Map} {w : World} {xs xs' : List AV} (hn : mU xs' xs) {v : Value} (r : Rel h φ w v (.agg xs)) : Rel h φ w v (.agg xs') := by
  cases r with
  | pure hp => cases hp
  | agg a _ ha h1 hr =>
    obtain ⟨k1, k2⟩ := hn.get
    refine .agg a xs' (by rw [ha, k1]) h1 fun j v y e1 e2 => ?_
    have hj : j < xs.length := by rw [← k1]; exact (List.getElem?_eq_some_iff.1 e2).1
    have hx : xs[j]? = some xs[j] := List.getElem?_eq_getElem hj
    rcases k2 j y _ e2 hx with rfl | ⟨e3, rfl⟩
    · exact hr j v _ e1 hx
    · exact F8 (e3 ▸ hr j v _ e1 hx)
def Dy : List AV → List AV → Prop
  | [], [] => True
  | x :: xs, y :: ys => (x = y ∨ ∃ a b, x = .agg a ∧ y = .agg b ∧ mU a b) ∧ Dy xs ys
  | _, _ => False
theorem Dy.get : ∀ {xs ys : List AV}, Dy xs ys → xs.length = ys.length ∧ ∀ (t : Nat) (x y : AV), xs[t]? = some x → ys[t]? = some y → x = y ∨ ∃ a b, x = .agg a ∧ y = .agg b ∧ mU a b
  | [], [], _ => ⟨rfl, fun t x y h => by simp at h⟩
  | x :: xs, y :: ys, h => by
    obtain ⟨h1, h2⟩ := h
    obtain ⟨k1, k2⟩ := Dy.get h2
    refine ⟨by simp [k1], fun t u v hu hv => ?_⟩
    match t with
    | 0 => simp at hu hv; subst hu; subst hv; exact h1
    | t + 1 => exact k2 t u v t131 t132
  | [], _ :: _, h => h.elim
  | _ :: _, [], h => h.elim
theorem aggArg {f : FuncId} {h : c6} {args args' : List AV} {Q : AV → c6 → Prop} (ha : Dy args' args) (r : CallA Tryz.prog cfg f args' h Q) : CallA Tryz.prog cfg f args h Q := by
  intro B φ w cargs i hs hr
  obtain ⟨k1, k2⟩ := ha.get
  refine r B φ w cargs i (by rw [k1]; exact hs) fun j v y h1 h2 => ?_
  have hj : j < args.length := by rw [← k1]; exact (List.getElem?_eq_some_iff.1 h2).1
  have hx : args[j]? = some args[j] := List.getElem?_eq_getElem hj
  rcases k2 j y _ h2 hx with rfl | ⟨a, b, rfl, e2, hn⟩
  · exact hr j v _ h1 hx
  · exact agg_nil hn (e2 ▸ hr j v _ h1 hx)
theorem lB {e : Frm} (hc : s.code.length < 10000) (hs : s.sites.length < 10000) (i : Ins) (t : Int) {zs : List AV} (hz : mU (dJ i) zs) : CH 82 [.ptr e.k 0 0, .agg zs, .int .i64 t] (hT e (v8 e.k s) s.code s.sites) (.int .i64 ((s.code.length : Nat) : Int)) (hT e (v8 e.k (m9 s i t)) (m9 s i t).code (m9 s i t).sites) :=
  aggArg (args' := [.ptr e.k 0 0, .agg (dJ i), .int .i64 t]) ⟨.inl rfl, .inr ⟨_, _, rfl, rfl, hz⟩, .inl rfl, trivial⟩ (c_put hc hs i t)
theorem FB : ∀ {c : List Ins} {i : Nat} {v : Int}, i < c.length → List.take (i * 12 + 1) (o3 c) ++ AV.int .i64 v :: List.drop (i * 12 + 1 + 1) (o3 c) = o3 (qN c i v)
  | x :: c, 0, v, _ => by
    have e1 : o3 (x :: c) = dJ x ++ o3 c := by simp [o3]
    have e2 : qN (x :: c) 0 v = { x with target := v } :: c := by simp [qN]
    have e3 : o3 ({ x with target := v } :: c) = dJ { x with target := v } ++ o3 c := by simp [o3]
    rw [e1, e2, e3]
    rfl
  | x :: c, i + 1, v, h => by
    have ih := FB (c := c) (i := i) (v := v) (by simpa using h)
    have e1 : o3 (x :: c) = dJ x ++ o3 c := by simp [o3]
    have e2 : qN (x :: c) (i + 1) v = x :: qN c i v := by simp [qN]
    have e3 : o3 (x :: qN c i v) = dJ x ++ o3 (qN c i v) := by simp [o3]
    have hl : (dJ x).length = 12 := aC x
    rw [e1, e2, e3, ← ih, show (i + 1) * 12 + 1 = (dJ x).length + (i * 12 + 1) from by omega, List.take_length_add_append, show (dJ x).length + (i * 12 + 1) + 1 = (dJ x).length + (i * 12 + 1 + 1) from by omega, List.drop_length_add_append, List.append_assoc]
theorem D2 {c : List Ins} (h : 0 < c.length) : o3 c ≠ [] := by
  intro h0
  have := congrArg List.length h0
  rw [s5] at this
  simp at this
  omega
section
variable {e : Frm} {b : Blk} {c : List Ins} {ss : List Int} {l : c6} {v : Int} {i n : Nat}
theorem hT_1na (h : 0 < c.length) : (hT e b c ss ++ l)[e.k + 1]? = some ⟨c.length, false, 77, 12, o3 c, 0⟩ := by rw [ML, cU (D2 h)]
theorem hT_pn (h : c.length = n) (h0 : 0 < n) : (hT e b c ss ++ l).set (e.k + 1) ⟨n, false, 77, 12, o3 (qN c i v), 0⟩ = hT e b (qN c i v) ss ++ l := by
  subst h
  have hl : (qN c i v).length = c.length := jO
  have : p4 77 12 (qN c i v).length (o3 (qN c i v)) = ⟨c.length, false, 77, 12, o3 (qN c i v), 0⟩ := by rw [cU (D2 (by omega)), hl]
  rw [← this, QT]
theorem app_cpE {b0 b1 b2 : Blk} {es : List Ent} {n : Nat} (hz : es.length = n) (h0 : 0 < n) (hn : n < 1000) : j5 cfg 110 (hT e b c ss ++ (b0 :: b1 :: b2 :: ⟨1, false, 110, 3, [], 0⟩ :: l)) (.own (e.n + 3) 1 0 0) (.vec n (j0 es)) = some (.own (e.n + 3) 2 0 n, hT e b c ss ++ (b0 :: b1 :: b2 :: ⟨2, false, 110, 3, j0 es, 0⟩ :: l)) := by
  subst hz
  have e1 : cfg.sz 110 = 3 := rfl
  have e2 : (cfg.ti 110).bytes = 32 := rfl
  have hm : es.length ≤ maxLen := by
    have : (1000 : Nat) ≤ maxLen := by decide
    omega
  have hb : es.length * 32 ≤ 140737488355328 := by omega
  have h1 : (j0 es).length = es.length * 3 := by rw [p6]; omega
  have h2 : ¬ es.length = 0 := by omega
  have h3 : ¬ es.length * 3 = 0 := by omega
  simp [j5, rd, lenOf, e1, e2, h1, hm, hb, dC, fG, h0, h2, h3]
theorem app_onE {b0 b1 b2 : Blk} {es : List Ent} {x : BA} {k m : Int} {n : Nat} (hz : es.length = n) (hn : n < 1000) : j5 cfg 110 (hT e b c ss ++ (b0 :: b1 :: b2 :: ⟨2, false, 110, 3, j0 es, 0⟩ :: ⟨1, false, 110, 3, [.str x, .int .i64 k, .int .i64 m], 0⟩ :: l)) (.own (e.n + 3) 2 0 n) (.own (e.n + 4) 1 0 1) = some (.own (e.n + 3) 3 0 (n + 1), hT e b c ss ++ (b0 :: b1 :: b2 :: ⟨3, false, 110, 3, j0 (es ++ [⟨x, k, m⟩]), 0⟩ :: ⟨1, false, 110, 3, [.str x, .int .i64 k, .int .i64 m], 0⟩ :: l)) := by
  subst hz
  have e1 : cfg.sz 110 = 3 := rfl
  have e2 : (cfg.ti 110).bytes = 32 := rfl
  have hm : es.length + 1 ≤ maxLen := by
    have : (1001 : Nat) ≤ maxLen := by decide
    omega
  have hb : (es.length + 1) * 32 ≤ 140737488355328 := by omega
  have h1 : (j0 es).length = es.length * 3 := by rw [p6]; omega
  have ht : List.take (es.length * 3) (j0 es) = j0 es := List.take_of_length_le (by omega)
  have hnl : ¬ (es.length + 1) * 3 ≤ es.length * 3 := by omega
  have hs : j0 (es ++ [⟨x, k, m⟩]) = j0 es ++ [.str x, .int .i64 k, .int .i64 m] := by simp [j0, gE]
  simp [j5, rd, lenOf, e1, e2, h1, hm, hb, ht, hnl, dC, fG, hs]
end
theorem pL (l : List Ent) : w6 (j0 l) := w6.flat fun _ => w6.cons .str (w6.cons .int (w6.cons .int .nil))
theorem stIf_l {e : Ex} : (cP s e th).l = s.l := rfl
attribute [local go_sem] rd p6 m8 aN bQ s5 aC eE cK n5 aJ aA l9 aP Int.natCast_nonneg Int.natCast_inj List.length_map wrap64 eJ gV gX P6 B8 G9 P7 xO max2 dV bU aQ Nat.reduceMul lO iM gE nY jM tL y0 hT_0 hT_2 MK MM dC yA fG I8 MN Q8 hT_1na hT_pn FB app_cpE app_onE yE tM tN yF yG pJ xV FA R5 stSt_p eU dN J2 tP R6 stPut_p bF aW stTgt_l iN mS finS_l finS_p stIf_l
variable {E : Env} {vs : List BA} {pre : Sl} {W : Nat}
theorem c_blk1 {e : Frm} {c : Ctx} (sc : SC E c vs s.l) (bd : Bd E c s.p) (B : Bnd s W) (hW : 1 ≤ W) (j : Nat) (hj : j < 24) (hn : vnm j ∉ vs) (a : Ex) (he : GE vs 2 a) : c9 Tryz.prog cfg (pC [1, 0, 1, 0, 0, 1, 0] (hY Tryz.f81)) ⟨mkS 253 [(0, AV.ptr e.k 0 0), (1, AV.vec (Go.Un.Sl.len (pre.app (.cons 1 (vnm j) a l7 [] .nil .nil rest))) (n8 (pre.app (.cons 1 (vnm j) a l7 [] .nil .nil rest)))), (4, AV.vec l0.length (j0 l0)), (5, AV.int .i64 ((pre.len : Nat) : Int))], (hT e (v8 e.k s) s.code s.sites)⟩ (Led 253 [(0, AV.ptr e.k 0 0), (1, AV.vec (Go.Un.Sl.len (pre.app (.cons 1 (vnm j) a l7 [] .nil .nil rest))) (n8 (pre.app (.cons 1 (vnm j) a l7 [] .nil .nil rest)))), (4, AV.vec l0.length (j0 l0)), (5, AV.int .i64 ((pre.len : Nat) : Int))] ((hT e (v8 e.k (pI (m9 (aS s) ⟨1, s.loc, false, eF s.l a, bA, [], []⟩ s.st) (vnm j))) ((pI (m9 (aS s) ⟨1, s.loc, false, eF s.l a, bA, [], []⟩ s.st) (vnm j))).code ((pI (m9 (aS s) ⟨1, s.loc, false, eF s.l a, bA, [], []⟩ s.st) (vnm j))).sites))) := by
  obtain ⟨q1, q2, q3, q4, q5, q6, q7, q8⟩ := B
  have hlc := @u3 pre 1 (vnm j) a l7 [] .nil .nil rest
  refine c147z ?_
  refine c9.w7 (hT e (v8 e.k (aS s)) s.code s.sites ++ [⟨0, false, 140, 11, [.int .i64 1, .str (vnm j), .int .i64 a.op, .int .i64 a.num, .str a.name, .vec a.args.length (l8 a.args), .str l7.name, .vec l7.idx.length (l8 l7.idx), .vec (([] : List Ar)).length (aO ([] : List Ar)), .vec (Go.Un.Sl.len Go.Un.Sl.nil) (n8 Go.Un.Sl.nil), .vec (Go.Un.Sl.len Go.Un.Sl.nil) (n8 Go.Un.Sl.nil)], 0⟩]) rfl ?_
  refine c24z ?_
  refine .c7 [0, 1, 4, 5, 6, 7, 41] ?_
  refine c100z ?_
  refine .seq ?_
  refine c22z ?_
  refine c107z ?_
  refine .cl rfl rfl (fun _ => EW (sc.fr j hj hn) (by omega)) ?_
  refine c231z ?_
  refine .c7 [0, 1, 4, 5, 6, 7, 9] ?_
  refine c8z ?_
  refine .sk ?_
  refine c31z ?_
  refine .ch rfl rfl (eL (MP (s := aS s) t117 s.st sc.var he _)) ?_
  refine .n ?_
  refine .sg s9 (mkH 9 [0, 0, 2, 6, 14, 0, 62, 0, 255] [8] [] [0, 256] []) 0 ?_
  refine s8.w7 t23 ?_
  refine c157z ?_
  refine .rn [true] ?_
  refine .p 2 ?_
  refine .cn [true] [256, 0] [_] rfl rfl (by simp only [iV, and_true, List.cons_append, List.nil_append]; exact eL (lB t44 t40 ⟨1, s.loc, false, eF s.l a, bA, [], []⟩ s.st t21)) ?_
  refine s8.nil rfl ?_
  refine .c7 [0, 1, 4, 5, 6] ?_
  refine .sg s9 (mkH 19 [0, 0, 0, 4, 12, 28, 62, 0, 128, 0, 512, 1536, 3584, 8064, 16256, 32766, 65535, 131071, 262143] [1, 6, 14, 15, 18] [(1, 0), (14, 1)] [0, 2, 66, 16384, 16386, 16450, 49218, 311362] [0, 1, 2, 3, 4, 5, 6]) 2 ?_
  refine .p 1 ?_
  refine .em [true] [2, 0] [_] ?_
  refine .p 3 ?_
  refine .rm [true, true] ?_
  refine .em [true, false] [66, 2, 0] [_] ?_
  refine .p 1 ?_
  refine .rn [true, true, true] ?_
  refine .p 3 ?_
  refine .rn [true, true, true] ?_
  refine .p 1 ?_
  refine .en [true, true, true] [16450, 16386, 16384, 66, 2, 0] [_, _, _] ?_
  refine .en [true, false, false, false, false, false] [49218, 16450, 16386, 16384, 66, 2, 0] [_] ?_
  refine .p 2 ?_
  refine .en [true, false, false, false, false, false, false] [311362, 49218, 16450, 16386, 16384, 66, 2, 0] [_] ?_
  refine .po [false, false, false, true, false, false, true, false] ?_
  refine .po [false, false, false, true, true, false, true, true] ?_
  refine .po [false, false, false, false, true, false, false, true] ?_
  refine s8.nil rfl ?_
  refine .c7 [0, 1, 4, 5] ?_
  refine c9.A0 (γ := e.n + 3) (β := e.k) (k := 3) (off := 0) (len := s.l.length + 1) (cs := j0 (s.l ++ [⟨vnm j, 4, s.loc⟩])) t89 rfl t164 (by rw [List.drop_zero, List.take_of_length_le t164]; exact (pL _).PR) (by simp only [MK]; rfl) (by have := e.lt; omega) rfl ?_
  simp only [fG, Q8, List.set_cons_succ, List.set_cons_zero]
  refine .rz ?_
  exact .mk _ (by rw [MQ]; rfl)
theorem c_blk2 {e : Frm} {c : Ctx} (sc : SC E c vs s.l) (bd : Bd E c s.p) (B : Bnd s W) (hW : 1 ≤ W) (n : BA) (hn : n ∈ vs) (a : Ex) (he : GE vs 2 a) : c9 Tryz.prog cfg (pC [1, 0, 1, 0, 0, 1, 0] (hY Tryz.f81)) ⟨mkS 253 [(0, AV.ptr e.k 0 0), (1, AV.vec (Go.Un.Sl.len (pre.app (.cons 2 n a l7 [] .nil .nil rest))) (n8 (pre.app (.cons 2 n a l7 [] .nil .nil rest)))), (4, AV.vec l0.length (j0 l0)), (5, AV.int .i64 ((pre.len : Nat) : Int))], (hT e (v8 e.k s) s.code s.sites)⟩ (Led 253 [(0, AV.ptr e.k 0 0), (1, AV.vec (Go.Un.Sl.len (pre.app (.cons 2 n a l7 [] .nil .nil rest))) (n8 (pre.app (.cons 2 n a l7 [] .nil .nil rest)))), (4, AV.vec l0.length (j0 l0)), (5, AV.int .i64 ((pre.len : Nat) : Int))] ((hT e (v8 e.k (m9 (aS s) ⟨1, (dR s.l n).n, (dR s.l n).kind == 1, eF s.l a, bA, [], []⟩ s.st)) ((m9 (aS s) ⟨1, (dR s.l n).n, (dR s.l n).kind == 1, eF s.l a, bA, [], []⟩ s.st)).code ((m9 (aS s) ⟨1, (dR s.l n).n, (dR s.l n).kind == 1, eF s.l a, bA, [], []⟩ s.st)).sites))) := by
  obtain ⟨q1, q2, q3, q4, q5, q6, q7, q8⟩ := B
  have hlc := @u3 pre 2 n a l7 [] .nil .nil rest
  obtain ⟨v, hv1, hv2⟩ := sc.var n hn
  refine c147z ?_
  refine c9.w7 (hT e (v8 e.k (aS s)) s.code s.sites ++ [⟨0, false, 140, 11, [.int .i64 2, .str n, .int .i64 a.op, .int .i64 a.num, .str a.name, .vec a.args.length (l8 a.args), .str l7.name, .vec l7.idx.length (l8 l7.idx), .vec (([] : List Ar)).length (aO ([] : List Ar)), .vec (Go.Un.Sl.len Go.Un.Sl.nil) (n8 Go.Un.Sl.nil), .vec (Go.Un.Sl.len Go.Un.Sl.nil) (n8 Go.Un.Sl.nil)], 0⟩]) rfl ?_
  refine c158z ?_
  refine c100z ?_
  refine c31z ?_
  refine .ch rfl rfl (eL (c_var (s := aS s) t117 s.st hv1 hv2)) ?_
  refine .n ?_
  refine .c7 [0, 1, 4, 5, 6, 7, 11] ?_
  refine .og s9 (mkH 14 [0, 0, 2, 0, 8, 24, 0, 0, 128, 0, 960, 2046, 0, 8191] [10, 13] [] [0, 1024, 9216] [0, 1, 2, 3, 4, 5]) 0 ?_
  refine s8.w7 t23 ?_
  refine .p 2 ?_
  refine c107z ?_
  refine c89z ?_
  refine .p 1 ?_
  refine .cn [true] [1024, 0] [_] rfl rfl (by simp only [iV, and_true, List.cons_append, List.nil_append]; exact eL (MP (s := aS s) t117 s.st sc.var he _)) ?_
  refine .p 2 ?_
  refine .cn [true, false] [9216, 1024, 0] [_] rfl rfl (by simp only [iV, and_true, List.cons_append, List.nil_append]; exact eL (lB t44 t40 ⟨1, v.n, v.kind == 1, eF s.l a, bA, [], []⟩ s.st t21)) ?_
  refine c143z ?_
  exact .mk _ (by rw [dF hv1])
theorem c_blk3 {e : Frm} {c : Ctx} (sc : SC E c vs s.l) (bd : Bd E c s.p) (B : Bnd s W) (hW : 1 ≤ W) (f : BA × List Pm) (hf : f ∈ E.funcs) (xs : List Ar) (ha : GAs E vs f.2 xs) : c9 Tryz.prog cfg (pC [1, 0, 1, 0, 0, 1, 0] (hY Tryz.f81)) ⟨mkS 253 [(0, AV.ptr e.k 0 0), (1, AV.vec (Go.Un.Sl.len (pre.app (.cons 3 f.1 j9 l7 xs .nil .nil rest))) (n8 (pre.app (.cons 3 f.1 j9 l7 xs .nil .nil rest)))), (4, AV.vec l0.length (j0 l0)), (5, AV.int .i64 ((pre.len : Nat) : Int))], (hT e (v8 e.k s) s.code s.sites)⟩ (Led 253 [(0, AV.ptr e.k 0 0), (1, AV.vec (Go.Un.Sl.len (pre.app (.cons 3 f.1 j9 l7 xs .nil .nil rest))) (n8 (pre.app (.cons 3 f.1 j9 l7 xs .nil .nil rest)))), (4, AV.vec l0.length (j0 l0)), (5, AV.int .i64 ((pre.len : Nat) : Int))] ((hT e (v8 e.k (m9 (aS s) ⟨2, (dR s.l f.1).n, false, j9, bA, aD s.l xs, v5 s.l xs⟩ s.st)) ((m9 (aS s) ⟨2, (dR s.l f.1).n, false, j9, bA, aD s.l xs, v5 s.l xs⟩ s.st)).code ((m9 (aS s) ⟨2, (dR s.l f.1).n, false, j9, bA, aD s.l xs, v5 s.l xs⟩ s.st)).sites))) := by
  obtain ⟨q1, q2, q3, q4, q5, q6, q7, q8⟩ := B
  have hlc := @u3 pre 3 f.1 j9 l7 xs .nil .nil rest
  obtain ⟨⟨fy, fk, fn⟩, hf1, hfk, hf5, hf6, hf7⟩ := sc.fn f hf
  simp only at hfk hf5 hf6 hf7
  subst hfk
  have hf2 : 0 ≤ fn ∧ fn < s.p.funcs.length := by rw [bd.hf, List.length_map] at hf6; exact ⟨hf5, hf6⟩
  have hf3 : (s.p.funcs.getD fn.toNat g9).params = f.2 := by rw [bd.hf, getD_map (d' := g9) (by omega)] at hf7; rw [← hf7]
  have hf4 := bd.fp f hf
  refine c147z ?_
  refine c9.w7 (hT e (v8 e.k (aS s)) s.code s.sites ++ [⟨0, false, 140, 11, [.int .i64 3, .str f.1, .int .i64 j9.op, .int .i64 j9.num, .str j9.name, .vec j9.args.length (l8 j9.args), .str l7.name, .vec l7.idx.length (l8 l7.idx), .vec (xs).length (aO xs), .vec (Go.Un.Sl.len Go.Un.Sl.nil) (n8 Go.Un.Sl.nil), .vec (Go.Un.Sl.len Go.Un.Sl.nil) (n8 Go.Un.Sl.nil)], 0⟩]) rfl ?_
  refine c180z ?_
  refine .T ?_
  refine .sk ?_
  refine .T ?_
  refine c138z ?_
  refine .ch rfl rfl (eL (c_call3 (s := aS s) t117 s.st sc bd.hE bd.hc hf1 hf2 hf3 hf4 ha)) ?_
  refine .e 1 ?_
  refine .ch rfl rfl (eL (lB t44 t40 ⟨2, fn, false, j9, bA, aD s.l xs, v5 s.l xs⟩ s.st t21)) ?_
  refine .nil ?_
  exact .mk _ (by rw [dF hf1])
theorem c_blk4 {e : Frm} {c : Ctx} (sc : SC E c vs s.l) (bd : Bd E c s.p) (B : Bnd s W) (hW : 1 ≤ W) (f : BA × List Pm) (hf : f ∈ E.funcs) (xs : List Ar) (ha : GAs E vs f.2 xs) : c9 Tryz.prog cfg (pC [1, 0, 1, 0, 0, 1, 0] (hY Tryz.f81)) ⟨mkS 253 [(0, AV.ptr e.k 0 0), (1, AV.vec (Go.Un.Sl.len (pre.app (.cons 4 f.1 j9 l7 xs .nil .nil rest))) (n8 (pre.app (.cons 4 f.1 j9 l7 xs .nil .nil rest)))), (4, AV.vec l0.length (j0 l0)), (5, AV.int .i64 ((pre.len : Nat) : Int))], (hT e (v8 e.k s) s.code s.sites)⟩ (Led 253 [(0, AV.ptr e.k 0 0), (1, AV.vec (Go.Un.Sl.len (pre.app (.cons 4 f.1 j9 l7 xs .nil .nil rest))) (n8 (pre.app (.cons 4 f.1 j9 l7 xs .nil .nil rest)))), (4, AV.vec l0.length (j0 l0)), (5, AV.int .i64 ((pre.len : Nat) : Int))] ((hT e (v8 e.k (m9 (aS s) ⟨3, (dR s.l f.1).n, false, j9, bA, aD s.l xs, v5 s.l xs⟩ s.st)) ((m9 (aS s) ⟨3, (dR s.l f.1).n, false, j9, bA, aD s.l xs, v5 s.l xs⟩ s.st)).code ((m9 (aS s) ⟨3, (dR s.l f.1).n, false, j9, bA, aD s.l xs, v5 s.l xs⟩ s.st)).sites))) := by
  obtain ⟨q1, q2, q3, q4, q5, q6, q7, q8⟩ := B
  have hlc := @u3 pre 4 f.1 j9 l7 xs .nil .nil rest
  obtain ⟨⟨fy, fk, fn⟩, hf1, hfk, hf5, hf6, hf7⟩ := sc.fn f hf
  simp only at hfk hf5 hf6 hf7
  subst hfk
  have hf2 : 0 ≤ fn ∧ fn < s.p.funcs.length := by rw [bd.hf, List.length_map] at hf6; exact ⟨hf5, hf6⟩
  have hf3 : (s.p.funcs.getD fn.toNat g9).params = f.2 := by rw [bd.hf, getD_map (d' := g9) (by omega)] at hf7; rw [← hf7]
  have hf4 := bd.fp f hf
  refine c147z ?_
  refine c9.w7 (hT e (v8 e.k (aS s)) s.code s.sites ++ [⟨0, false, 140, 11, [.int .i64 4, .str f.1, .int .i64 j9.op, .int .i64 j9.num, .str j9.name, .vec j9.args.length (l8 j9.args), .str l7.name, .vec l7.idx.length (l8 l7.idx), .vec (xs).length (aO xs), .vec (Go.Un.Sl.len Go.Un.Sl.nil) (n8 Go.Un.Sl.nil), .vec (Go.Un.Sl.len Go.Un.Sl.nil) (n8 Go.Un.Sl.nil)], 0⟩]) rfl ?_
  refine c209z ?_
  refine .T ?_
  refine .c7 [0, 1, 4, 5, 6, 7] ?_
  refine c138z ?_
  refine .ch rfl rfl (eL (c_call4 (s := aS s) t117 s.st sc bd.hE bd.hc hf1 hf2 hf3 hf4 ha)) ?_
  refine .e 1 ?_
  refine .ch rfl rfl (eL (lB t44 t40 ⟨3, fn, false, j9, bA, aD s.l xs, v5 s.l xs⟩ s.st t21)) ?_
  refine .nil ?_
  exact .mk _ (by rw [dF hf1])
theorem c_blk5 {e : Frm} {c : Ctx} (sc : SC E c vs s.l) (bd : Bd E c s.p) (B : Bnd s W) (hW : 1 ≤ W) (r : Rf) (hR : GR E vs r) : c9 Tryz.prog cfg (pC [1, 0, 1, 0, 0, 1, 0] (hY Tryz.f81)) ⟨mkS 253 [(0, AV.ptr e.k 0 0), (1, AV.vec (Go.Un.Sl.len (pre.app (.cons 5 ByteArray.empty j9 r [] .nil .nil rest))) (n8 (pre.app (.cons 5 ByteArray.empty j9 r [] .nil .nil rest)))), (4, AV.vec l0.length (j0 l0)), (5, AV.int .i64 ((pre.len : Nat) : Int))], (hT e (v8 e.k s) s.code s.sites)⟩ (Led 253 [(0, AV.ptr e.k 0 0), (1, AV.vec (Go.Un.Sl.len (pre.app (.cons 5 ByteArray.empty j9 r [] .nil .nil rest))) (n8 (pre.app (.cons 5 ByteArray.empty j9 r [] .nil .nil rest)))), (4, AV.vec l0.length (j0 l0)), (5, AV.int .i64 ((pre.len : Nat) : Int))] ((hT e (v8 e.k (m9 (aS s) ⟨4, 0, false, j9, pE s.l r, [], []⟩ s.st)) ((m9 (aS s) ⟨4, 0, false, j9, pE s.l r, [], []⟩ s.st)).code ((m9 (aS s) ⟨4, 0, false, j9, pE s.l r, [], []⟩ s.st)).sites))) := by
  obtain ⟨q1, q2, q3, q4, q5, q6, q7, q8⟩ := B
  have hlc := @u3 pre 5 ByteArray.empty j9 r [] .nil .nil rest
  refine c147z ?_
  refine c9.w7 (hT e (v8 e.k (aS s)) s.code s.sites ++ [⟨0, false, 140, 11, [.int .i64 5, .str ByteArray.empty, .int .i64 j9.op, .int .i64 j9.num, .str j9.name, .vec j9.args.length (l8 j9.args), .str r.name, .vec r.idx.length (l8 r.idx), .vec (([] : List Ar)).length (aO ([] : List Ar)), .vec (Go.Un.Sl.len Go.Un.Sl.nil) (n8 Go.Un.Sl.nil), .vec (Go.Un.Sl.len Go.Un.Sl.nil) (n8 Go.Un.Sl.nil)], 0⟩]) rfl ?_
  refine c242z ?_
  refine c100z ?_
  refine .c7 [0, 1, 4, 5, 6, 7] ?_
  refine .r ?_
  refine .e 5 ?_
  refine .ch rfl rfl (eL (EZ (s := aS s) t117 s.st sc bd.hE bd.hc hR)) ?_
  refine .e 2 ?_
  refine .ch rfl rfl (eL (lB t44 t40 ⟨4, 0, false, j9, pE s.l r, [], []⟩ s.st t21)) ?_
  refine .nil ?_
  exact .mk _ rfl
theorem c_blk6 {e : Frm} {c : Ctx} (sc : SC E c vs s.l) (bd : Bd E c s.p) (B : Bnd s W) (hW : 1 ≤ W) (r : Rf) (hR : GR E vs r) : c9 Tryz.prog cfg (pC [1, 0, 1, 0, 0, 1, 0] (hY Tryz.f81)) ⟨mkS 253 [(0, AV.ptr e.k 0 0), (1, AV.vec (Go.Un.Sl.len (pre.app (.cons 6 ByteArray.empty j9 r [] .nil .nil rest))) (n8 (pre.app (.cons 6 ByteArray.empty j9 r [] .nil .nil rest)))), (4, AV.vec l0.length (j0 l0)), (5, AV.int .i64 ((pre.len : Nat) : Int))], (hT e (v8 e.k s) s.code s.sites)⟩ (Led 253 [(0, AV.ptr e.k 0 0), (1, AV.vec (Go.Un.Sl.len (pre.app (.cons 6 ByteArray.empty j9 r [] .nil .nil rest))) (n8 (pre.app (.cons 6 ByteArray.empty j9 r [] .nil .nil rest)))), (4, AV.vec l0.length (j0 l0)), (5, AV.int .i64 ((pre.len : Nat) : Int))] ((hT e (v8 e.k (m9 (aS s) ⟨5, 0, false, j9, pE s.l r, [], []⟩ s.st)) ((m9 (aS s) ⟨5, 0, false, j9, pE s.l r, [], []⟩ s.st)).code ((m9 (aS s) ⟨5, 0, false, j9, pE s.l r, [], []⟩ s.st)).sites))) := by
  obtain ⟨q1, q2, q3, q4, q5, q6, q7, q8⟩ := B
  have hlc := @u3 pre 6 ByteArray.empty j9 r [] .nil .nil rest
  refine c147z ?_
  refine c9.w7 (hT e (v8 e.k (aS s)) s.code s.sites ++ [⟨0, false, 140, 11, [.int .i64 6, .str ByteArray.empty, .int .i64 j9.op, .int .i64 j9.num, .str j9.name, .vec j9.args.length (l8 j9.args), .str r.name, .vec r.idx.length (l8 r.idx), .vec (([] : List Ar)).length (aO ([] : List Ar)), .vec (Go.Un.Sl.len Go.Un.Sl.nil) (n8 Go.Un.Sl.nil), .vec (Go.Un.Sl.len Go.Un.Sl.nil) (n8 Go.Un.Sl.nil)], 0⟩]) rfl ?_
  refine c242z ?_
  refine c8z ?_
  refine .c7 [0, 1, 4, 5, 6, 7, 41] ?_
  refine c100z ?_
  refine .r ?_
  refine .e 5 ?_
  refine .ch rfl rfl (eL (EZ (s := aS s) t117 s.st sc bd.hE bd.hc hR)) ?_
  refine .e 2 ?_
  refine .ch rfl rfl (eL (lB t44 t40 ⟨5, 0, false, j9, pE s.l r, [], []⟩ s.st t21)) ?_
  refine .nil ?_
  exact .mk _ rfl
theorem c_blk7 {e : Frm} {c : Ctx} (sc : SC E c vs s.l) (bd : Bd E c s.p) (B : Bnd s W) (a : Ex) (he : GE vs 2 a) (th : Sl) (hW : 1 + th.wt ≤ W) (ith : (∀ s' : Sco, SC E c vs s'.l → s'.p = s.p → Bnd s' th.wt → ∀ e : Frm, CH 81 [.ptr e.k 0 0, .vec th.len (n8 th)] (hT e (v8 e.k s') (s').code (s').sites) (.tup []) (hT e (v8 e.k (bS s'.l s' th)) ((bS s'.l s' th)).code ((bS s'.l s' th)).sites))) : c9 Tryz.prog cfg (pC [1, 0, 1, 0, 0, 1, 0] (hY Tryz.f81)) ⟨mkS 253 [(0, AV.ptr e.k 0 0), (1, AV.vec (Go.Un.Sl.len (pre.app (.cons 7 ByteArray.empty a l7 [] th .nil rest))) (n8 (pre.app (.cons 7 ByteArray.empty a l7 [] th .nil rest)))), (4, AV.vec l0.length (j0 l0)), (5, AV.int .i64 ((pre.len : Nat) : Int))], (hT e (v8 e.k s) s.code s.sites)⟩ (Led 253 [(0, AV.ptr e.k 0 0), (1, AV.vec (Go.Un.Sl.len (pre.app (.cons 7 ByteArray.empty a l7 [] th .nil rest))) (n8 (pre.app (.cons 7 ByteArray.empty a l7 [] th .nil rest)))), (4, AV.vec l0.length (j0 l0)), (5, AV.int .i64 ((pre.len : Nat) : Int))] ((hT e (v8 e.k (bN (cP s a th) s.code.length ((cP s a th).code.length : Int))) ((bN (cP s a th) s.code.length ((cP s a th).code.length : Int))).code ((bN (cP s a th) s.code.length ((cP s a th).code.length : Int))).sites))) := by
  obtain ⟨q1, q2, q3, q4, q5, q6, q7, q8⟩ := B
  have hlc := @u3 pre 7 ByteArray.empty a l7 [] th .nil rest
  refine c147z ?_
  refine c9.w7 (hT e (v8 e.k (aS s)) s.code s.sites ++ [⟨0, false, 140, 11, [.int .i64 7, .str ByteArray.empty, .int .i64 a.op, .int .i64 a.num, .str a.name, .vec a.args.length (l8 a.args), .str l7.name, .vec l7.idx.length (l8 l7.idx), .vec (([] : List Ar)).length (aO ([] : List Ar)), .vec (Go.Un.Sl.len th) (n8 th), .vec (Go.Un.Sl.len Go.Un.Sl.nil) (n8 Go.Un.Sl.nil)], 0⟩]) rfl ?_
  refine c242z ?_
  refine c8z ?_
  refine c36z ?_
  refine c100z ?_
  refine c23z ?_
  refine c144z ?_
  refine .n ?_
  refine .c7 [0, 1, 4, 5, 6, 7, 12] ?_
  have b1 : Bnd (m9 (aS s) ⟨6, 0, false, eF s.l a, bA, [], []⟩ s.st) th.wt := ⟨q1, t169, t154, t148, q5, t157, t149, t134⟩
  refine c93z ?_
  refine .nil ?_
  have fc := gH (l0 := s.l) (s := m9 (aS s) ⟨6, 0, false, eF s.l a, bA, [], []⟩ s.st) (S := th)
  have fs := gB (l0 := s.l) (s := m9 (aS s) ⟨6, 0, false, eF s.l a, bA, [], []⟩ s.st) (S := th)
  rw [bF, eU] at fc
  rw [aW, dN] at fs
  change _ ≤ (cP s a th).code.length ∧ (cP s a th).code.length ≤ _ at fc
  change _ ≤ (cP s a th).sites.length ∧ (cP s a th).sites.length ≤ _ at fs
  change c9 _ _ _ ⟨mkS _ _, hT e (v8 e.k (cP s a th)) (cP s a th).code (cP s a th).sites ++ _⟩ _
  refine c8z ?_
  refine .c7 [0, 1, 4, 5, 12] ?_
  refine c105z ?_
  refine c157z ?_
  refine .p 3 ?_
  refine c164z ?_
  exact .mk _ (by rw [rQ]; rfl)
theorem c_blk17 {e : Frm} {c : Ctx} (sc : SC E c vs s.l) (bd : Bd E c s.p) (B : Bnd s W) (a : Ex) (he : GE vs 2 a) (th el : Sl) (hel : 0 < el.len) (hW : 1 + th.wt + el.wt ≤ W) (ith : (∀ s' : Sco, SC E c vs s'.l → s'.p = s.p → Bnd s' th.wt → ∀ e : Frm, CH 81 [.ptr e.k 0 0, .vec th.len (n8 th)] (hT e (v8 e.k s') (s').code (s').sites) (.tup []) (hT e (v8 e.k (bS s'.l s' th)) ((bS s'.l s' th)).code ((bS s'.l s' th)).sites))) (iel : (∀ s' : Sco, SC E c vs s'.l → s'.p = s.p → Bnd s' el.wt → ∀ e : Frm, CH 81 [.ptr e.k 0 0, .vec el.len (n8 el)] (hT e (v8 e.k s') (s').code (s').sites) (.tup []) (hT e (v8 e.k (bS s'.l s' el)) ((bS s'.l s' el)).code ((bS s'.l s' el)).sites))) : c9 Tryz.prog cfg (pC [1, 0, 1, 0, 0, 1, 0] (hY Tryz.f81)) ⟨mkS 253 [(0, AV.ptr e.k 0 0), (1, AV.vec (Go.Un.Sl.len (pre.app (.cons 7 ByteArray.empty a l7 [] th el rest))) (n8 (pre.app (.cons 7 ByteArray.empty a l7 [] th el rest)))), (4, AV.vec l0.length (j0 l0)), (5, AV.int .i64 ((pre.len : Nat) : Int))], (hT e (v8 e.k s) s.code s.sites)⟩ (Led 253 [(0, AV.ptr e.k 0 0), (1, AV.vec (Go.Un.Sl.len (pre.app (.cons 7 ByteArray.empty a l7 [] th el rest))) (n8 (pre.app (.cons 7 ByteArray.empty a l7 [] th el rest)))), (4, AV.vec l0.length (j0 l0)), (5, AV.int .i64 ((pre.len : Nat) : Int))] ((hT e (v8 e.k (bN (cQ s a th el) (cP s a th).code.length ((cQ s a th el).code.length : Int))) ((bN (cQ s a th el) (cP s a th).code.length ((cQ s a th el).code.length : Int))).code ((bN (cQ s a th el) (cP s a th).code.length ((cQ s a th el).code.length : Int))).sites))) := by
  obtain ⟨q1, q2, q3, q4, q5, q6, q7, q8⟩ := B
  have hlc := @u3 pre 7 ByteArray.empty a l7 [] th el rest
  refine c147z ?_
  refine c9.w7 (hT e (v8 e.k (aS s)) s.code s.sites ++ [⟨0, false, 140, 11, [.int .i64 7, .str ByteArray.empty, .int .i64 a.op, .int .i64 a.num, .str a.name, .vec a.args.length (l8 a.args), .str l7.name, .vec l7.idx.length (l8 l7.idx), .vec (([] : List Ar)).length (aO ([] : List Ar)), .vec (Go.Un.Sl.len th) (n8 th), .vec (Go.Un.Sl.len el) (n8 el)], 0⟩]) rfl ?_
  refine c242z ?_
  refine c8z ?_
  refine c36z ?_
  refine c100z ?_
  refine c23z ?_
  refine c144z ?_
  refine .n ?_
  refine .c7 [0, 1, 4, 5, 6, 7, 12] ?_
  have b1 : Bnd (m9 (aS s) ⟨6, 0, false, eF s.l a, bA, [], []⟩ s.st) th.wt := ⟨q1, t169, t154, t148, q5, t157, t149, t134⟩
  refine c93z ?_
  refine .nil ?_
  have fc := gH (l0 := s.l) (s := m9 (aS s) ⟨6, 0, false, eF s.l a, bA, [], []⟩ s.st) (S := th)
  have fs := gB (l0 := s.l) (s := m9 (aS s) ⟨6, 0, false, eF s.l a, bA, [], []⟩ s.st) (S := th)
  rw [bF, eU] at fc
  rw [aW, dN] at fs
  change _ ≤ (cP s a th).code.length ∧ (cP s a th).code.length ≤ _ at fc
  change _ ≤ (cP s a th).sites.length ∧ (cP s a th).sites.length ≤ _ at fs
  change c9 _ _ _ ⟨mkS _ _, hT e (v8 e.k (cP s a th)) (cP s a th).code (cP s a th).sites ++ _⟩ _
  refine .z ?_
  refine uTbz ?_
  intro e1 qe1
  refine .c7 [0, 1, 4, 5, 6, 7, 12] ?_
  refine c18z ?_
  refine .ch rfl rfl (eL (lB t44 t40 ⟨7, 0, false, j9, bA, [], []⟩ s.st t21)) ?_
  refine .n ?_
  change c9 _ _ _ ⟨mkS _ _, hT e (v8 e.k (stJ s a th)) (stJ s a th).code (stJ s a th).sites ++ _⟩ _
  have jc : (stJ s a th).code.length = (cP s a th).code.length + 1 := bF
  have js : (stJ s a th).sites.length = (cP s a th).sites.length + 1 := aW
  refine .sg s9 (mkH 13 [0, 1, 3, 7, 0, 0, 32, 96, 224, 480, 1023, 2047, 4095] [12] [] [0, 4096] []) 0 ?_
  refine c89z ?_
  refine c157z ?_
  refine .p 3 ?_
  refine c164z ?_
  refine .c7 [0, 1, 4, 5, 6, 13] ?_
  refine c9.w7 (hT e (v8 e.k (bN (stJ s a th) s.code.length ((stJ s a th).code.length : Int))) (bN (stJ s a th) s.code.length ((stJ s a th).code.length : Int)).code (bN (stJ s a th) s.code.length ((stJ s a th).code.length : Int)).sites ++ [_]) (by rw [rQ]; rfl) ?_
  have lb := qE th s.loc
  have b2 : Bnd (bN (stJ s a th) s.code.length ((stJ s a th).code.length : Int)) el.wt := ⟨q1, by show s.l.length + _ ≤ _; omega, by rw [iN, jc]; omega, by rw [mS, js]; omega, by show 0 ≤ eG th s.loc; omega, by show eG th s.loc + _ ≤ _; omega, by show 0 ≤ s.st + 1 + (th.wt : Int); omega, by show s.st + 1 + (th.wt : Int) + _ ≤ _; omega⟩
  refine c18z ?_
  refine .ch rfl rfl (eL (iel (bN (stJ s a th) s.code.length ((stJ s a th).code.length : Int)) sc rfl b2 _)) ?_
  refine .nil ?_
  have ec : (stJ s a th).code.length ≤ (cQ s a th el).code.length ∧ (cQ s a th el).code.length ≤ (stJ s a th).code.length + 2 * el.wt := by have h0 := gH (l0 := s.l) (s := (bN (stJ s a th) s.code.length ((stJ s a th).code.length : Int))) (S := el); rw [iN] at h0; exact h0
  change c9 _ _ _ ⟨mkS _ _, hT e (v8 e.k (cQ s a th el)) (cQ s a th el).code (cQ s a th el).sites ++ _⟩ _
  refine c105z ?_
  refine c157z ?_
  refine .p 3 ?_
  refine c164z ?_
  exact .mk _ (by rw [rQ]; rfl)
theorem c_blk8 {e : Frm} {c : Ctx} (sc : SC E c vs s.l) (bd : Bd E c s.p) (B : Bnd s W) (a : Ex) (he : GE vs 2 a) (th : Sl) (hW : 1 + th.wt ≤ W) (ith : (∀ s' : Sco, SC E c vs s'.l → s'.p = s.p → Bnd s' th.wt → ∀ e : Frm, CH 81 [.ptr e.k 0 0, .vec th.len (n8 th)] (hT e (v8 e.k s') (s').code (s').sites) (.tup []) (hT e (v8 e.k (bS s'.l s' th)) ((bS s'.l s' th)).code ((bS s'.l s' th)).sites))) : c9 Tryz.prog cfg (pC [1, 0, 1, 0, 0, 1, 0] (hY Tryz.f81)) ⟨mkS 253 [(0, AV.ptr e.k 0 0), (1, AV.vec (Go.Un.Sl.len (pre.app (.cons 8 ByteArray.empty a l7 [] th .nil rest))) (n8 (pre.app (.cons 8 ByteArray.empty a l7 [] th .nil rest)))), (4, AV.vec l0.length (j0 l0)), (5, AV.int .i64 ((pre.len : Nat) : Int))], (hT e (v8 e.k s) s.code s.sites)⟩ (Led 253 [(0, AV.ptr e.k 0 0), (1, AV.vec (Go.Un.Sl.len (pre.app (.cons 8 ByteArray.empty a l7 [] th .nil rest))) (n8 (pre.app (.cons 8 ByteArray.empty a l7 [] th .nil rest)))), (4, AV.vec l0.length (j0 l0)), (5, AV.int .i64 ((pre.len : Nat) : Int))] ((hT e (v8 e.k (bN (yX s a th) s.code.length ((yX s a th).code.length : Int))) ((bN (yX s a th) s.code.length ((yX s a th).code.length : Int))).code ((bN (yX s a th) s.code.length ((yX s a th).code.length : Int))).sites))) := by
  obtain ⟨q1, q2, q3, q4, q5, q6, q7, q8⟩ := B
  have hlc := @u3 pre 8 ByteArray.empty a l7 [] th .nil rest
  refine c147z ?_
  refine c9.w7 (hT e (v8 e.k (aS s)) s.code s.sites ++ [⟨0, false, 140, 11, [.int .i64 8, .str ByteArray.empty, .int .i64 a.op, .int .i64 a.num, .str a.name, .vec a.args.length (l8 a.args), .str l7.name, .vec l7.idx.length (l8 l7.idx), .vec (([] : List Ar)).length (aO ([] : List Ar)), .vec (Go.Un.Sl.len th) (n8 th), .vec (Go.Un.Sl.len Go.Un.Sl.nil) (n8 Go.Un.Sl.nil)], 0⟩]) rfl ?_
  refine c242z ?_
  refine c8z ?_
  refine c36z ?_
  refine c8z ?_
  refine c100z ?_
  refine c23z ?_
  refine c144z ?_
  refine .n ?_
  refine .c7 [0, 1, 4, 5, 6, 7, 14] ?_
  have b1 : Bnd (m9 (aS s) ⟨6, 0, false, eF s.l a, bA, [], []⟩ s.st) th.wt := ⟨q1, t169, t154, t148, q5, t157, t149, t134⟩
  refine c93z ?_
  refine .nil ?_
  have fc := gH (l0 := s.l) (s := m9 (aS s) ⟨6, 0, false, eF s.l a, bA, [], []⟩ s.st) (S := th)
  have fs := gB (l0 := s.l) (s := m9 (aS s) ⟨6, 0, false, eF s.l a, bA, [], []⟩ s.st) (S := th)
  rw [bF, eU] at fc
  rw [aW, dN] at fs
  change _ ≤ (cP s a th).code.length ∧ (cP s a th).code.length ≤ _ at fc
  change _ ≤ (cP s a th).sites.length ∧ (cP s a th).sites.length ≤ _ at fs
  change c9 _ _ _ ⟨mkS _ _, hT e (v8 e.k (cP s a th)) (cP s a th).code (cP s a th).sites ++ _⟩ _
  refine c31z ?_
  refine .ch rfl rfl (eL (lB t44 t40 ⟨7, ((s.code.length : Nat) : Int), false, j9, bA, [], []⟩ s.st t21)) ?_
  refine .nil ?_
  refine .c7 [0, 1, 4, 5, 14] ?_
  change c9 _ _ _ ⟨mkS _ _, hT e (v8 e.k (yX s a th)) (yX s a th).code (yX s a th).sites ++ _⟩ _
  have jc : (yX s a th).code.length = (cP s a th).code.length + 1 := bF
  refine c105z ?_
  refine c157z ?_
  refine .p 3 ?_
  refine c164z ?_
  exact .mk _ (by rw [rQ]; rfl)
theorem c_blk9 {e : Frm} {c : Ctx} (sc : SC E c vs s.l) (bd : Bd E c s.p) (B : Bnd s W) (hW : 1 ≤ W) : c9 Tryz.prog cfg (pC [1, 0, 1, 0, 0, 1, 0] (hY Tryz.f81)) ⟨mkS 253 [(0, AV.ptr e.k 0 0), (1, AV.vec (Go.Un.Sl.len (pre.app (.cons 9 ByteArray.empty j9 l7 [] .nil .nil rest))) (n8 (pre.app (.cons 9 ByteArray.empty j9 l7 [] .nil .nil rest)))), (4, AV.vec l0.length (j0 l0)), (5, AV.int .i64 ((pre.len : Nat) : Int))], (hT e (v8 e.k s) s.code s.sites)⟩ (Led 253 [(0, AV.ptr e.k 0 0), (1, AV.vec (Go.Un.Sl.len (pre.app (.cons 9 ByteArray.empty j9 l7 [] .nil .nil rest))) (n8 (pre.app (.cons 9 ByteArray.empty j9 l7 [] .nil .nil rest)))), (4, AV.vec l0.length (j0 l0)), (5, AV.int .i64 ((pre.len : Nat) : Int))] ((hT e (v8 e.k (m9 (aS s) ⟨8, 0, false, j9, bA, [], []⟩ s.st)) ((m9 (aS s) ⟨8, 0, false, j9, bA, [], []⟩ s.st)).code ((m9 (aS s) ⟨8, 0, false, j9, bA, [], []⟩ s.st)).sites))) := by
  obtain ⟨q1, q2, q3, q4, q5, q6, q7, q8⟩ := B
  have hlc := @u3 pre 9 ByteArray.empty j9 l7 [] .nil .nil rest
  refine c147z ?_
  refine c9.w7 (hT e (v8 e.k (aS s)) s.code s.sites ++ [⟨0, false, 140, 11, [.int .i64 9, .str ByteArray.empty, .int .i64 j9.op, .int .i64 j9.num, .str j9.name, .vec j9.args.length (l8 j9.args), .str l7.name, .vec l7.idx.length (l8 l7.idx), .vec (([] : List Ar)).length (aO ([] : List Ar)), .vec (Go.Un.Sl.len Go.Un.Sl.nil) (n8 Go.Un.Sl.nil), .vec (Go.Un.Sl.len Go.Un.Sl.nil) (n8 Go.Un.Sl.nil)], 0⟩]) rfl ?_
  refine c242z ?_
  refine c8z ?_
  refine c36z ?_
  refine c112z ?_
  refine .c7 [0, 1, 4, 5, 7] ?_
  refine .r ?_
  refine .e 3 ?_
  refine .ch rfl rfl (eL (lB t44 t40 ⟨8, 0, false, j9, bA, [], []⟩ s.st t21)) ?_
  refine .nil ?_
  exact .mk _ rfl
theorem Bnd.mono {W' : Nat} (h : Bnd s W) (hw : W' ≤ W) : Bnd s W' := by
  obtain ⟨q1, q2, q3, q4, q5, q6, q7, q8⟩ := h
  exact ⟨q1, by omega, by omega, by omega, q5, by omega, q7, by omega⟩
theorem Bnd.ins (h : Bnd s (1 + W)) (i : Ins) : Bnd (m9 (aS s) i s.st) W := by
  obtain ⟨q1, q2, q3, q4, q5, q6, q7, q8⟩ := h
  exact ⟨q1, t169, t154, t148, q5, t157, t149, t134⟩
theorem Bnd.var (h : Bnd s (1 + W)) (i : Ins) (n : BA) : Bnd (pI (m9 (aS s) i s.st) n) W := by
  obtain ⟨q1, q2, q3, q4, q5, q6, q7, q8⟩ := h
  exact ⟨by simp [pI], by show (s.l ++ [_]).length + _ ≤ _; simp; omega, by show (m9 (aS s) i s.st).code.length + _ ≤ _; rw [bF, eU]; omega, by show (m9 (aS s) i s.st).sites.length + _ ≤ _; rw [aW, dN]; omega, by show 0 ≤ s.loc + 1; omega, by show s.loc + 1 + _ ≤ _; omega, t149, t134⟩
theorem Bnd.fin (h : Bnd s (S.wt + W)) : Bnd (bS s.l s S) W := by
  obtain ⟨q1, q2, q3, q4, q5, q6, q7, q8⟩ := h
  have h1 := gH (l0 := s.l) (s := s) (S := S)
  have h2 := gB (l0 := s.l) (s := s) (S := S)
  have h3 := qE S s.loc
  exact ⟨q1, by show s.l.length + _ ≤ _; omega, by omega, by omega, by show 0 ≤ eG S s.loc; omega, by show eG S s.loc + _ ≤ _; omega, by show 0 ≤ s.st + (S.wt : Int); omega, by show s.st + (S.wt : Int) + _ ≤ _; omega⟩
theorem Bnd.tgt {i : Nat} {v : Int} (h : Bnd s W) : Bnd (bN s i v) W := by
  obtain ⟨q1, q2, q3, q4, q5, q6, q7, q8⟩ := h
  exact ⟨q1, q2, by rw [iN]; exact q3, q4, q5, q6, q7, q8⟩
theorem Bnd.put2 (h : Bnd s W) (i : Ins) (t : Int) (hc : s.code.length + 1 + 2 * W ≤ 5000) (hs : s.sites.length + 1 + 2 * W ≤ 5000) : Bnd (m9 s i t) W := by
  obtain ⟨q1, q2, q3, q4, q5, q6, q7, q8⟩ := h
  exact ⟨q1, by rw [J2]; omega, by rw [bF]; omega, by rw [aW]; omega, q5, by rw [tP]; omega, q7, by rw [R6]; omega⟩
variable {a : Ex}
theorem D3 (h : Bnd s (1 + th.wt + W)) : Bnd (cP s a th) W ∧ (cP s a th).code.length + 1 + 2 * W ≤ 5000 ∧ (cP s a th).sites.length + 1 + 2 * W ≤ 5000 := by
  have h1 := (show Bnd s (1 + (th.wt + W)) from h.mono (by omega)).ins ⟨6, 0, false, eF s.l a, bA, [], []⟩
  have h2 := gH (l0 := s.l) (s := m9 (aS s) ⟨6, 0, false, eF s.l a, bA, [], []⟩ s.st) (S := th)
  have h3 := gB (l0 := s.l) (s := m9 (aS s) ⟨6, 0, false, eF s.l a, bA, [], []⟩ s.st) (S := th)
  rw [bF, eU] at h2
  rw [aW, dN] at h3
  have q3 := h.cb
  have q4 := h.sb
  exact ⟨h1.fin, by show (bS s.l (m9 (aS s) _ s.st) th).code.length + 1 + 2 * W ≤ 5000; omega, by show (bS s.l (m9 (aS s) _ s.st) th).sites.length + 1 + 2 * W ≤ 5000; omega⟩
theorem MT (h : Bnd s (1 + th.wt + (el.wt + W))) : Bnd (cQ s a th el) W := by
  obtain ⟨h1, h2, h3⟩ := D3 (a := a) h
  exact (((h1.put2 ⟨7, 0, false, j9, bA, [], []⟩ s.st h2 h3).tgt (i := s.code.length) (v := ((stJ s a th).code.length : Int)))).fin
theorem MU {e : Frm} {c : Ctx} (sc : SC E c vs s.l) (bd : Bd E c s.p) {k : Int} {n : BA} (hG : GS E (.cons k n a r xs th el rest) vs) (B : Bnd s (Sl.cons k n a r xs th el rest).wt) (ih : ∀ T : Sl, (T = th ∨ T = el) → GS E T vs → (∀ s' : Sco, SC E c vs s'.l → s'.p = s.p → Bnd s' T.wt → ∀ e : Frm, CH 81 [.ptr e.k 0 0, .vec T.len (n8 T)] (hT e (v8 e.k s') (s').code (s').sites) (.tup []) (hT e (v8 e.k (bS s'.l s' T)) ((bS s'.l s' T)).code ((bS s'.l s' T)).sites))) : ∃ s' vs', SC E c vs' s'.l ∧ GS E rest vs' ∧ s'.p = s.p ∧ Bnd s' rest.wt ∧ bS l0 s' rest = bS l0 s (.cons k n a r xs th el rest) ∧ c9 Tryz.prog cfg (pC [1, 0, 1, 0, 0, 1, 0] (hY Tryz.f81)) ⟨mkS 253 [(0, AV.ptr e.k 0 0), (1, AV.vec (Go.Un.Sl.len (pre.app (.cons k n a r xs th el rest))) (n8 (pre.app (.cons k n a r xs th el rest)))), (4, AV.vec l0.length (j0 l0)), (5, AV.int .i64 ((pre.len : Nat) : Int))], (hT e (v8 e.k s) s.code s.sites)⟩ (Led 253 [(0, AV.ptr e.k 0 0), (1, AV.vec (Go.Un.Sl.len (pre.app (.cons k n a r xs th el rest))) (n8 (pre.app (.cons k n a r xs th el rest)))), (4, AV.vec l0.length (j0 l0)), (5, AV.int .i64 ((pre.len : Nat) : Int))] (hT e (v8 e.k s') (s').code (s').sites)) := by
  rcases hG with ⟨rfl, ⟨j, hj, rfl⟩, hn, he, rfl, rfl, rfl, rfl, hr⟩ | ⟨rfl, hn, he, rfl, rfl, rfl, rfl, hr⟩ | ⟨rfl | rfl, ⟨f, hf, rfl, ha⟩, rfl, rfl, rfl, rfl, hr⟩ | ⟨rfl | rfl, rfl, rfl, hR, rfl, rfl, rfl, hr⟩ | ⟨rfl, rfl, he, rfl, rfl, hth, hel, hr⟩ | ⟨rfl, rfl, he, rfl, rfl, hth, rfl, hr⟩ | ⟨rfl, rfl, rfl, rfl, rfl, rfl, rfl, hr⟩
  all_goals simp only [Sl.wt, Nat.add_zero] at B
  · exact ⟨(pI (m9 (aS s) ⟨1, s.loc, false, eF s.l a, bA, [], []⟩ s.st) (vnm j)), _, sc.push hj hn s.loc, hr, rfl, B.var _ _, fin_var, c_blk1 sc bd B (by omega) j hj hn a he⟩
  · exact ⟨(m9 (aS s) ⟨1, (dR s.l n).n, (dR s.l n).kind == 1, eF s.l a, bA, [], []⟩ s.st), vs, sc, hr, rfl, B.ins _, pK (by simp only [n7, show ¬ (2 : Int) = 1 from by decide, if_true, if_false]; rfl) (by decide), c_blk2 sc bd B (by omega) n hn a he⟩
  · exact ⟨(m9 (aS s) ⟨2, (dR s.l f.1).n, false, j9, bA, aD s.l xs, v5 s.l xs⟩ s.st), vs, sc, hr, rfl, B.ins _, pK (by simp only [n7, show ¬ (3 : Int) = 1 from by decide, show ¬ (3 : Int) = 2 from by decide, show ¬ (3 : Int) = 4 from by decide, true_or, if_true, if_false]) (by decide), c_blk3 sc bd B (by omega) f hf xs ha⟩
  · exact ⟨(m9 (aS s) ⟨3, (dR s.l f.1).n, false, j9, bA, aD s.l xs, v5 s.l xs⟩ s.st), vs, sc, hr, rfl, B.ins _, pK (by simp only [n7, show ¬ (4 : Int) = 1 from by decide, show ¬ (4 : Int) = 2 from by decide, or_true, if_true, if_false]) (by decide), c_blk4 sc bd B (by omega) f hf xs ha⟩
  · exact ⟨(m9 (aS s) ⟨4, 0, false, j9, pE s.l r, [], []⟩ s.st), vs, sc, hr, rfl, B.ins _, pK (by simp only [n7, show ¬ (5 : Int) = 1 from by decide, show ¬ (5 : Int) = 2 from by decide, show ¬ ((5 : Int) = 3 ∨ (5 : Int) = 4) from by decide, if_true, if_false]) (by decide), c_blk5 sc bd B (by omega) r hR⟩
  · exact ⟨(m9 (aS s) ⟨5, 0, false, j9, pE s.l r, [], []⟩ s.st), vs, sc, hr, rfl, B.ins _, pK (by simp only [n7, show ¬ (6 : Int) = 1 from by decide, show ¬ (6 : Int) = 2 from by decide, show ¬ ((6 : Int) = 3 ∨ (6 : Int) = 4) from by decide, show ¬ (6 : Int) = 5 from by decide, if_true, if_false]) (by decide), c_blk6 sc bd B (by omega) r hR⟩
  · by_cases h0 : 0 < el.len
    · exact ⟨(bN (cQ s a th el) (cP s a th).code.length ((cQ s a th el).code.length : Int)), vs, sc, hr, rfl, (MT (B.mono (by omega))).tgt, MS h0, c_blk17 sc bd B a he th el h0 (by omega) (ih _ (.inl rfl) hth) (ih _ (.inr rfl) hel)⟩
    · obtain rfl := len_nil.1 h0
      simp only [Sl.wt, Nat.add_zero] at B
      exact ⟨(bN (cP s a th) s.code.length ((cP s a th).code.length : Int)), vs, sc, hr, rfl, (D3 B).1.tgt, fin_if, c_blk7 sc bd B a he th (by omega) (ih _ (.inl rfl) hth)⟩
  · exact ⟨(bN (yX s a th) s.code.length ((yX s a th).code.length : Int)), vs, sc, hr, rfl, ((D3 (a := a) B).1.put2 _ _ (D3 B).2.1 (D3 B).2.2).tgt, fin_wh, c_blk8 sc bd B a he th (by omega) (ih _ (.inl rfl) hth)⟩
  · exact ⟨(m9 (aS s) ⟨8, 0, false, j9, bA, [], []⟩ s.st), vs, sc, hr, rfl, B.ins _, pK (by simp only [n7, show ¬ (9 : Int) = 1 from by decide, show ¬ (9 : Int) = 2 from by decide, show ¬ ((9 : Int) = 3 ∨ (9 : Int) = 4) from by decide, show ¬ (9 : Int) = 5 from by decide, show ¬ (9 : Int) = 6 from by decide, show ¬ (9 : Int) = 7 from by decide, show ¬ (9 : Int) = 8 from by decide, if_false]) (by decide), c_blk9 sc bd B (by omega)⟩
theorem fin_nil : bS l0 s .nil = { s with l := l0 } := by
  refine Sco.eq rfl rfl rfl ?_ ?_ ?_
  · simp [bS, Sl.wt]
  · simp [bS, n7]
  · simp [bS, bL]
theorem MV {c : Ctx} (S : Sl) (hSl : S.wt ≤ 1000) (vars : List BA) (s : Sco) (sc0 : SC E c vars s.l) (hG0 : GS E S vars) (bd : Bd E c s.p) (B0 : Bnd s S.wt) (e : Frm) (ih : ∀ S' : Sl, S'.wt < S.wt → ∀ (vars : List BA) (s : Sco), SC E c vars s.l → GS E S' vars → Bd E c s.p → Bnd s S'.wt → ∀ e : Frm, CH 81 [.ptr e.k 0 0, .vec S'.len (n8 S')] (hT e (v8 e.k s) (s).code (s).sites) (.tup []) (hT e (v8 e.k (bS s.l s S')) ((bS s.l s S')).code ((bS s.l s S')).sites)) : CH 81 [.ptr e.k 0 0, .vec S.len (n8 S)] (hT e (v8 e.k s) s.code s.sites) (.tup []) (hT e (v8 e.k (bS s.l s S)) ((bS s.l s S)).code ((bS s.l s S)).sites) := by
  refine .wz Tryz.f81 253 ?_
  have hlw := cC S
  refine c53z ?_
  refine .z7 (fun m st => ∃ (Z : Sl) (pre : Sl) (rst : Sl) (vs : List BA) (cur : Sco), (m = rst.len ∧ (Z = S ∧ S = pre.app rst ∧ GS E rst vs ∧ SC E c vs cur.l ∧ cur.p = s.p ∧ Bnd cur rst.wt ∧ bS s.l cur rst = bS s.l s S)) ∧ st = ⟨mkS 253 [(0, AV.ptr e.k 0 0), (1, AV.vec (Go.Un.Sl.len Z) (n8 Z)), (4, AV.vec s.l.length (j0 s.l)), (5, AV.int .i64 ((pre.len : Nat) : Int))], hT e (v8 e.k cur) cur.code cur.sites⟩) (.v ⟨S, Sl.nil, S, vars, s, ⟨rfl, ⟨rfl, rfl, hG0, sc0, rfl, B0, rfl⟩⟩, rfl⟩ (hs := t9) (hr := t86)) ?_
  rintro m sl h' ⟨Z, pre, rst, vs, cur, ⟨hm, ⟨hZ, hS, hG, sc, hp, B, hF⟩⟩, hst⟩
  obtain ⟨rfl, rfl⟩ := St.mk.inj hst; clear hst
  subst hZ
  have hlen := congrArg Go.Un.Sl.len hS; rw [Go.Un.Sl.bD] at hlen
  refine c0z ?_
  refine u2z ?_ ?_
  ·intro e1 qe1
   refine c190z ?_
   obtain ⟨k, n, a, r, xs, th, el, rest, rfl⟩ := Go.Un.Sl.mQ (s := rst) (by omega)
   subst hS
   have hwc := @I0 pre k n a r xs th el rest
   have hlc := @u3 pre k n a r xs th el rest
   obtain ⟨s2, vs2, r1, r2, r3, r4, r5, hrun⟩ := MU (e := e) (l0 := s.l) (pre := pre) sc (by rw [hp]; exact bd) hG B (fun T hT hgT s' q1 q2 q3 e' => ih T (by rcases hT with rfl | rfl <;> omega) _ s' q1 hgT (by rw [q2, hp]; exact bd) q3 e')
   refine c9.fitS [(0, AV.ptr e.k 0 0), (1, AV.vec (Go.Un.Sl.len (pre.app (.cons k n a r xs th el rest))) (n8 (pre.app (.cons k n a r xs th el rest)))), (4, AV.vec s.l.length (j0 s.l)), (5, AV.int .i64 ((pre.len : Nat) : Int))] ?_
   refine c9.led (hrun) ?_
   intro lq hq haq
   change c9 ..
   refine c9.fitS [(0, AV.ptr e.k 0 0), (1, AV.vec (Go.Un.Sl.len (pre.app (.cons k n a r xs th el rest))) (n8 (pre.app (.cons k n a r xs th el rest)))), (4, AV.vec s.l.length (j0 s.l)), (5, AV.int .i64 ((pre.len : Nat) : Int))] ?_ haq
   refine .rz ?_
   exact ⟨_, by omega, .v ⟨_, (pre.app (.cons k n a r xs th el .nil)), rest, vs2, s2, ⟨rfl, ⟨rfl, dH, r2, r1, r3.trans hp, r4, r5.trans hF⟩⟩, rfl⟩ (he := by rfl) (hl := by simp only [y0]; exact Nat.le_refl _) (hk := by exact hT_keep rfl) (hs := t9) (hr := t86)⟩
  intro e1 qe1
  refine .exit ?_
  have hr0 : rst = .nil := Sl.xE (by omega)
  subst hr0
  change c9 ..
  refine .rz ?_
  refine Ends.n ?_
  exact ⟨hT e ⟨0, false, 148, 10, [.vec cur.p.globals.length (o8 cur.p.globals), .vec cur.p.c4.length (g5 cur.p.c4), .vec cur.p.funcs.length (n6 cur.p.funcs), .vec s.l.length (j0 s.l), .int .i64 cur.loc, .int .i64 cur.st, .int .i64 0, .int .i64 0, .own (e.k + 1) cur.code.length 0 cur.code.length, .own (e.k + 2) cur.sites.length 0 cur.sites.length], 0⟩ cur.code cur.sites, [], _, (List.append_nil _).symm, by (simp only [y0]; exact Nat.le_refl _), (yB (eX.get ⟨.vec _ _, .vec _ _, .vec _ _, .vec _ _, .int _ _, .int _ _, .int _ _, .int _ _, .own _ _ _ _ e.lt.2.1, .own _ _ _ _ e.lt.2.2, trivial⟩)), rfl, by rw [← hF, fin_nil]; exact ⟨rfl, rfl⟩⟩
theorem R7 {E : Env} {c : Ctx} : ∀ (n : Nat) (S : Sl), S.wt ≤ n → n ≤ 1000 → ∀ (vars : List BA) (s : Sco), SC E c vars s.l → GS E S vars → Bd E c s.p → Bnd s S.wt → ∀ e : Frm, CH 81 [.ptr e.k 0 0, .vec S.len (n8 S)] (hT e (v8 e.k s) (s).code (s).sites) (.tup []) (hT e (v8 e.k (bS s.l s S)) ((bS s.l s S)).code ((bS s.l s S)).sites)
  | n, S, hn, h1, vars, s, sc, hG, bd, B, e => by
    refine MV S (by omega) vars s sc hG bd B e (fun S' hS' => ?_)
    cases n with
    | zero => omega
    | succ n => exact R7 n S' (by omega) (by omega)
end Go.Proofs.YtfbjlfhjkojmkaaGreat
end
