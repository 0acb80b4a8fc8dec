/- My own texts, put together by a program of mine. -/
import Derived.Test.YtapdldekgbbomaaGreatMQ3
set_option linter.unusedSimpArgs false
set_option linter.unusedVariables false
set_option maxRecDepth 100000
set_option maxHeartbeats 4000000
section
namespace Go.Proofs.YtapdldekgbbomaaGreat
open Go.Ab Go.Un
def bR : Sl → Int → List Int
  | .nil, _ => []
  | .cons k n e r xs th el rest, t =>
    if k = 7 then t :: (bR th (t + 1) ++ ((if 0 < el.len then t :: bR el (t + 1 + (th.wt : Int)) else []) ++ bR rest (t + 1 + (th.wt : Int) + (el.wt : Int))))
    else if k = 8 then t :: (bR th (t + 1) ++ (t :: bR rest (t + 1 + (th.wt : Int))))
    else t :: bR rest (t + 1)
theorem gN : ∀ (S : Sl) (t : Int), (bR S t).length ≤ 2 * S.wt
  | .nil, t => by simp [bR]
  | .cons k n e r xs th el rest, t => by
    have h1 := gN th (t + 1)
    have h2 := gN el (t + 1 + (th.wt : Int))
    have h3 := gN rest (t + 1 + (th.wt : Int) + (el.wt : Int))
    have h4 := gN rest (t + 1 + (th.wt : Int))
    have h5 := gN rest (t + 1)
    unfold bR
    simp only [Sl.wt]
    split
    · split <;> simp only [List.length_cons, List.length_append, List.length_nil] <;> omega
    · split <;> simp only [List.length_cons, List.length_append] <;> omega
def pV (c : List Ins) (i : Nat) (v : Int) : List Ins := c.set i { c.getD i g5 with target := v }
theorem jS {c : List Ins} {i : Nat} {v : Int} : (pV c i v).length = c.length := by simp [pV]
theorem wO {c d : List Ins} {x : Ins} {i : Nat} {v : Int} (hi : i = c.length) : pV (c ++ (x :: d)) i v = c ++ ({ x with target := v } :: d) := by
  subst hi
  simp [pV, List.getD]
def aX (s : Sco) : Sco := { s with st := s.st + 1 }
def n8 (s : Sco) (i : Ins) (t : Int) : Sco := { s with code := s.code ++ [i], sites := s.sites ++ [t] }
def bV (s : Sco) (i : Nat) (v : Int) : Sco := { s with code := pV s.code i v }
def oW (s : Sco) (n : BA) : Sco := { s with l := s.l ++ [⟨n, 4, s.loc⟩], loc := s.loc + 1 }
def bZ (l0 : List Ent) (s : Sco) (S : Sl) : Sco := { s with l := l0, loc := eQ S s.loc, st := s.st + (S.wt : Int), code := s.code ++ o1 S s.l s.loc s.code.length, sites := s.sites ++ bR S s.st }
variable {k : Nat} {s : Sco}
theorem qW {i : Nat} {v : Int} : w6 k (bV s i v) = w6 k s := by simp only [w6, bV, jS]
variable {t : Int}
theorem JA {i : Ins} {n : BA} : w6 k (oW (n8 (aX s) i t) n) = ⟨0, false, 157, 10, [.vec s.p.globals.length (o9 s.p.globals), .vec s.p.c4.length (g9 s.p.c4), .vec s.p.funcs.length (n9 s.p.funcs), .vec (s.l.length + 1) (j5 (s.l ++ [⟨n, 4, s.loc⟩])), .int .i64 (s.loc + 1), .int .i64 (s.st + 1), .int .i64 0, .int .i64 0, .own (k + 1) (s.code.length + 1) 0 (s.code.length + 1), .own (k + 2) (s.sites.length + 1) 0 (s.sites.length + 1)], 0⟩ := by
  simp only [w6, oW, n8, aX, List.length_append, List.length_cons, List.length_nil, Nat.zero_add]
theorem wP : (w6 k s).gen = 0 := rfl
theorem sP : (w6 k s).bN = false := rfl
theorem sQ : (w6 k s).elem = 157 := rfl
theorem wQ : (w6 k s).esz = 10 := rfl
theorem wR : (w6 k s).frz = 0 := rfl
theorem oX : (w6 k s).cells = [.vec s.p.globals.length (o9 s.p.globals), .vec s.p.c4.length (g9 s.p.c4), .vec s.p.funcs.length (n9 s.p.funcs), .vec s.l.length (j5 s.l), .int .i64 s.loc, .int .i64 s.st, .int .i64 0, .int .i64 0, .own (k + 1) s.code.length 0 s.code.length, .own (k + 2) s.sites.length 0 s.sites.length] := rfl
theorem BV : (aX s).l = s.l := rfl
theorem L4 : (aX s).loc = s.loc := rfl
theorem stSt_p : (aX s).p = s.p := rfl
theorem fP : (aX s).code.length = s.code.length := rfl
theorem dU : (aX s).sites.length = s.sites.length := rfl
theorem D2 {i : Ins} : (n8 s i t).l = s.l := rfl
theorem sR {i : Ins} : (n8 s i t).loc = s.loc := rfl
theorem L5 {i : Ins} : (n8 s i t).st = s.st := rfl
theorem stPut_p {i : Ins} : (n8 s i t).p = s.p := rfl
theorem bK {i : Ins} : (n8 s i t).code.length = s.code.length + 1 := by simp [n8]
theorem bB {i : Ins} : (n8 s i t).sites.length = s.sites.length + 1 := by simp [n8]
theorem stTgt_l {i : Nat} : (bV s i t).l = s.l := rfl
theorem iV {i : Nat} : (bV s i t).code.length = s.code.length := jS
theorem mO {i : Nat} : (bV s i t).sites.length = s.sites.length := rfl
variable {l0 : List Ent} {S : Sl}
theorem finS_l : (bZ l0 s S).l = l0 := rfl
theorem finS_p : (bZ l0 s S).p = s.p := rfl
theorem gU : s.code.length ≤ (bZ l0 s S).code.length ∧ (bZ l0 s S).code.length ≤ s.code.length + 2 * S.wt := by
  have := dY S s.l s.loc s.code.length
  simp only [bZ, List.length_append]; omega
theorem gQ : s.sites.length ≤ (bZ l0 s S).sites.length ∧ (bZ l0 s S).sites.length ≤ s.sites.length + 2 * S.wt := by
  have := gN S s.st
  simp only [bZ, List.length_append]; omega
theorem pL : ∀ (S : Sl) (n : Int), n ≤ eQ S n ∧ eQ S n ≤ n + (S.wt : Int)
  | .nil, n => by simp [eQ, Sl.wt]
  | .cons k nm e r xs th el rest, n => by
    have r1 := pL rest (n + 1)
    have r2 := pL rest (eQ el (eQ th n))
    have r3 := pL rest (eQ th n)
    have r4 := pL rest n
    have t1 := pL th n
    have e1 := pL el (eQ th n)
    simp only [eQ, Sl.wt]
    split
    · omega
    · split
      · omega
      · split <;> omega
structure Bnd (s : Sco) (W : Nat) : Prop where
  lp : 0 < s.l.length
  lb : s.l.length + W ≤ 900
  cb : s.code.length + 2 * W ≤ 5000
  sb : s.sites.length + 2 * W ≤ 5000
  o0 : 0 ≤ s.loc
  ob : s.loc + (W : Int) ≤ 5000
  t0 : 0 ≤ s.st
  tb : s.st + (W : Int) ≤ 5000
structure Bd (E : Env) (c : Ctx) (p : Go.Un.Pg) : Prop where
  hE : E.c4 = p.c4
  hc : c.nm = p.c4.length
  hf : E.funcs = p.funcs.map fun f => (f.name, f.params)
  fp : ∀ f ∈ E.funcs, f.2.length ≤ 2
theorem Sco.eq {a b : Sco} (h1 : a.p = b.p) (h2 : a.l = b.l) (h3 : a.loc = b.loc) (h4 : a.st = b.st) (h5 : a.code = b.code) (h6 : a.sites = b.sites) : a = b := by
  cases a; cases b; simp_all
variable {rest : Sl}
theorem fin_var {n : BA} {e : Ex} : bZ l0 (oW (n8 (aX s) ⟨1, s.loc, false, eP s.l e, bG, [], []⟩ s.st) n) rest = bZ l0 s (.cons 1 n e l8 [] .nil .nil rest) := by
  refine Sco.eq rfl rfl ?_ ?_ ?_ ?_
  · simp only [bZ, oW, n8, aX, eQ, if_true]
  · simp only [bZ, oW, n8, aX, Sl.wt]; omega
  · simp only [bZ, oW, n8, aX, o1, if_true, List.append_assoc, List.cons_append, List.nil_append, List.length_append, List.length_cons, List.length_nil, Nat.zero_add]
  · simp only [bZ, oW, n8, aX, bR, show ¬ (1 : Int) = 7 from by decide, show ¬ (1 : Int) = 8 from by decide, if_false, List.append_assoc, List.cons_append, List.nil_append]
variable {r : Rf} {xs : List Ar}
theorem oY {i : Ins} {k : Int} {n : BA} {e : Ex} (h : o1 (.cons k n e r xs .nil .nil rest) s.l s.loc s.code.length = i :: o1 rest s.l s.loc (s.code.length + 1)) (hk : k ≠ 1 ∧ k ≠ 7 ∧ k ≠ 8) : bZ l0 (n8 (aX s) i s.st) rest = bZ l0 s (.cons k n e r xs .nil .nil rest) := by
  refine Sco.eq rfl rfl ?_ ?_ ?_ ?_
  · simp only [bZ, n8, aX, eQ, hk.1, hk.2.1, hk.2.2, if_false]
  · simp only [bZ, n8, aX, Sl.wt]; omega
  · simp only [bZ, h, n8, aX, List.append_assoc, List.cons_append, List.nil_append, List.length_append, List.length_cons, List.length_nil, Nat.zero_add]
  · simp only [bZ, n8, aX, bR, hk.2.1, hk.2.2, if_false, List.append_assoc, List.cons_append, List.nil_append]
theorem len_nil {s : Sl} : ¬ 0 < s.len ↔ s = .nil := ⟨fun h => Sl.vN (by omega), fun h => by subst h; simp [Go.Un.Sl.len]⟩
def cX (s : Sco) (e : Ex) (th : Sl) : Sco := bZ s.l (n8 (aX s) ⟨6, 0, false, eP s.l e, bG, [], []⟩ s.st) th
def stJ (s : Sco) (e : Ex) (th : Sl) : Sco := n8 (cX s e th) ⟨7, 0, false, l4, bG, [], []⟩ s.st
def cY (s : Sco) (e : Ex) (th el : Sl) : Sco := bZ s.l (bV (stJ s e th) s.code.length ((stJ s e th).code.length : Int)) el
def xG (s : Sco) (e : Ex) (th : Sl) : Sco := n8 (cX s e th) ⟨7, ((s.code.length : Nat) : Int), false, l4, bG, [], []⟩ s.st
variable {th : Sl}
theorem nX {e : Ex} : (cX s e th).code = s.code ++ ((⟨6, 0, false, eP s.l e, bG, [], []⟩ : Ins) :: o1 th s.l s.loc (s.code.length + 1)) := by
  simp only [cX, bZ, n8, aX, List.append_assoc, List.cons_append, List.nil_append, List.length_append, List.length_cons, List.length_nil, Nat.zero_add]
theorem nY {e : Ex} : (cX s e th).code.length = s.code.length + 1 + (o1 th s.l s.loc (s.code.length + 1)).length := by
  rw [nX]; simp; omega
theorem JB {e : Ex} {v : Int} : (bV (stJ s e th) s.code.length v).code = s.code ++ ((⟨6, v, false, eP s.l e, bG, [], []⟩ : Ins) :: (o1 th s.l s.loc (s.code.length + 1) ++ [⟨7, 0, false, l4, bG, [], []⟩])) := by
  simp only [bV, stJ, n8, nX, List.append_assoc, List.cons_append]
  exact wO rfl
variable {el : Sl}
theorem sS {e : Ex} : (cY s e th el).code = s.code ++ ((⟨6, ((stJ s e th).code.length : Int), false, eP s.l e, bG, [], []⟩ : Ins) :: (o1 th s.l s.loc (s.code.length + 1) ++ (⟨7, 0, false, l4, bG, [], []⟩ :: o1 el s.l (eQ th s.loc) ((cX s e th).code.length + 1)))) := by
  have h1 : (bV (stJ s e th) s.code.length ((stJ s e th).code.length : Int)).code.length = (cX s e th).code.length + 1 := by
    simp only [bV, jS, stJ, n8, List.length_append, List.length_cons, List.length_nil, Nat.zero_add]
  show (bV (stJ s e th) s.code.length ((stJ s e th).code.length : Int)).code ++ o1 el s.l (eQ th s.loc) _ = _
  rw [h1, JB]
  simp only [List.append_assoc, List.cons_append, List.nil_append]
theorem stJ_len {e : Ex} : (stJ s e th).code.length = (cX s e th).code.length + 1 := by simp [stJ, n8]
theorem S1 {e : Ex} : (cY s e th el).code.length = (cX s e th).code.length + 1 + (o1 el s.l (eQ th s.loc) ((cX s e th).code.length + 1)).length := by
  rw [sS, nY]; simp; omega
theorem fin_if {n : BA} {e : Ex} : bZ l0 (bV (cX s e th) s.code.length ((cX s e th).code.length : Int)) rest = bZ l0 s (.cons 7 n e r xs th .nil rest) := by
  have hne : ¬ (7 : Int) = 1 ∧ ¬ (7 : Int) = 2 ∧ ¬ ((7 : Int) = 3 ∨ (7 : Int) = 4) ∧ ¬ (7 : Int) = 5 ∧ ¬ (7 : Int) = 6 := by decide
  have h0 : ¬ 0 < Sl.nil.len := by simp [Go.Un.Sl.len]
  refine Sco.eq rfl rfl ?_ ?_ ?_ ?_
  · simp only [bZ, bV, cX, n8, aX, eQ, hne.1, if_false, if_true]
  · simp only [bZ, bV, cX, n8, aX, Sl.wt]; omega
  · show pV (cX s e th).code s.code.length _ ++ o1 rest s.l (eQ th s.loc) (pV (cX s e th).code s.code.length _).length = s.code ++ o1 _ s.l s.loc s.code.length
    rw [jS, nY, nX, wO rfl]
    simp only [o1, eQ, hne.1, hne.2.1, hne.2.2.1, hne.2.2.2.1, hne.2.2.2.2, h0, if_false, if_true, List.append_assoc, List.cons_append]
  · show s.sites ++ [s.st] ++ bR th (s.st + 1) ++ bR rest (s.st + 1 + (th.wt : Int)) = s.sites ++ bR _ s.st
    simp only [bR, Sl.wt, h0, if_true, if_false, List.append_assoc, List.cons_append, List.nil_append, Int.natCast_zero, Int.add_zero]
theorem JC {n : BA} {e : Ex} (hel : 0 < el.len) : bZ l0 (bV (cY s e th el) (cX s e th).code.length ((cY s e th el).code.length : Int)) rest = bZ l0 s (.cons 7 n e r xs th el rest) := by
  have hne : ¬ (7 : Int) = 1 ∧ ¬ (7 : Int) = 2 ∧ ¬ ((7 : Int) = 3 ∨ (7 : Int) = 4) ∧ ¬ (7 : Int) = 5 ∧ ¬ (7 : Int) = 6 := by decide
  refine Sco.eq rfl rfl ?_ ?_ ?_ ?_
  · simp only [bZ, bV, cY, stJ, cX, n8, aX, eQ, hne.1, if_false, if_true]
  · simp only [bZ, bV, cY, stJ, cX, n8, aX, Sl.wt]; omega
  · show pV (cY s e th el).code (cX s e th).code.length _ ++ o1 rest s.l (eQ el (eQ th s.loc)) (pV (cY s e th el).code (cX s e th).code.length _).length = s.code ++ o1 _ s.l s.loc s.code.length
    rw [jS, S1, sS]
    rw [show s.code ++ ((⟨6, ((stJ s e th).code.length : Int), false, eP s.l e, bG, [], []⟩ : Ins) :: (o1 th s.l s.loc (s.code.length + 1) ++ (⟨7, 0, false, l4, bG, [], []⟩ :: o1 el s.l (eQ th s.loc) ((cX s e th).code.length + 1)))) = (s.code ++ ((⟨6, ((stJ s e th).code.length : Int), false, eP s.l e, bG, [], []⟩ : Ins) :: o1 th s.l s.loc (s.code.length + 1))) ++ (⟨7, 0, false, l4, bG, [], []⟩ :: o1 el s.l (eQ th s.loc) ((cX s e th).code.length + 1)) from by simp only [List.append_assoc, List.cons_append]]
    rw [wO (by rw [nY]; simp; omega), stJ_len, nY]
    simp only [o1, hne.1, hne.2.1, hne.2.2.1, hne.2.2.2.1, hne.2.2.2.2, hel, if_false, if_true, List.append_assoc, List.cons_append]
  · show s.sites ++ [s.st] ++ bR th (s.st + 1) ++ [s.st] ++ bR el (s.st + 1 + (th.wt : Int)) ++ bR rest (s.st + 1 + (th.wt : Int) + (el.wt : Int)) = s.sites ++ bR _ s.st
    simp only [bR, hel, if_true, List.append_assoc, List.cons_append, List.nil_append]
theorem fin_wh {n : BA} {e : Ex} : bZ l0 (bV (xG s e th) s.code.length ((xG s e th).code.length : Int)) rest = bZ l0 s (.cons 8 n e r xs th .nil rest) := by
  have hne : ¬ (8 : Int) = 1 ∧ ¬ (8 : Int) = 2 ∧ ¬ ((8 : Int) = 3 ∨ (8 : Int) = 4) ∧ ¬ (8 : Int) = 5 ∧ ¬ (8 : Int) = 6 ∧ ¬ (8 : Int) = 7 := by decide
  rw [show (xG s e th).code.length = (cX s e th).code.length + 1 from by simp [xG, n8]]
  refine Sco.eq rfl rfl ?_ ?_ ?_ ?_
  · simp only [bZ, bV, xG, cX, n8, aX, eQ, hne.1, hne.2.2.2.2.2, if_false, if_true]
  · simp only [bZ, bV, xG, cX, n8, aX, Sl.wt]; omega
  · show pV ((cX s e th).code ++ [⟨7, ((s.code.length : Nat) : Int), false, l4, bG, [], []⟩]) s.code.length _ ++ o1 rest s.l (eQ th s.loc) (pV ((cX s e th).code ++ [⟨7, ((s.code.length : Nat) : Int), false, l4, bG, [], []⟩]) s.code.length _).length = s.code ++ o1 _ s.l s.loc s.code.length
    rw [jS, List.length_append, nY, nX, List.append_assoc, List.cons_append, wO rfl]
    simp only [o1, hne.1, hne.2.1, hne.2.2.1, hne.2.2.2.1, hne.2.2.2.2.1, hne.2.2.2.2.2, if_false, if_true, List.append_assoc, List.cons_append, List.nil_append, List.length_cons, List.length_nil, Nat.zero_add]
  · show s.sites ++ [s.st] ++ bR th (s.st + 1) ++ [s.st] ++ bR rest (s.st + 1 + (th.wt : Int)) = s.sites ++ bR _ s.st
    simp only [bR, hne.2.2.2.2.2, if_true, if_false, List.append_assoc, List.cons_append, List.nil_append]
theorem agg_nil {h : c7} {φ : Map} {w : World} {xs xs' : List AV} (hn : mK xs' xs) {v : Value} (r : Rel h φ w v (.agg xs)) : Rel h φ w v (.agg xs') := by
  cases r with
  | pure hp => cases hp
  | agg a _ ha h1 hr =>
    obtain ⟨k1, k2⟩ := hn.get
    refine .agg a xs' (by rw [ha, k1]) h1 fun j v y e1 e2 => ?_
    have hj : j < xs.length := by rw [← k1]; exact (List.getElem?_eq_some_iff.1 e2).1
    have hx : xs[j]? = some xs[j] := List.getElem?_eq_getElem hj
    rcases k2 j y _ e2 hx with rfl | ⟨e3, rfl⟩
    · exact hr j v _ e1 hx
    · exact vH (e3 ▸ hr j v _ e1 hx)
def ZS : List AV → List AV → Prop
  | [], [] => True
  | x :: xs, y :: ys => (x = y ∨ ∃ a b, x = .agg a ∧ y = .agg b ∧ mK a b) ∧ ZS xs ys
  | _, _ => False
theorem ZS.get : ∀ {xs ys : List AV}, ZS xs ys → xs.length = ys.length ∧ ∀ (t : Nat) (x y : AV), xs[t]? = some x → ys[t]? = some y → x = y ∨ ∃ a b, x = .agg a ∧ y = .agg b ∧ mK a b
  | [], [], _ => ⟨rfl, fun t x y h => by simp at h⟩
  | x :: xs, y :: ys, h => by
    obtain ⟨h1, h2⟩ := h
    obtain ⟨k1, k2⟩ := ZS.get h2
    refine ⟨by simp [k1], fun t u v hu hv => ?_⟩
    match t with
    | 0 => simp at hu hv; subst hu; subst hv; exact h1
    | t + 1 => exact k2 t u v t123 t124
  | [], _ :: _, h => h.elim
  | _ :: _, [], h => h.elim
theorem aggArg {f : FuncId} {h : c7} {args args' : List AV} {Q : AV → c7 → Prop} (ha : ZS args' args) (r : CallA Tryz.prog cfg f args' h Q) : CallA Tryz.prog cfg f args h Q := by
  intro B φ w cargs i hs hr
  obtain ⟨k1, k2⟩ := ha.get
  refine r B φ w cargs i t174 fun j v y h1 h2 => ?_
  have hj : j < args.length := by rw [← k1]; exact (List.getElem?_eq_some_iff.1 h2).1
  have hx : args[j]? = some args[j] := List.getElem?_eq_getElem hj
  rcases k2 j y _ h2 hx with rfl | ⟨a, b, rfl, e2, hn⟩
  · exact hr j v _ h1 hx
  · exact agg_nil hn (e2 ▸ hr j v _ h1 hx)
theorem lB {e : Frm} (hc : s.code.length < 10000) (hs : s.sites.length < 10000) (i : Ins) (t : Int) {zs : List AV} (hz : mK (dQ i) zs) : CH 67 [.ptr e.k 0 0, .agg zs, .int .i64 t] (hT e (w6 e.k s) s.code s.sites) (.int .i64 ((s.code.length : Nat) : Int)) (hT e (w6 e.k (n8 s i t)) (n8 s i t).code (n8 s i t).sites) :=
  aggArg (args' := [.ptr e.k 0 0, .agg (dQ i), .int .i64 t]) ⟨.inl rfl, .inr ⟨_, _, rfl, rfl, hz⟩, .inl rfl, trivial⟩ (c_put hc hs i t)
theorem BW : ∀ {c : List Ins} {i : Nat} {v : Int}, i < c.length → List.take (i * 12 + 1) (o7 c) ++ AV.int .i64 v :: List.drop (i * 12 + 1 + 1) (o7 c) = o7 (pV c i v)
  | x :: c, 0, v, _ => by
    have e1 : o7 (x :: c) = dQ x ++ o7 c := by simp [o7]
    have e2 : pV (x :: c) 0 v = { x with target := v } :: c := by simp [pV]
    have e3 : o7 ({ x with target := v } :: c) = dQ { x with target := v } ++ o7 c := by simp [o7]
    rw [e1, e2, e3]
    rfl
  | x :: c, i + 1, v, h => by
    have ih := BW (c := c) (i := i) (v := v) (by simpa using h)
    have e1 : o7 (x :: c) = dQ x ++ o7 c := by simp [o7]
    have e2 : pV (x :: c) (i + 1) v = x :: pV c i v := by simp [pV]
    have e3 : o7 (x :: pV c i v) = dQ x ++ o7 (pV c i v) := by simp [o7]
    have hl : (dQ x).length = 12 := aG x
    rw [e1, e2, e3, ← ih, show (i + 1) * 12 + 1 = (dQ x).length + (i * 12 + 1) from by omega, List.take_length_add_append, show (dQ x).length + (i * 12 + 1) + 1 = (dQ x).length + (i * 12 + 1 + 1) from by omega, List.drop_length_add_append, List.append_assoc]
theorem zI {c : List Ins} (h : 0 < c.length) : o7 c ≠ [] := by
  intro h0
  have := congrArg List.length h0
  rw [aE] at this
  simp at this
  omega
section
variable {e : Frm} {b : Blk} {c : List Ins} {ss : List Int} {l : c7} {v : Int} {i n : Nat}
theorem hT_1na (h : 0 < c.length) : (hT e b c ss ++ l)[e.k + 1]? = some ⟨c.length, false, 62, 12, o7 c, 0⟩ := by rw [IV, eN (zI h)]
theorem hT_pn (h : c.length = n) (h0 : 0 < n) : (hT e b c ss ++ l).set (e.k + 1) ⟨n, false, 62, 12, o7 (pV c i v), 0⟩ = hT e b (pV c i v) ss ++ l := by
  subst h
  have hl : (pV c i v).length = c.length := jS
  have : p6 62 12 (pV c i v).length (o7 (pV c i v)) = ⟨c.length, false, 62, 12, o7 (pV c i v), 0⟩ := by rw [eN (zI (by omega)), hl]
  rw [← this, MX]
theorem app_cpE {b0 b1 b2 : Blk} {es : List Ent} {n : Nat} (hz : es.length = n) (h0 : 0 < n) (hn : n < 1000) : j6 cfg 115 (hT e b c ss ++ (b0 :: b1 :: b2 :: ⟨1, false, 115, 3, [], 0⟩ :: l)) (.own (e.n + 3) 1 0 0) (.vec n (j5 es)) = some (.own (e.n + 3) 2 0 n, hT e b c ss ++ (b0 :: b1 :: b2 :: ⟨2, false, 115, 3, j5 es, 0⟩ :: l)) := by
  subst hz
  have e1 : cfg.sz 115 = 3 := rfl
  have e2 : (cfg.ti 115).bytes = 32 := rfl
  have hm : es.length ≤ maxLen := by
    have : (1000 : Nat) ≤ maxLen := by decide
    omega
  have hb : es.length * 32 ≤ 140737488355328 := by omega
  have h1 : (j5 es).length = es.length * 3 := by rw [r6]; omega
  have h2 : ¬ es.length = 0 := by omega
  have h3 : ¬ es.length * 3 = 0 := by omega
  simp [j6, rd, lenOf, e1, e2, h1, hm, hb, dH, fZ, h0, h2, h3]
theorem app_onE {b0 b1 b2 : Blk} {es : List Ent} {x : BA} {k m : Int} {n : Nat} (hz : es.length = n) (hn : n < 1000) : j6 cfg 115 (hT e b c ss ++ (b0 :: b1 :: b2 :: ⟨2, false, 115, 3, j5 es, 0⟩ :: ⟨1, false, 115, 3, [.str x, .int .i64 k, .int .i64 m], 0⟩ :: l)) (.own (e.n + 3) 2 0 n) (.own (e.n + 4) 1 0 1) = some (.own (e.n + 3) 3 0 (n + 1), hT e b c ss ++ (b0 :: b1 :: b2 :: ⟨3, false, 115, 3, j5 (es ++ [⟨x, k, m⟩]), 0⟩ :: ⟨1, false, 115, 3, [.str x, .int .i64 k, .int .i64 m], 0⟩ :: l)) := by
  subst hz
  have e1 : cfg.sz 115 = 3 := rfl
  have e2 : (cfg.ti 115).bytes = 32 := rfl
  have hm : es.length + 1 ≤ maxLen := by
    have : (1001 : Nat) ≤ maxLen := by decide
    omega
  have hb : (es.length + 1) * 32 ≤ 140737488355328 := by omega
  have h1 : (j5 es).length = es.length * 3 := by rw [r6]; omega
  have ht : List.take (es.length * 3) (j5 es) = j5 es := List.take_of_length_le (by omega)
  have hnl : ¬ (es.length + 1) * 3 ≤ es.length * 3 := by omega
  have hs : j5 (es ++ [⟨x, k, m⟩]) = j5 es ++ [.str x, .int .i64 k, .int .i64 m] := by simp [j5, gS]
  simp [j6, rd, lenOf, e1, e2, h1, hm, hb, ht, hnl, dH, fZ, hs]
end
theorem oZ (l : List Ent) : z4 (j5 l) := z4.flat fun _ => z4.cons .str (z4.cons .int (z4.cons .int .nil))
theorem stIf_l {e : Ex} : (cX s e th).l = s.l := rfl
attribute [local go_sem] rd r6 n6 aS bY aE aG eO cQ r9 aN aD n5 aU Int.natCast_nonneg Int.natCast_inj List.length_map wrap64 eT iE iF J6 yT B6 J7 pU max2 dZ cC aV Nat.reduceMul lN iU gS nW jQ sO z8 hT_0 hT_2 IU IW dH wL fZ C7 IX K8 hT_1na hT_pn BW app_cpE app_onE wP sP sQ wQ wR oX wG BV L4 stSt_p fP dU D2 sR L5 stPut_p bK bB stTgt_l iV mO finS_l finS_p stIf_l
variable {E : Env} {vs : List BA} {pre : Sl} {W : Nat}
theorem c_blk1 {e : Frm} {c : Ctx} (sc : SC E c vs s.l) (bd : Bd E c s.p) (B : Bnd s W) (hW : 1 ≤ W) (j : Nat) (hj : j < 24) (hn : vnm j ∉ vs) (a : Ex) (he : GE vs 2 a) : g6 Tryz.prog cfg (oQ [1, 0, 1, 0, 0, 1, 0] (iI Tryz.f66)) ⟨mkS 253 [(0, AV.ptr e.k 0 0), (1, AV.vec (Go.Un.Sl.len (pre.app (.cons 1 (vnm j) a l8 [] .nil .nil rest))) (o3 (pre.app (.cons 1 (vnm j) a l8 [] .nil .nil rest)))), (4, AV.vec l0.length (j5 l0)), (5, AV.int .i64 ((pre.len : Nat) : Int))], (hT e (w6 e.k s) s.code s.sites)⟩ (Led 253 [(0, AV.ptr e.k 0 0), (1, AV.vec (Go.Un.Sl.len (pre.app (.cons 1 (vnm j) a l8 [] .nil .nil rest))) (o3 (pre.app (.cons 1 (vnm j) a l8 [] .nil .nil rest)))), (4, AV.vec l0.length (j5 l0)), (5, AV.int .i64 ((pre.len : Nat) : Int))] ((hT e (w6 e.k (oW (n8 (aX s) ⟨1, s.loc, false, eP s.l a, bG, [], []⟩ s.st) (vnm j))) ((oW (n8 (aX s) ⟨1, s.loc, false, eP s.l a, bG, [], []⟩ s.st) (vnm j))).code ((oW (n8 (aX s) ⟨1, s.loc, false, eP s.l a, bG, [], []⟩ s.st) (vnm j))).sites))) := by
  obtain ⟨q1, q2, q3, q4, q5, q6, q7, q8⟩ := B
  have hlc := @u7 pre 1 (vnm j) a l8 [] .nil .nil rest
  refine c153z ?_
  refine g6.w8 (hT e (w6 e.k (aX s)) s.code s.sites ++ [⟨0, false, 149, 11, [.int .i64 1, .str (vnm j), .int .i64 a.op, .int .i64 a.num, .str a.name, .vec a.args.length (l7 a.args), .str l8.name, .vec l8.idx.length (l7 l8.idx), .vec (([] : List Ar)).length (aT ([] : List Ar)), .vec (Go.Un.Sl.len Go.Un.Sl.nil) (o3 Go.Un.Sl.nil), .vec (Go.Un.Sl.len Go.Un.Sl.nil) (o3 Go.Un.Sl.nil)], 0⟩]) rfl ?_
  refine c25z ?_
  refine .c8 [0, 1, 4, 5, 6, 7, 41] ?_
  refine c105z ?_
  refine .seq ?_
  refine c22z ?_
  refine c111z ?_
  refine .cl rfl rfl (fun _ => BQ (sc.fr j hj hn) (by omega)) ?_
  refine c246z ?_
  refine .c8 [0, 1, 4, 5, 6, 7, 9] ?_
  refine c9z ?_
  refine .sk ?_
  refine c24z ?_
  refine .ch rfl rfl (eV (IZ (s := aX s) t109 s.st sc.var he _)) ?_
  refine .n ?_
  refine .sg u0 (mkH 9 [0, 0, 2, 6, 14, 0, 62, 0, 255] [8] [] [0, 256] []) 0 ?_
  refine u4.w8 t22 ?_
  refine c166z ?_
  refine .rn [true] ?_
  refine .p 2 ?_
  refine .cn [true] [256, 0] [_] rfl rfl (by simp only [iR, and_true, List.cons_append, List.nil_append]; exact eV (lB t42 t39 ⟨1, s.loc, false, eP s.l a, bG, [], []⟩ s.st t21)) ?_
  refine u4.nil rfl ?_
  refine .c8 [0, 1, 4, 5, 6] ?_
  refine .sg u0 (mkH 19 [0, 0, 0, 4, 12, 28, 62, 0, 128, 0, 512, 1536, 3584, 8064, 16256, 32766, 65535, 131071, 262143] [1, 6, 14, 15, 18] [(1, 0), (14, 1)] [0, 2, 66, 16384, 16386, 16450, 49218, 311362] [0, 1, 2, 3, 4, 5, 6]) 2 ?_
  refine .p 1 ?_
  refine .em [true] [2, 0] [_] ?_
  refine .p 3 ?_
  refine .rm [true, true] ?_
  refine .em [true, false] [66, 2, 0] [_] ?_
  refine c95z ?_
  refine .p 3 ?_
  refine .rn [true, true, true] ?_
  refine .p 1 ?_
  refine .en [true, true, true] [16450, 16386, 16384, 66, 2, 0] [_, _, _] ?_
  refine .en [true, false, false, false, false, false] [49218, 16450, 16386, 16384, 66, 2, 0] [_] ?_
  refine .p 2 ?_
  refine .en [true, false, false, false, false, false, false] [311362, 49218, 16450, 16386, 16384, 66, 2, 0] [_] ?_
  refine .po [false, false, false, true, false, false, true, false] ?_
  refine .po [false, false, false, true, true, false, true, true] ?_
  refine .po [false, false, false, false, true, false, false, true] ?_
  refine u4.nil rfl ?_
  refine .c8 [0, 1, 4, 5] ?_
  refine g6.A5 (γ := e.n + 3) (β := e.k) (k := 3) (off := 0) (len := s.l.length + 1) (cs := j5 (s.l ++ [⟨vnm j, 4, s.loc⟩])) t86 rfl t154 (by rw [List.drop_zero, List.take_of_length_le t154]; exact (oZ _).LY) (by simp only [IU]; rfl) (by have := e.lt; omega) rfl ?_
  simp only [fZ, K8, List.set_cons_succ, List.set_cons_zero]
  refine .rz ?_
  exact .mk _ (by rw [JA]; rfl)
theorem c_blk2 {e : Frm} {c : Ctx} (sc : SC E c vs s.l) (bd : Bd E c s.p) (B : Bnd s W) (hW : 1 ≤ W) (n : BA) (hn : n ∈ vs) (a : Ex) (he : GE vs 2 a) : g6 Tryz.prog cfg (oQ [1, 0, 1, 0, 0, 1, 0] (iI Tryz.f66)) ⟨mkS 253 [(0, AV.ptr e.k 0 0), (1, AV.vec (Go.Un.Sl.len (pre.app (.cons 2 n a l8 [] .nil .nil rest))) (o3 (pre.app (.cons 2 n a l8 [] .nil .nil rest)))), (4, AV.vec l0.length (j5 l0)), (5, AV.int .i64 ((pre.len : Nat) : Int))], (hT e (w6 e.k s) s.code s.sites)⟩ (Led 253 [(0, AV.ptr e.k 0 0), (1, AV.vec (Go.Un.Sl.len (pre.app (.cons 2 n a l8 [] .nil .nil rest))) (o3 (pre.app (.cons 2 n a l8 [] .nil .nil rest)))), (4, AV.vec l0.length (j5 l0)), (5, AV.int .i64 ((pre.len : Nat) : Int))] ((hT e (w6 e.k (n8 (aX s) ⟨1, (dW s.l n).n, (dW s.l n).kind == 1, eP s.l a, bG, [], []⟩ s.st)) ((n8 (aX s) ⟨1, (dW s.l n).n, (dW s.l n).kind == 1, eP s.l a, bG, [], []⟩ s.st)).code ((n8 (aX s) ⟨1, (dW s.l n).n, (dW s.l n).kind == 1, eP s.l a, bG, [], []⟩ s.st)).sites))) := by
  obtain ⟨q1, q2, q3, q4, q5, q6, q7, q8⟩ := B
  have hlc := @u7 pre 2 n a l8 [] .nil .nil rest
  obtain ⟨v, hv1, hv2⟩ := sc.var n hn
  refine c153z ?_
  refine g6.w8 (hT e (w6 e.k (aX s)) s.code s.sites ++ [⟨0, false, 149, 11, [.int .i64 2, .str n, .int .i64 a.op, .int .i64 a.num, .str a.name, .vec a.args.length (l7 a.args), .str l8.name, .vec l8.idx.length (l7 l8.idx), .vec (([] : List Ar)).length (aT ([] : List Ar)), .vec (Go.Un.Sl.len Go.Un.Sl.nil) (o3 Go.Un.Sl.nil), .vec (Go.Un.Sl.len Go.Un.Sl.nil) (o3 Go.Un.Sl.nil)], 0⟩]) rfl ?_
  refine c167z ?_
  refine c105z ?_
  refine c24z ?_
  refine .ch rfl rfl (eV (c_var (s := aX s) t109 s.st hv1 hv2)) ?_
  refine .n ?_
  refine .c8 [0, 1, 4, 5, 6, 7, 11] ?_
  refine .og u0 (mkH 14 [0, 0, 2, 0, 8, 24, 0, 0, 128, 0, 960, 2046, 0, 8191] [10, 13] [] [0, 1024, 9216] [0, 1, 2, 3, 4, 5]) 0 ?_
  refine u4.w8 t22 ?_
  refine .p 2 ?_
  refine c111z ?_
  refine c96z ?_
  refine .p 1 ?_
  refine .cn [true] [1024, 0] [_] rfl rfl (by simp only [iR, and_true, List.cons_append, List.nil_append]; exact eV (IZ (s := aX s) t109 s.st sc.var he _)) ?_
  refine .p 2 ?_
  refine .cn [true, false] [9216, 1024, 0] [_] rfl rfl (by simp only [iR, and_true, List.cons_append, List.nil_append]; exact eV (lB t42 t39 ⟨1, v.n, v.kind == 1, eP s.l a, bG, [], []⟩ s.st t21)) ?_
  refine c149z ?_
  exact .mk _ (by rw [dL hv1])
theorem c_blk3 {e : Frm} {c : Ctx} (sc : SC E c vs s.l) (bd : Bd E c s.p) (B : Bnd s W) (hW : 1 ≤ W) (f : BA × List Pm) (hf : f ∈ E.funcs) (xs : List Ar) (ha : GAs E vs f.2 xs) : g6 Tryz.prog cfg (oQ [1, 0, 1, 0, 0, 1, 0] (iI Tryz.f66)) ⟨mkS 253 [(0, AV.ptr e.k 0 0), (1, AV.vec (Go.Un.Sl.len (pre.app (.cons 3 f.1 l4 l8 xs .nil .nil rest))) (o3 (pre.app (.cons 3 f.1 l4 l8 xs .nil .nil rest)))), (4, AV.vec l0.length (j5 l0)), (5, AV.int .i64 ((pre.len : Nat) : Int))], (hT e (w6 e.k s) s.code s.sites)⟩ (Led 253 [(0, AV.ptr e.k 0 0), (1, AV.vec (Go.Un.Sl.len (pre.app (.cons 3 f.1 l4 l8 xs .nil .nil rest))) (o3 (pre.app (.cons 3 f.1 l4 l8 xs .nil .nil rest)))), (4, AV.vec l0.length (j5 l0)), (5, AV.int .i64 ((pre.len : Nat) : Int))] ((hT e (w6 e.k (n8 (aX s) ⟨2, (dW s.l f.1).n, false, l4, bG, aH s.l xs, w4 s.l xs⟩ s.st)) ((n8 (aX s) ⟨2, (dW s.l f.1).n, false, l4, bG, aH s.l xs, w4 s.l xs⟩ s.st)).code ((n8 (aX s) ⟨2, (dW s.l f.1).n, false, l4, bG, aH s.l xs, w4 s.l xs⟩ s.st)).sites))) := by
  obtain ⟨q1, q2, q3, q4, q5, q6, q7, q8⟩ := B
  have hlc := @u7 pre 3 f.1 l4 l8 xs .nil .nil rest
  obtain ⟨⟨fy, fk, fn⟩, hf1, hfk, hf5, hf6, hf7⟩ := sc.fn f hf
  simp only at hfk hf5 hf6 hf7
  subst hfk
  have hf2 : 0 ≤ fn ∧ fn < s.p.funcs.length := by rw [bd.hf, List.length_map] at hf6; exact ⟨hf5, hf6⟩
  have hf3 : (s.p.funcs.getD fn.toNat j4).params = f.2 := by rw [bd.hf, getD_map (d' := j4) (by omega)] at hf7; rw [← hf7]
  have hf4 := bd.fp f hf
  refine c153z ?_
  refine g6.w8 (hT e (w6 e.k (aX s)) s.code s.sites ++ [⟨0, false, 149, 11, [.int .i64 3, .str f.1, .int .i64 l4.op, .int .i64 l4.num, .str l4.name, .vec l4.args.length (l7 l4.args), .str l8.name, .vec l8.idx.length (l7 l8.idx), .vec (xs).length (aT xs), .vec (Go.Un.Sl.len Go.Un.Sl.nil) (o3 Go.Un.Sl.nil), .vec (Go.Un.Sl.len Go.Un.Sl.nil) (o3 Go.Un.Sl.nil)], 0⟩]) rfl ?_
  refine c189z ?_
  refine .T ?_
  refine .sk ?_
  refine .T ?_
  refine c164z ?_
  refine .ch rfl rfl (eV (c_call3 (s := aX s) t109 s.st sc bd.hE bd.hc hf1 hf2 hf3 hf4 ha)) ?_
  refine .e 1 ?_
  refine .ch rfl rfl (eV (lB t42 t39 ⟨2, fn, false, l4, bG, aH s.l xs, w4 s.l xs⟩ s.st t21)) ?_
  refine .nil ?_
  exact .mk _ (by rw [dL hf1])
theorem c_blk4 {e : Frm} {c : Ctx} (sc : SC E c vs s.l) (bd : Bd E c s.p) (B : Bnd s W) (hW : 1 ≤ W) (f : BA × List Pm) (hf : f ∈ E.funcs) (xs : List Ar) (ha : GAs E vs f.2 xs) : g6 Tryz.prog cfg (oQ [1, 0, 1, 0, 0, 1, 0] (iI Tryz.f66)) ⟨mkS 253 [(0, AV.ptr e.k 0 0), (1, AV.vec (Go.Un.Sl.len (pre.app (.cons 4 f.1 l4 l8 xs .nil .nil rest))) (o3 (pre.app (.cons 4 f.1 l4 l8 xs .nil .nil rest)))), (4, AV.vec l0.length (j5 l0)), (5, AV.int .i64 ((pre.len : Nat) : Int))], (hT e (w6 e.k s) s.code s.sites)⟩ (Led 253 [(0, AV.ptr e.k 0 0), (1, AV.vec (Go.Un.Sl.len (pre.app (.cons 4 f.1 l4 l8 xs .nil .nil rest))) (o3 (pre.app (.cons 4 f.1 l4 l8 xs .nil .nil rest)))), (4, AV.vec l0.length (j5 l0)), (5, AV.int .i64 ((pre.len : Nat) : Int))] ((hT e (w6 e.k (n8 (aX s) ⟨3, (dW s.l f.1).n, false, l4, bG, aH s.l xs, w4 s.l xs⟩ s.st)) ((n8 (aX s) ⟨3, (dW s.l f.1).n, false, l4, bG, aH s.l xs, w4 s.l xs⟩ s.st)).code ((n8 (aX s) ⟨3, (dW s.l f.1).n, false, l4, bG, aH s.l xs, w4 s.l xs⟩ s.st)).sites))) := by
  obtain ⟨q1, q2, q3, q4, q5, q6, q7, q8⟩ := B
  have hlc := @u7 pre 4 f.1 l4 l8 xs .nil .nil rest
  obtain ⟨⟨fy, fk, fn⟩, hf1, hfk, hf5, hf6, hf7⟩ := sc.fn f hf
  simp only at hfk hf5 hf6 hf7
  subst hfk
  have hf2 : 0 ≤ fn ∧ fn < s.p.funcs.length := by rw [bd.hf, List.length_map] at hf6; exact ⟨hf5, hf6⟩
  have hf3 : (s.p.funcs.getD fn.toNat j4).params = f.2 := by rw [bd.hf, getD_map (d' := j4) (by omega)] at hf7; rw [← hf7]
  have hf4 := bd.fp f hf
  refine c153z ?_
  refine g6.w8 (hT e (w6 e.k (aX s)) s.code s.sites ++ [⟨0, false, 149, 11, [.int .i64 4, .str f.1, .int .i64 l4.op, .int .i64 l4.num, .str l4.name, .vec l4.args.length (l7 l4.args), .str l8.name, .vec l8.idx.length (l7 l8.idx), .vec (xs).length (aT xs), .vec (Go.Un.Sl.len Go.Un.Sl.nil) (o3 Go.Un.Sl.nil), .vec (Go.Un.Sl.len Go.Un.Sl.nil) (o3 Go.Un.Sl.nil)], 0⟩]) rfl ?_
  refine c222z ?_
  refine .T ?_
  refine .c8 [0, 1, 4, 5, 6, 7] ?_
  refine c164z ?_
  refine .ch rfl rfl (eV (c_call4 (s := aX s) t109 s.st sc bd.hE bd.hc hf1 hf2 hf3 hf4 ha)) ?_
  refine .e 1 ?_
  refine .ch rfl rfl (eV (lB t42 t39 ⟨3, fn, false, l4, bG, aH s.l xs, w4 s.l xs⟩ s.st t21)) ?_
  refine .nil ?_
  exact .mk _ (by rw [dL hf1])
theorem c_blk5 {e : Frm} {c : Ctx} (sc : SC E c vs s.l) (bd : Bd E c s.p) (B : Bnd s W) (hW : 1 ≤ W) (r : Rf) (hR : GR E vs r) : g6 Tryz.prog cfg (oQ [1, 0, 1, 0, 0, 1, 0] (iI Tryz.f66)) ⟨mkS 253 [(0, AV.ptr e.k 0 0), (1, AV.vec (Go.Un.Sl.len (pre.app (.cons 5 ByteArray.empty l4 r [] .nil .nil rest))) (o3 (pre.app (.cons 5 ByteArray.empty l4 r [] .nil .nil rest)))), (4, AV.vec l0.length (j5 l0)), (5, AV.int .i64 ((pre.len : Nat) : Int))], (hT e (w6 e.k s) s.code s.sites)⟩ (Led 253 [(0, AV.ptr e.k 0 0), (1, AV.vec (Go.Un.Sl.len (pre.app (.cons 5 ByteArray.empty l4 r [] .nil .nil rest))) (o3 (pre.app (.cons 5 ByteArray.empty l4 r [] .nil .nil rest)))), (4, AV.vec l0.length (j5 l0)), (5, AV.int .i64 ((pre.len : Nat) : Int))] ((hT e (w6 e.k (n8 (aX s) ⟨4, 0, false, l4, oS s.l r, [], []⟩ s.st)) ((n8 (aX s) ⟨4, 0, false, l4, oS s.l r, [], []⟩ s.st)).code ((n8 (aX s) ⟨4, 0, false, l4, oS s.l r, [], []⟩ s.st)).sites))) := by
  obtain ⟨q1, q2, q3, q4, q5, q6, q7, q8⟩ := B
  have hlc := @u7 pre 5 ByteArray.empty l4 r [] .nil .nil rest
  refine c153z ?_
  refine g6.w8 (hT e (w6 e.k (aX s)) s.code s.sites ++ [⟨0, false, 149, 11, [.int .i64 5, .str ByteArray.empty, .int .i64 l4.op, .int .i64 l4.num, .str l4.name, .vec l4.args.length (l7 l4.args), .str r.name, .vec r.idx.length (l7 r.idx), .vec (([] : List Ar)).length (aT ([] : List Ar)), .vec (Go.Un.Sl.len Go.Un.Sl.nil) (o3 Go.Un.Sl.nil), .vec (Go.Un.Sl.len Go.Un.Sl.nil) (o3 Go.Un.Sl.nil)], 0⟩]) rfl ?_
  refine c257z ?_
  refine c105z ?_
  refine .c8 [0, 1, 4, 5, 6, 7] ?_
  refine .r ?_
  refine .e 5 ?_
  refine .ch rfl rfl (eV (BU (s := aX s) t109 s.st sc bd.hE bd.hc hR)) ?_
  refine .e 2 ?_
  refine .ch rfl rfl (eV (lB t42 t39 ⟨4, 0, false, l4, oS s.l r, [], []⟩ s.st t21)) ?_
  refine .nil ?_
  exact .mk _ rfl
theorem c_blk6 {e : Frm} {c : Ctx} (sc : SC E c vs s.l) (bd : Bd E c s.p) (B : Bnd s W) (hW : 1 ≤ W) (r : Rf) (hR : GR E vs r) : g6 Tryz.prog cfg (oQ [1, 0, 1, 0, 0, 1, 0] (iI Tryz.f66)) ⟨mkS 253 [(0, AV.ptr e.k 0 0), (1, AV.vec (Go.Un.Sl.len (pre.app (.cons 6 ByteArray.empty l4 r [] .nil .nil rest))) (o3 (pre.app (.cons 6 ByteArray.empty l4 r [] .nil .nil rest)))), (4, AV.vec l0.length (j5 l0)), (5, AV.int .i64 ((pre.len : Nat) : Int))], (hT e (w6 e.k s) s.code s.sites)⟩ (Led 253 [(0, AV.ptr e.k 0 0), (1, AV.vec (Go.Un.Sl.len (pre.app (.cons 6 ByteArray.empty l4 r [] .nil .nil rest))) (o3 (pre.app (.cons 6 ByteArray.empty l4 r [] .nil .nil rest)))), (4, AV.vec l0.length (j5 l0)), (5, AV.int .i64 ((pre.len : Nat) : Int))] ((hT e (w6 e.k (n8 (aX s) ⟨5, 0, false, l4, oS s.l r, [], []⟩ s.st)) ((n8 (aX s) ⟨5, 0, false, l4, oS s.l r, [], []⟩ s.st)).code ((n8 (aX s) ⟨5, 0, false, l4, oS s.l r, [], []⟩ s.st)).sites))) := by
  obtain ⟨q1, q2, q3, q4, q5, q6, q7, q8⟩ := B
  have hlc := @u7 pre 6 ByteArray.empty l4 r [] .nil .nil rest
  refine c153z ?_
  refine g6.w8 (hT e (w6 e.k (aX s)) s.code s.sites ++ [⟨0, false, 149, 11, [.int .i64 6, .str ByteArray.empty, .int .i64 l4.op, .int .i64 l4.num, .str l4.name, .vec l4.args.length (l7 l4.args), .str r.name, .vec r.idx.length (l7 r.idx), .vec (([] : List Ar)).length (aT ([] : List Ar)), .vec (Go.Un.Sl.len Go.Un.Sl.nil) (o3 Go.Un.Sl.nil), .vec (Go.Un.Sl.len Go.Un.Sl.nil) (o3 Go.Un.Sl.nil)], 0⟩]) rfl ?_
  refine c257z ?_
  refine c9z ?_
  refine .c8 [0, 1, 4, 5, 6, 7, 41] ?_
  refine c105z ?_
  refine .r ?_
  refine .e 5 ?_
  refine .ch rfl rfl (eV (BU (s := aX s) t109 s.st sc bd.hE bd.hc hR)) ?_
  refine .e 2 ?_
  refine .ch rfl rfl (eV (lB t42 t39 ⟨5, 0, false, l4, oS s.l r, [], []⟩ s.st t21)) ?_
  refine .nil ?_
  exact .mk _ rfl
theorem c_blk7 {e : Frm} {c : Ctx} (sc : SC E c vs s.l) (bd : Bd E c s.p) (B : Bnd s W) (a : Ex) (he : GE vs 2 a) (th : Sl) (hW : 1 + th.wt ≤ W) (ith : (∀ s' : Sco, SC E c vs s'.l → s'.p = s.p → Bnd s' th.wt → ∀ e : Frm, CH 66 [.ptr e.k 0 0, .vec th.len (o3 th)] (hT e (w6 e.k s') (s').code (s').sites) (.tup []) (hT e (w6 e.k (bZ s'.l s' th)) ((bZ s'.l s' th)).code ((bZ s'.l s' th)).sites))) : g6 Tryz.prog cfg (oQ [1, 0, 1, 0, 0, 1, 0] (iI Tryz.f66)) ⟨mkS 253 [(0, AV.ptr e.k 0 0), (1, AV.vec (Go.Un.Sl.len (pre.app (.cons 7 ByteArray.empty a l8 [] th .nil rest))) (o3 (pre.app (.cons 7 ByteArray.empty a l8 [] th .nil rest)))), (4, AV.vec l0.length (j5 l0)), (5, AV.int .i64 ((pre.len : Nat) : Int))], (hT e (w6 e.k s) s.code s.sites)⟩ (Led 253 [(0, AV.ptr e.k 0 0), (1, AV.vec (Go.Un.Sl.len (pre.app (.cons 7 ByteArray.empty a l8 [] th .nil rest))) (o3 (pre.app (.cons 7 ByteArray.empty a l8 [] th .nil rest)))), (4, AV.vec l0.length (j5 l0)), (5, AV.int .i64 ((pre.len : Nat) : Int))] ((hT e (w6 e.k (bV (cX s a th) s.code.length ((cX s a th).code.length : Int))) ((bV (cX s a th) s.code.length ((cX s a th).code.length : Int))).code ((bV (cX s a th) s.code.length ((cX s a th).code.length : Int))).sites))) := by
  obtain ⟨q1, q2, q3, q4, q5, q6, q7, q8⟩ := B
  have hlc := @u7 pre 7 ByteArray.empty a l8 [] th .nil rest
  refine c153z ?_
  refine g6.w8 (hT e (w6 e.k (aX s)) s.code s.sites ++ [⟨0, false, 149, 11, [.int .i64 7, .str ByteArray.empty, .int .i64 a.op, .int .i64 a.num, .str a.name, .vec a.args.length (l7 a.args), .str l8.name, .vec l8.idx.length (l7 l8.idx), .vec (([] : List Ar)).length (aT ([] : List Ar)), .vec (Go.Un.Sl.len th) (o3 th), .vec (Go.Un.Sl.len Go.Un.Sl.nil) (o3 Go.Un.Sl.nil)], 0⟩]) rfl ?_
  refine c257z ?_
  refine c9z ?_
  refine c36z ?_
  refine c105z ?_
  refine c27z ?_
  refine c150z ?_
  refine .n ?_
  refine .c8 [0, 1, 4, 5, 6, 7, 12] ?_
  have b1 : Bnd (n8 (aX s) ⟨6, 0, false, eP s.l a, bG, [], []⟩ s.st) th.wt := ⟨q1, t157, t147, t141, q5, t149, t142, t126⟩
  refine c98z ?_
  refine .nil ?_
  have fc := gU (l0 := s.l) (s := n8 (aX s) ⟨6, 0, false, eP s.l a, bG, [], []⟩ s.st) (S := th)
  have fs := gQ (l0 := s.l) (s := n8 (aX s) ⟨6, 0, false, eP s.l a, bG, [], []⟩ s.st) (S := th)
  rw [bK, fP] at fc
  rw [bB, dU] at fs
  change _ ≤ (cX s a th).code.length ∧ (cX s a th).code.length ≤ _ at fc
  change _ ≤ (cX s a th).sites.length ∧ (cX s a th).sites.length ≤ _ at fs
  change g6 _ _ _ ⟨mkS _ _, hT e (w6 e.k (cX s a th)) (cX s a th).code (cX s a th).sites ++ _⟩ _
  refine c9z ?_
  refine .c8 [0, 1, 4, 5, 12] ?_
  refine c109z ?_
  refine c166z ?_
  refine .p 3 ?_
  refine c173z ?_
  exact .mk _ (by rw [qW]; rfl)
theorem c_blk17 {e : Frm} {c : Ctx} (sc : SC E c vs s.l) (bd : Bd E c s.p) (B : Bnd s W) (a : Ex) (he : GE vs 2 a) (th el : Sl) (hel : 0 < el.len) (hW : 1 + th.wt + el.wt ≤ W) (ith : (∀ s' : Sco, SC E c vs s'.l → s'.p = s.p → Bnd s' th.wt → ∀ e : Frm, CH 66 [.ptr e.k 0 0, .vec th.len (o3 th)] (hT e (w6 e.k s') (s').code (s').sites) (.tup []) (hT e (w6 e.k (bZ s'.l s' th)) ((bZ s'.l s' th)).code ((bZ s'.l s' th)).sites))) (iel : (∀ s' : Sco, SC E c vs s'.l → s'.p = s.p → Bnd s' el.wt → ∀ e : Frm, CH 66 [.ptr e.k 0 0, .vec el.len (o3 el)] (hT e (w6 e.k s') (s').code (s').sites) (.tup []) (hT e (w6 e.k (bZ s'.l s' el)) ((bZ s'.l s' el)).code ((bZ s'.l s' el)).sites))) : g6 Tryz.prog cfg (oQ [1, 0, 1, 0, 0, 1, 0] (iI Tryz.f66)) ⟨mkS 253 [(0, AV.ptr e.k 0 0), (1, AV.vec (Go.Un.Sl.len (pre.app (.cons 7 ByteArray.empty a l8 [] th el rest))) (o3 (pre.app (.cons 7 ByteArray.empty a l8 [] th el rest)))), (4, AV.vec l0.length (j5 l0)), (5, AV.int .i64 ((pre.len : Nat) : Int))], (hT e (w6 e.k s) s.code s.sites)⟩ (Led 253 [(0, AV.ptr e.k 0 0), (1, AV.vec (Go.Un.Sl.len (pre.app (.cons 7 ByteArray.empty a l8 [] th el rest))) (o3 (pre.app (.cons 7 ByteArray.empty a l8 [] th el rest)))), (4, AV.vec l0.length (j5 l0)), (5, AV.int .i64 ((pre.len : Nat) : Int))] ((hT e (w6 e.k (bV (cY s a th el) (cX s a th).code.length ((cY s a th el).code.length : Int))) ((bV (cY s a th el) (cX s a th).code.length ((cY s a th el).code.length : Int))).code ((bV (cY s a th el) (cX s a th).code.length ((cY s a th el).code.length : Int))).sites))) := by
  obtain ⟨q1, q2, q3, q4, q5, q6, q7, q8⟩ := B
  have hlc := @u7 pre 7 ByteArray.empty a l8 [] th el rest
  refine c153z ?_
  refine g6.w8 (hT e (w6 e.k (aX s)) s.code s.sites ++ [⟨0, false, 149, 11, [.int .i64 7, .str ByteArray.empty, .int .i64 a.op, .int .i64 a.num, .str a.name, .vec a.args.length (l7 a.args), .str l8.name, .vec l8.idx.length (l7 l8.idx), .vec (([] : List Ar)).length (aT ([] : List Ar)), .vec (Go.Un.Sl.len th) (o3 th), .vec (Go.Un.Sl.len el) (o3 el)], 0⟩]) rfl ?_
  refine c257z ?_
  refine c9z ?_
  refine c36z ?_
  refine c105z ?_
  refine c27z ?_
  refine c150z ?_
  refine .n ?_
  refine .c8 [0, 1, 4, 5, 6, 7, 12] ?_
  have b1 : Bnd (n8 (aX s) ⟨6, 0, false, eP s.l a, bG, [], []⟩ s.st) th.wt := ⟨q1, t157, t147, t141, q5, t149, t142, t126⟩
  refine c98z ?_
  refine .nil ?_
  have fc := gU (l0 := s.l) (s := n8 (aX s) ⟨6, 0, false, eP s.l a, bG, [], []⟩ s.st) (S := th)
  have fs := gQ (l0 := s.l) (s := n8 (aX s) ⟨6, 0, false, eP s.l a, bG, [], []⟩ s.st) (S := th)
  rw [bK, fP] at fc
  rw [bB, dU] at fs
  change _ ≤ (cX s a th).code.length ∧ (cX s a th).code.length ≤ _ at fc
  change _ ≤ (cX s a th).sites.length ∧ (cX s a th).sites.length ≤ _ at fs
  change g6 _ _ _ ⟨mkS _ _, hT e (w6 e.k (cX s a th)) (cX s a th).code (cX s a th).sites ++ _⟩ _
  refine .z ?_
  refine uTbz ?_
  intro e1 qe1
  refine .c8 [0, 1, 4, 5, 6, 7, 12] ?_
  refine c20z ?_
  refine .ch rfl rfl (eV (lB t42 t39 ⟨7, 0, false, l4, bG, [], []⟩ s.st t21)) ?_
  refine .n ?_
  change g6 _ _ _ ⟨mkS _ _, hT e (w6 e.k (stJ s a th)) (stJ s a th).code (stJ s a th).sites ++ _⟩ _
  have jc : (stJ s a th).code.length = (cX s a th).code.length + 1 := bK
  have js : (stJ s a th).sites.length = (cX s a th).sites.length + 1 := bB
  refine .sg u0 (mkH 13 [0, 1, 3, 7, 0, 0, 32, 96, 224, 480, 1023, 2047, 4095] [12] [] [0, 4096] []) 0 ?_
  refine c96z ?_
  refine c166z ?_
  refine .p 3 ?_
  refine c173z ?_
  refine .c8 [0, 1, 4, 5, 6, 13] ?_
  refine g6.w8 (hT e (w6 e.k (bV (stJ s a th) s.code.length ((stJ s a th).code.length : Int))) (bV (stJ s a th) s.code.length ((stJ s a th).code.length : Int)).code (bV (stJ s a th) s.code.length ((stJ s a th).code.length : Int)).sites ++ [_]) (by rw [qW]; rfl) ?_
  have lb := pL th s.loc
  have b2 : Bnd (bV (stJ s a th) s.code.length ((stJ s a th).code.length : Int)) el.wt := ⟨q1, by show s.l.length + _ ≤ _; omega, by rw [iV, jc]; omega, by rw [mO, js]; omega, by show 0 ≤ eQ th s.loc; omega, by show eQ th s.loc + _ ≤ _; omega, by show 0 ≤ s.st + 1 + (th.wt : Int); omega, by show s.st + 1 + (th.wt : Int) + _ ≤ _; omega⟩
  refine c20z ?_
  refine .ch rfl rfl (eV (iel (bV (stJ s a th) s.code.length ((stJ s a th).code.length : Int)) sc rfl b2 _)) ?_
  refine .nil ?_
  have ec : (stJ s a th).code.length ≤ (cY s a th el).code.length ∧ (cY s a th el).code.length ≤ (stJ s a th).code.length + 2 * el.wt := by have h0 := gU (l0 := s.l) (s := (bV (stJ s a th) s.code.length ((stJ s a th).code.length : Int))) (S := el); rw [iV] at h0; exact h0
  change g6 _ _ _ ⟨mkS _ _, hT e (w6 e.k (cY s a th el)) (cY s a th el).code (cY s a th el).sites ++ _⟩ _
  refine c109z ?_
  refine c166z ?_
  refine .p 3 ?_
  refine c173z ?_
  exact .mk _ (by rw [qW]; rfl)
theorem c_blk8 {e : Frm} {c : Ctx} (sc : SC E c vs s.l) (bd : Bd E c s.p) (B : Bnd s W) (a : Ex) (he : GE vs 2 a) (th : Sl) (hW : 1 + th.wt ≤ W) (ith : (∀ s' : Sco, SC E c vs s'.l → s'.p = s.p → Bnd s' th.wt → ∀ e : Frm, CH 66 [.ptr e.k 0 0, .vec th.len (o3 th)] (hT e (w6 e.k s') (s').code (s').sites) (.tup []) (hT e (w6 e.k (bZ s'.l s' th)) ((bZ s'.l s' th)).code ((bZ s'.l s' th)).sites))) : g6 Tryz.prog cfg (oQ [1, 0, 1, 0, 0, 1, 0] (iI Tryz.f66)) ⟨mkS 253 [(0, AV.ptr e.k 0 0), (1, AV.vec (Go.Un.Sl.len (pre.app (.cons 8 ByteArray.empty a l8 [] th .nil rest))) (o3 (pre.app (.cons 8 ByteArray.empty a l8 [] th .nil rest)))), (4, AV.vec l0.length (j5 l0)), (5, AV.int .i64 ((pre.len : Nat) : Int))], (hT e (w6 e.k s) s.code s.sites)⟩ (Led 253 [(0, AV.ptr e.k 0 0), (1, AV.vec (Go.Un.Sl.len (pre.app (.cons 8 ByteArray.empty a l8 [] th .nil rest))) (o3 (pre.app (.cons 8 ByteArray.empty a l8 [] th .nil rest)))), (4, AV.vec l0.length (j5 l0)), (5, AV.int .i64 ((pre.len : Nat) : Int))] ((hT e (w6 e.k (bV (xG s a th) s.code.length ((xG s a th).code.length : Int))) ((bV (xG s a th) s.code.length ((xG s a th).code.length : Int))).code ((bV (xG s a th) s.code.length ((xG s a th).code.length : Int))).sites))) := by
  obtain ⟨q1, q2, q3, q4, q5, q6, q7, q8⟩ := B
  have hlc := @u7 pre 8 ByteArray.empty a l8 [] th .nil rest
  refine c153z ?_
  refine g6.w8 (hT e (w6 e.k (aX s)) s.code s.sites ++ [⟨0, false, 149, 11, [.int .i64 8, .str ByteArray.empty, .int .i64 a.op, .int .i64 a.num, .str a.name, .vec a.args.length (l7 a.args), .str l8.name, .vec l8.idx.length (l7 l8.idx), .vec (([] : List Ar)).length (aT ([] : List Ar)), .vec (Go.Un.Sl.len th) (o3 th), .vec (Go.Un.Sl.len Go.Un.Sl.nil) (o3 Go.Un.Sl.nil)], 0⟩]) rfl ?_
  refine c257z ?_
  refine c9z ?_
  refine c36z ?_
  refine c9z ?_
  refine c105z ?_
  refine c27z ?_
  refine c150z ?_
  refine .n ?_
  refine .c8 [0, 1, 4, 5, 6, 7, 14] ?_
  have b1 : Bnd (n8 (aX s) ⟨6, 0, false, eP s.l a, bG, [], []⟩ s.st) th.wt := ⟨q1, t157, t147, t141, q5, t149, t142, t126⟩
  refine c98z ?_
  refine .nil ?_
  have fc := gU (l0 := s.l) (s := n8 (aX s) ⟨6, 0, false, eP s.l a, bG, [], []⟩ s.st) (S := th)
  have fs := gQ (l0 := s.l) (s := n8 (aX s) ⟨6, 0, false, eP s.l a, bG, [], []⟩ s.st) (S := th)
  rw [bK, fP] at fc
  rw [bB, dU] at fs
  change _ ≤ (cX s a th).code.length ∧ (cX s a th).code.length ≤ _ at fc
  change _ ≤ (cX s a th).sites.length ∧ (cX s a th).sites.length ≤ _ at fs
  change g6 _ _ _ ⟨mkS _ _, hT e (w6 e.k (cX s a th)) (cX s a th).code (cX s a th).sites ++ _⟩ _
  refine c24z ?_
  refine .ch rfl rfl (eV (lB t42 t39 ⟨7, ((s.code.length : Nat) : Int), false, l4, bG, [], []⟩ s.st t21)) ?_
  refine .nil ?_
  refine .c8 [0, 1, 4, 5, 14] ?_
  change g6 _ _ _ ⟨mkS _ _, hT e (w6 e.k (xG s a th)) (xG s a th).code (xG s a th).sites ++ _⟩ _
  have jc : (xG s a th).code.length = (cX s a th).code.length + 1 := bK
  refine c109z ?_
  refine c166z ?_
  refine .p 3 ?_
  refine c173z ?_
  exact .mk _ (by rw [qW]; rfl)
theorem c_blk9 {e : Frm} {c : Ctx} (sc : SC E c vs s.l) (bd : Bd E c s.p) (B : Bnd s W) (hW : 1 ≤ W) : g6 Tryz.prog cfg (oQ [1, 0, 1, 0, 0, 1, 0] (iI Tryz.f66)) ⟨mkS 253 [(0, AV.ptr e.k 0 0), (1, AV.vec (Go.Un.Sl.len (pre.app (.cons 9 ByteArray.empty l4 l8 [] .nil .nil rest))) (o3 (pre.app (.cons 9 ByteArray.empty l4 l8 [] .nil .nil rest)))), (4, AV.vec l0.length (j5 l0)), (5, AV.int .i64 ((pre.len : Nat) : Int))], (hT e (w6 e.k s) s.code s.sites)⟩ (Led 253 [(0, AV.ptr e.k 0 0), (1, AV.vec (Go.Un.Sl.len (pre.app (.cons 9 ByteArray.empty l4 l8 [] .nil .nil rest))) (o3 (pre.app (.cons 9 ByteArray.empty l4 l8 [] .nil .nil rest)))), (4, AV.vec l0.length (j5 l0)), (5, AV.int .i64 ((pre.len : Nat) : Int))] ((hT e (w6 e.k (n8 (aX s) ⟨8, 0, false, l4, bG, [], []⟩ s.st)) ((n8 (aX s) ⟨8, 0, false, l4, bG, [], []⟩ s.st)).code ((n8 (aX s) ⟨8, 0, false, l4, bG, [], []⟩ s.st)).sites))) := by
  obtain ⟨q1, q2, q3, q4, q5, q6, q7, q8⟩ := B
  have hlc := @u7 pre 9 ByteArray.empty l4 l8 [] .nil .nil rest
  refine c153z ?_
  refine g6.w8 (hT e (w6 e.k (aX s)) s.code s.sites ++ [⟨0, false, 149, 11, [.int .i64 9, .str ByteArray.empty, .int .i64 l4.op, .int .i64 l4.num, .str l4.name, .vec l4.args.length (l7 l4.args), .str l8.name, .vec l8.idx.length (l7 l8.idx), .vec (([] : List Ar)).length (aT ([] : List Ar)), .vec (Go.Un.Sl.len Go.Un.Sl.nil) (o3 Go.Un.Sl.nil), .vec (Go.Un.Sl.len Go.Un.Sl.nil) (o3 Go.Un.Sl.nil)], 0⟩]) rfl ?_
  refine c257z ?_
  refine c9z ?_
  refine c36z ?_
  refine c115z ?_
  refine .c8 [0, 1, 4, 5, 7] ?_
  refine .r ?_
  refine .e 3 ?_
  refine .ch rfl rfl (eV (lB t42 t39 ⟨8, 0, false, l4, bG, [], []⟩ s.st t21)) ?_
  refine .nil ?_
  exact .mk _ rfl
theorem Bnd.mono {W' : Nat} (h : Bnd s W) (hw : W' ≤ W) : Bnd s W' := by
  obtain ⟨q1, q2, q3, q4, q5, q6, q7, q8⟩ := h
  exact ⟨q1, by omega, by omega, by omega, q5, by omega, q7, by omega⟩
theorem Bnd.ins (h : Bnd s (1 + W)) (i : Ins) : Bnd (n8 (aX s) i s.st) W := by
  obtain ⟨q1, q2, q3, q4, q5, q6, q7, q8⟩ := h
  exact ⟨q1, t157, t147, t141, q5, t149, t142, t126⟩
theorem Bnd.var (h : Bnd s (1 + W)) (i : Ins) (n : BA) : Bnd (oW (n8 (aX s) i s.st) n) W := by
  obtain ⟨q1, q2, q3, q4, q5, q6, q7, q8⟩ := h
  exact ⟨by simp [oW], by show (s.l ++ [_]).length + _ ≤ _; simp; omega, by show (n8 (aX s) i s.st).code.length + _ ≤ _; rw [bK, fP]; omega, by show (n8 (aX s) i s.st).sites.length + _ ≤ _; rw [bB, dU]; omega, by show 0 ≤ s.loc + 1; omega, by show s.loc + 1 + _ ≤ _; omega, t142, t126⟩
theorem Bnd.fin (h : Bnd s (S.wt + W)) : Bnd (bZ s.l s S) W := by
  obtain ⟨q1, q2, q3, q4, q5, q6, q7, q8⟩ := h
  have h1 := gU (l0 := s.l) (s := s) (S := S)
  have h2 := gQ (l0 := s.l) (s := s) (S := S)
  have h3 := pL S s.loc
  exact ⟨q1, by show s.l.length + _ ≤ _; omega, by omega, by omega, by show 0 ≤ eQ S s.loc; omega, by show eQ S s.loc + _ ≤ _; omega, by show 0 ≤ s.st + (S.wt : Int); omega, by show s.st + (S.wt : Int) + _ ≤ _; omega⟩
theorem Bnd.tgt {i : Nat} {v : Int} (h : Bnd s W) : Bnd (bV s i v) W := by
  obtain ⟨q1, q2, q3, q4, q5, q6, q7, q8⟩ := h
  exact ⟨q1, q2, by rw [iV]; exact q3, q4, q5, q6, q7, q8⟩
theorem Bnd.put2 (h : Bnd s W) (i : Ins) (t : Int) (hc : s.code.length + 1 + 2 * W ≤ 5000) (hs : s.sites.length + 1 + 2 * W ≤ 5000) : Bnd (n8 s i t) W := by
  obtain ⟨q1, q2, q3, q4, q5, q6, q7, q8⟩ := h
  exact ⟨q1, by rw [D2]; omega, by rw [bK]; omega, by rw [bB]; omega, q5, by rw [sR]; omega, q7, by rw [L5]; omega⟩
variable {a : Ex}
theorem zJ (h : Bnd s (1 + th.wt + W)) : Bnd (cX s a th) W ∧ (cX s a th).code.length + 1 + 2 * W ≤ 5000 ∧ (cX s a th).sites.length + 1 + 2 * W ≤ 5000 := by
  have h1 := (show Bnd s (1 + (th.wt + W)) from h.mono (by omega)).ins ⟨6, 0, false, eP s.l a, bG, [], []⟩
  have h2 := gU (l0 := s.l) (s := n8 (aX s) ⟨6, 0, false, eP s.l a, bG, [], []⟩ s.st) (S := th)
  have h3 := gQ (l0 := s.l) (s := n8 (aX s) ⟨6, 0, false, eP s.l a, bG, [], []⟩ s.st) (S := th)
  rw [bK, fP] at h2
  rw [bB, dU] at h3
  have q3 := h.cb
  have q4 := h.sb
  exact ⟨h1.fin, by show (bZ s.l (n8 (aX s) _ s.st) th).code.length + 1 + 2 * W ≤ 5000; omega, by show (bZ s.l (n8 (aX s) _ s.st) th).sites.length + 1 + 2 * W ≤ 5000; omega⟩
theorem JD (h : Bnd s (1 + th.wt + (el.wt + W))) : Bnd (cY s a th el) W := by
  obtain ⟨h1, h2, h3⟩ := zJ (a := a) h
  exact (((h1.put2 ⟨7, 0, false, l4, bG, [], []⟩ s.st h2 h3).tgt (i := s.code.length) (v := ((stJ s a th).code.length : Int)))).fin
theorem JE {e : Frm} {c : Ctx} (sc : SC E c vs s.l) (bd : Bd E c s.p) {k : Int} {n : BA} (hG : GS E (.cons k n a r xs th el rest) vs) (B : Bnd s (Sl.cons k n a r xs th el rest).wt) (ih : ∀ T : Sl, (T = th ∨ T = el) → GS E T vs → (∀ s' : Sco, SC E c vs s'.l → s'.p = s.p → Bnd s' T.wt → ∀ e : Frm, CH 66 [.ptr e.k 0 0, .vec T.len (o3 T)] (hT e (w6 e.k s') (s').code (s').sites) (.tup []) (hT e (w6 e.k (bZ s'.l s' T)) ((bZ s'.l s' T)).code ((bZ s'.l s' T)).sites))) : ∃ s' vs', SC E c vs' s'.l ∧ GS E rest vs' ∧ s'.p = s.p ∧ Bnd s' rest.wt ∧ bZ l0 s' rest = bZ l0 s (.cons k n a r xs th el rest) ∧ g6 Tryz.prog cfg (oQ [1, 0, 1, 0, 0, 1, 0] (iI Tryz.f66)) ⟨mkS 253 [(0, AV.ptr e.k 0 0), (1, AV.vec (Go.Un.Sl.len (pre.app (.cons k n a r xs th el rest))) (o3 (pre.app (.cons k n a r xs th el rest)))), (4, AV.vec l0.length (j5 l0)), (5, AV.int .i64 ((pre.len : Nat) : Int))], (hT e (w6 e.k s) s.code s.sites)⟩ (Led 253 [(0, AV.ptr e.k 0 0), (1, AV.vec (Go.Un.Sl.len (pre.app (.cons k n a r xs th el rest))) (o3 (pre.app (.cons k n a r xs th el rest)))), (4, AV.vec l0.length (j5 l0)), (5, AV.int .i64 ((pre.len : Nat) : Int))] (hT e (w6 e.k s') (s').code (s').sites)) := by
  rcases hG with ⟨rfl, ⟨j, hj, rfl⟩, hn, he, rfl, rfl, rfl, rfl, hr⟩ | ⟨rfl, hn, he, rfl, rfl, rfl, rfl, hr⟩ | ⟨rfl | rfl, ⟨f, hf, rfl, ha⟩, rfl, rfl, rfl, rfl, hr⟩ | ⟨rfl | rfl, rfl, rfl, hR, rfl, rfl, rfl, hr⟩ | ⟨rfl, rfl, he, rfl, rfl, hth, hel, hr⟩ | ⟨rfl, rfl, he, rfl, rfl, hth, rfl, hr⟩ | ⟨rfl, rfl, rfl, rfl, rfl, rfl, rfl, hr⟩
  all_goals simp only [Sl.wt, Nat.add_zero] at B
  · exact ⟨(oW (n8 (aX s) ⟨1, s.loc, false, eP s.l a, bG, [], []⟩ s.st) (vnm j)), _, sc.push hj hn s.loc, hr, rfl, B.var _ _, fin_var, c_blk1 sc bd B (by omega) j hj hn a he⟩
  · exact ⟨(n8 (aX s) ⟨1, (dW s.l n).n, (dW s.l n).kind == 1, eP s.l a, bG, [], []⟩ s.st), vs, sc, hr, rfl, B.ins _, oY (by simp only [o1, show ¬ (2 : Int) = 1 from by decide, if_true, if_false]; rfl) (by decide), c_blk2 sc bd B (by omega) n hn a he⟩
  · exact ⟨(n8 (aX s) ⟨2, (dW s.l f.1).n, false, l4, bG, aH s.l xs, w4 s.l xs⟩ s.st), vs, sc, hr, rfl, B.ins _, oY (by simp only [o1, show ¬ (3 : Int) = 1 from by decide, show ¬ (3 : Int) = 2 from by decide, show ¬ (3 : Int) = 4 from by decide, true_or, if_true, if_false]) (by decide), c_blk3 sc bd B (by omega) f hf xs ha⟩
  · exact ⟨(n8 (aX s) ⟨3, (dW s.l f.1).n, false, l4, bG, aH s.l xs, w4 s.l xs⟩ s.st), vs, sc, hr, rfl, B.ins _, oY (by simp only [o1, show ¬ (4 : Int) = 1 from by decide, show ¬ (4 : Int) = 2 from by decide, or_true, if_true, if_false]) (by decide), c_blk4 sc bd B (by omega) f hf xs ha⟩
  · exact ⟨(n8 (aX s) ⟨4, 0, false, l4, oS s.l r, [], []⟩ s.st), vs, sc, hr, rfl, B.ins _, oY (by simp only [o1, show ¬ (5 : Int) = 1 from by decide, show ¬ (5 : Int) = 2 from by decide, show ¬ ((5 : Int) = 3 ∨ (5 : Int) = 4) from by decide, if_true, if_false]) (by decide), c_blk5 sc bd B (by omega) r hR⟩
  · exact ⟨(n8 (aX s) ⟨5, 0, false, l4, oS s.l r, [], []⟩ s.st), vs, sc, hr, rfl, B.ins _, oY (by simp only [o1, show ¬ (6 : Int) = 1 from by decide, show ¬ (6 : Int) = 2 from by decide, show ¬ ((6 : Int) = 3 ∨ (6 : Int) = 4) from by decide, show ¬ (6 : Int) = 5 from by decide, if_true, if_false]) (by decide), c_blk6 sc bd B (by omega) r hR⟩
  · by_cases h0 : 0 < el.len
    · exact ⟨(bV (cY s a th el) (cX s a th).code.length ((cY s a th el).code.length : Int)), vs, sc, hr, rfl, (JD (B.mono (by omega))).tgt, JC h0, c_blk17 sc bd B a he th el h0 (by omega) (ih _ (.inl rfl) hth) (ih _ (.inr rfl) hel)⟩
    · obtain rfl := len_nil.1 h0
      simp only [Sl.wt, Nat.add_zero] at B
      exact ⟨(bV (cX s a th) s.code.length ((cX s a th).code.length : Int)), vs, sc, hr, rfl, (zJ B).1.tgt, fin_if, c_blk7 sc bd B a he th (by omega) (ih _ (.inl rfl) hth)⟩
  · exact ⟨(bV (xG s a th) s.code.length ((xG s a th).code.length : Int)), vs, sc, hr, rfl, ((zJ (a := a) B).1.put2 _ _ (zJ B).2.1 (zJ B).2.2).tgt, fin_wh, c_blk8 sc bd B a he th (by omega) (ih _ (.inl rfl) hth)⟩
  · exact ⟨(n8 (aX s) ⟨8, 0, false, l4, bG, [], []⟩ s.st), vs, sc, hr, rfl, B.ins _, oY (by simp only [o1, show ¬ (9 : Int) = 1 from by decide, show ¬ (9 : Int) = 2 from by decide, show ¬ ((9 : Int) = 3 ∨ (9 : Int) = 4) from by decide, show ¬ (9 : Int) = 5 from by decide, show ¬ (9 : Int) = 6 from by decide, show ¬ (9 : Int) = 7 from by decide, show ¬ (9 : Int) = 8 from by decide, if_false]) (by decide), c_blk9 sc bd B (by omega)⟩
theorem fin_nil : bZ l0 s .nil = { s with l := l0 } := by
  refine Sco.eq rfl rfl rfl ?_ ?_ ?_
  · simp [bZ, Sl.wt]
  · simp [bZ, o1]
  · simp [bZ, bR]
theorem JF {c : Ctx} (S : Sl) (hSl : S.wt ≤ 1000) (vars : List BA) (s : Sco) (sc0 : SC E c vars s.l) (hG0 : GS E S vars) (bd : Bd E c s.p) (B0 : Bnd s S.wt) (e : Frm) (ih : ∀ S' : Sl, S'.wt < S.wt → ∀ (vars : List BA) (s : Sco), SC E c vars s.l → GS E S' vars → Bd E c s.p → Bnd s S'.wt → ∀ e : Frm, CH 66 [.ptr e.k 0 0, .vec S'.len (o3 S')] (hT e (w6 e.k s) (s).code (s).sites) (.tup []) (hT e (w6 e.k (bZ s.l s S')) ((bZ s.l s S')).code ((bZ s.l s S')).sites)) : CH 66 [.ptr e.k 0 0, .vec S.len (o3 S)] (hT e (w6 e.k s) s.code s.sites) (.tup []) (hT e (w6 e.k (bZ s.l s S)) ((bZ s.l s S)).code ((bZ s.l s S)).sites) := by
  refine .wz Tryz.f66 253 ?_
  have hlw := cL S
  refine c23z ?_
  refine .bX (fun m st => ∃ (Z : Sl) (pre : Sl) (rst : Sl) (vs : List BA) (cur : Sco), (m = rst.len ∧ (Z = S ∧ S = pre.app rst ∧ GS E rst vs ∧ SC E c vs cur.l ∧ cur.p = s.p ∧ Bnd cur rst.wt ∧ bZ s.l cur rst = bZ s.l s S)) ∧ st = ⟨mkS 253 [(0, AV.ptr e.k 0 0), (1, AV.vec (Go.Un.Sl.len Z) (o3 Z)), (4, AV.vec s.l.length (j5 s.l)), (5, AV.int .i64 ((pre.len : Nat) : Int))], hT e (w6 e.k cur) cur.code cur.sites⟩) (.v ⟨S, Sl.nil, S, vars, s, ⟨rfl, ⟨rfl, rfl, hG0, sc0, rfl, B0, rfl⟩⟩, rfl⟩ (hs := t10) (hr := t84)) ?_
  rintro m sl h' ⟨Z, pre, rst, vs, cur, ⟨hm, ⟨hZ, hS, hG, sc, hp, B, hF⟩⟩, hst⟩
  obtain ⟨rfl, rfl⟩ := St.mk.inj hst; clear hst
  subst hZ
  have hlen := congrArg Go.Un.Sl.len hS; rw [Go.Un.Sl.bJ] at hlen
  refine c0z ?_
  refine u2z ?_ ?_
  ·intro e1 qe1
   refine c119z ?_
   obtain ⟨k, n, a, r, xs, th, el, rest, rfl⟩ := Go.Un.Sl.mM (s := rst) (by omega)
   subst hS
   have hwc := @C4 pre k n a r xs th el rest
   have hlc := @u7 pre k n a r xs th el rest
   obtain ⟨s2, vs2, r1, r2, r3, r4, r5, hrun⟩ := JE (e := e) (l0 := s.l) (pre := pre) sc (by rw [hp]; exact bd) hG B (fun T hT hgT s' q1 q2 q3 e' => ih T (by rcases hT with rfl | rfl <;> omega) _ s' q1 hgT (by rw [q2, hp]; exact bd) q3 e')
   refine g6.fitS [(0, AV.ptr e.k 0 0), (1, AV.vec (Go.Un.Sl.len (pre.app (.cons k n a r xs th el rest))) (o3 (pre.app (.cons k n a r xs th el rest)))), (4, AV.vec s.l.length (j5 s.l)), (5, AV.int .i64 ((pre.len : Nat) : Int))] ?_
   refine g6.led (hrun) ?_
   intro lq hq haq
   change g6 ..
   refine g6.fitS [(0, AV.ptr e.k 0 0), (1, AV.vec (Go.Un.Sl.len (pre.app (.cons k n a r xs th el rest))) (o3 (pre.app (.cons k n a r xs th el rest)))), (4, AV.vec s.l.length (j5 s.l)), (5, AV.int .i64 ((pre.len : Nat) : Int))] ?_ haq
   refine .rz ?_
   exact ⟨_, by omega, .v ⟨_, (pre.app (.cons k n a r xs th el .nil)), rest, vs2, s2, ⟨rfl, ⟨rfl, dN, r2, r1, r3.trans hp, r4, r5.trans hF⟩⟩, rfl⟩ (he := by rfl) (hl := by simp only [z8]; exact Nat.le_refl _) (hk := by exact hT_keep rfl) (hs := t10) (hr := t84)⟩
  intro e1 qe1
  refine .exit ?_
  have hr0 : rst = .nil := Sl.vN (by omega)
  subst hr0
  change g6 ..
  refine .rz ?_
  refine Ends.n ?_
  exact ⟨hT e ⟨0, false, 157, 10, [.vec cur.p.globals.length (o9 cur.p.globals), .vec cur.p.c4.length (g9 cur.p.c4), .vec cur.p.funcs.length (n9 cur.p.funcs), .vec s.l.length (j5 s.l), .int .i64 cur.loc, .int .i64 cur.st, .int .i64 0, .int .i64 0, .own (e.k + 1) cur.code.length 0 cur.code.length, .own (e.k + 2) cur.sites.length 0 cur.sites.length], 0⟩ cur.code cur.sites, [], _, (List.append_nil _).symm, by (simp only [z8]; exact Nat.le_refl _), (wM (eM.get ⟨.vec _ _, .vec _ _, .vec _ _, .vec _ _, .int _ _, .int _ _, .int _ _, .int _ _, .own _ _ _ _ e.lt.2.1, .own _ _ _ _ e.lt.2.2, trivial⟩)), rfl, by rw [← hF, fin_nil]; exact ⟨rfl, rfl⟩⟩
theorem L6 {E : Env} {c : Ctx} : ∀ (n : Nat) (S : Sl), S.wt ≤ n → n ≤ 1000 → ∀ (vars : List BA) (s : Sco), SC E c vars s.l → GS E S vars → Bd E c s.p → Bnd s S.wt → ∀ e : Frm, CH 66 [.ptr e.k 0 0, .vec S.len (o3 S)] (hT e (w6 e.k s) (s).code (s).sites) (.tup []) (hT e (w6 e.k (bZ s.l s S)) ((bZ s.l s S)).code ((bZ s.l s S)).sites)
  | n, S, hn, h1, vars, s, sc, hG, bd, B, e => by
    refine JF S (by omega) vars s sc hG bd B e (fun S' hS' => ?_)
    cases n with
    | zero => omega
    | succ n => exact L6 n S' (by omega) (by omega)
end Go.Proofs.YtapdldekgbbomaaGreat
end
