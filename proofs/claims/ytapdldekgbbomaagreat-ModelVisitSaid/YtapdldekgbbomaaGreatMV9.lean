/- My own texts, put together by a program of mine. -/
import Derived.Test.YtapdldekgbbomaaGreatMV8
set_option linter.unusedSimpArgs false
set_option linter.unusedVariables false
set_option maxRecDepth 100000
set_option maxHeartbeats 4000000
section
namespace Go.Proofs.YtapdldekgbbomaaGreat
open Go.Ab Go.Un
theorem LQ {h : c6} {p : Go.Un.Pg} (hp : GP p) {u : Un} (hu : cP p = u) : CB 23 [.agg [.vec p.globals.length (r8 p.globals), .vec p.c4.length (g9 p.c4), .vec p.funcs.length (o7 p.funcs)]] h (.tup [.agg [.vec u.globals.length (j7 u.globals), .vec u.c4.length (g9 u.c4), .vec u.procs.length (l5 u.procs), .int .i64 u.main], .int .i64 0, .int .i64 0, .int .i64 0]) := by
 subst hu; exact c_lower hp
attribute [local go_sem] rd aJ cB Int.natCast_nonneg Int.natCast_inj iO fV iP
theorem c_unit (L : List Int) (hL : L.length < 4611686018427387904) : CallA Tryz.prog cfg 7 [.vec L.length (j7 L)] [] (fun y' h' => (∃ p u c, GP p ∧ WU u ∧ WC u c ∧ y' = .tup [.agg (HM p), .agg [.vec u.globals.length (j7 u.globals), .vec u.c4.length (g9 u.c4), .vec u.procs.length (l5 u.procs), .int .i64 u.main], .agg [.vec c.insts.length (l8 c.insts), .vec c.calls.length (n4 c.calls), .vec c.roots.length (j7 c.roots)]]) ∧ h' = []) := by
 refine .bz Tryz.f7 29 ?_
 refine c193z ?_
 refine o1.cx rfl rfl hb22 (EL L hL) (fun y1 h1 hq1 => ?_)
 obtain ⟨⟨p, hp, rfl⟩, rfl⟩ := hq1
 generalize hup : cP p = u
 have hu : WU u := by rw [← hup]; exact unit_ok hp
 simp only [HM]
 refine .n ?_
 refine c142z ?_
 refine .ca rfl rfl (LQ hp hup) ?_
 refine c97z ?_
 refine .c8 [2, 3, 4, 5, 6] ?_
 refine c142z ?_
 refine o1.cx rfl rfl hb24 (c_close hu) (fun y1 h1 hq1 => ?_)
 obtain ⟨⟨c, wc, rfl⟩, rfl⟩ := hq1
 simp only [HN]
 refine .n ?_
 refine .sg u4 (mkH 6 [0, 0, 0, 1, 11, 31] [3, 4, 5] [] [0, 8, 24, 56] [1, 2]) 0 ?_
 refine .rn [true] ?_
 refine .rm [true] ?_
 refine .rm [true] ?_
 refine .en [true] [8, 0] [_] ?_
 refine .en [true, false] [24, 8, 0] [_] ?_
 refine .en [true, false, false] [56, 24, 8, 0] [_] ?_
 refine .po [false, true, true, true] ?_
 refine c25z ?_
 exact .ret (.ex (hq := by exact ⟨p, u, c, hp, hu, wc, rfl⟩))
end Go.Proofs.YtapdldekgbbomaaGreat
end
section
namespace Go.Proofs.YtapdldekgbbomaaGreat
open Go.Ab Go.Un
set_option maxHeartbeats 400000
theorem LR {a b x y : Int} : eqA cfg 4 54 (.agg [.int .i64 a, .int .i64 b]) (.agg [.int .i64 x, .int .i64 y]) = some (decide ((a, b) = (x, y))) := by
  have e : eqA cfg 4 54 (.agg [.int .i64 a, .int .i64 b]) (.agg [.int .i64 x, .int .i64 y]) = (match some (a == x) with
    | some true => (match some (b == y) with
      | some true => some true
      | some false => some false
      | none => none)
    | some false => some false
    | none => none) := rfl
  rw [e]
  rcases Bool.eq_false_or_eq_true (a == x) with h1 | h1 <;> rcases Bool.eq_false_or_eq_true (b == y) with h2 | h2 <;> simp only [h1, h2] <;> simp_all
theorem xM (l : List (Int × Int)) : z6 (g6 l) := z6.flat fun _ => z6.cons .int (z6.cons .int z6.nil)
theorem xN (l : List Cf) : z6 (j0 l) := z6.flat fun _ => z6.cons .int (z6.cons .vec z6.nil)
variable {n d β g len : Nat} {H : c6} {a : List (Int × Int)}
theorem EM (hb : H[β]? = some ⟨g, false, 54, 2, g6 a, 0⟩) (hn : n ≤ β) (hl : a.length = len) : gV n H (d + 3) (.own β g 0 len) = some (.vec len (g6 a)) := by
  subst hl
  rw [bW, if_neg (by omega), dQ, hb]
  have h2 : 0 + a.length * 2 ≤ (g6 a).length := by rw [p8]; omega
  simp only [hn, and_self, if_true, Bool.false_eq_true, if_false, h2, List.drop_zero]
  rw [List.take_of_length_le t148, (xM a).frz]
theorem EN {k : Nat} {d : Int} (hb : H[β]? = some ⟨g, false, 54, 2, g6 a, 0⟩) (hn : n ≤ β) (hl : a.length = k) : gV n H 6 (.agg [.int .i64 d, .own β g 0 k]) = some (.agg [.int .i64 d, .vec k (g6 a)]) := by
  have e : gV n H 5 (.own β g 0 k) = some (.vec k (g6 a)) := EM (d := 2) hb hn hl
  rw [nS]
  simp only [p6, lU, e, Option.map_some]
variable {p : Int × Int}
theorem pt_eq {q : Int × Int} (h : (p.1, p.2) = (q.1, q.2)) : p = q := h
variable {b : List (Int × Int)}
theorem ext_P (hl : a.length = b.length) (h : ∀ d, d < a.length → a.getD d (0, 0) = b.getD d (0, 0)) : a = b := by
  refine List.ext_getElem hl fun d k1 k2 => ?_
  have := h d k1
  simpa [List.getD, k1, k2] using this
theorem ext_C {a b : List Cf} (hl : a.length = b.length) (h : ∀ d, d < a.length → a.getD d aR = b.getD d aR) : a = b := by
  refine List.ext_getElem hl fun d k1 k2 => ?_
  have := h d k1
  simpa [List.getD, k1, k2] using this
def ovP (zs : List AV) (k : Nat) (q : List (Int × Int)) : List AV := over zs (k * 2) (g6 q)
variable {h : c6}
theorem app_pz {zs : List AV} {q : List (Int × Int)} {k m : Nat} (hm : q.length = m) (hz : (k + m) * 2 ≤ zs.length) (hk : k + m < 100000) : j5 cfg 54 (h ++ [⟨0, false, 54, 2, zs, 0⟩]) (.own h.length 0 0 k) (.vec m (g6 q)) = some (.own h.length 0 0 (k + m), h ++ [⟨0, false, 54, 2, ovP zs k q, 0⟩]) := by
  subst hm
  have e1 : cfg.sz 54 = 2 := rfl
  have e2 : (cfg.ti 54).bytes = 16 := rfl
  have h1 : k + q.length ≤ maxLen := by
    have : (100000 : Nat) ≤ maxLen := by decide
    omega
  have h2 : (k + q.length) * 16 ≤ 140737488355328 := by omega
  have h3 : q.length * 2 = 2 * q.length := by omega
  have h4 : k * 2 ≤ zs.length := by omega
  cases q with
  | nil =>
    simp only [List.length_nil, Nat.add_zero] at h1 h2
    simp [j5, rd, lenOf, e1, e2, g6, h1, h2, ovP, over, dO]
  | cons x q =>
    simp only [List.length_cons] at h1 h2 h3 hz
    simp [j5, rd, lenOf, e1, e2, p8, h1, h2, h3, h4, hz, dO, nK, ovP]
theorem over_pz {zs : List AV} {q : List (Int × Int)} (hz : zs.length = (b.length + q.length) * 2) : ovP (ovP zs 0 b) b.length q = g6 (b ++ q) := by
  have e : g6 (b ++ q) = g6 b ++ g6 q := by simp [g6]
  rw [e]
  unfold ovP over
  simp only [Nat.zero_mul, List.take_zero, List.nil_append, Nat.zero_add]
  have h1 : List.take (b.length * 2) (g6 b ++ List.drop (g6 b).length zs) = g6 b := by
    rw [show b.length * 2 = (g6 b).length from by rw [p8]; omega, List.take_left]
  rw [h1, List.drop_eq_nil_of_le (by simp only [List.length_append, List.length_drop, p8]; omega), List.append_nil]
theorem EO {n : Nat} : (List.replicate n [AV.int .i64 0, AV.int .i64 0]).flatten.length = n * 2 := by
  induction n with
  | zero => rfl
  | succ n ih => rw [List.replicate_succ, List.flatten_cons, List.length_append, ih]; simp only [List.length_cons, List.length_nil]; omega
theorem pln_z (n : Nat) : z6 (List.replicate n [AV.int .i64 0, AV.int .i64 0]).flatten := fun x hx => by
  simp only [List.mem_flatten, List.mem_replicate] at hx
  obtain ⟨l, ⟨_, rfl⟩, hx⟩ := hx
  exact z6.cons .int (z6.cons .int z6.nil) x hx
theorem z5.newP {l' : c6} (hk : ∀ b ∈ l', z6 b.cells) : z5 h (h ++ l') := fun β b hb => by
  by_cases h1 : β < h.length
  · rw [List.getElem?_append_left h1] at hb; exact .inl hb
  · rw [List.getElem?_append_right (by omega)] at hb
    exact .inr ((hk b (List.mem_of_getElem? hb)).refs _)
theorem O5 (hn : b.length = n) : List.take (n * 2) (g6 (b ++ [p])) = g6 b := by
  subst hn
  rw [show g6 (b ++ [p]) = g6 b ++ g6 [p] from by simp [g6], show b.length * 2 = (g6 b).length from by rw [p8]; omega, List.take_left]
theorem xO (hn : b.length = n) : List.take 2 (List.drop (n * 2) (g6 (b ++ [p]))) = [.int .i64 p.1, .int .i64 p.2] := by
  subst hn
  rw [iY (by simp)]
  simp [List.getD]
def LS (s : Nat) : List Int := ((List.range 9).filter fun i => s.testBit i).map fun i : Nat => (i : Int)
def kK (s i : Nat) : List Int := ((List.range i).filter fun i => s.testBit i).map fun i : Nat => (i : Int)
variable {s : Nat}
theorem uV {i : Nat} (h : s.testBit i = true) : kK s (i + 1) = kK s i ++ [(i : Int)] := by simp [kK, List.range_succ, h]
theorem A1 {i : Nat} (h : s.testBit i = false) : kK s (i + 1) = kK s i := by simp [kK, List.range_succ, h]
theorem V0 : ∀ i, (kK s i).length ≤ i := fun i => by
  unfold kK
  rw [List.length_map]
  exact Nat.le_trans (List.length_filter_le _ _) (by simp)
theorem LU : ([1, 8].all fun k => (List.range (k + 1)).all fun d => [(-1 : Int), 0, 1].all fun ch => LS (applyN (dhN k ch) (2 ^ d)) == (if 0 ≤ (d : Int) + ch ∧ (d : Int) + ch ≤ (k : Int) then [(d : Int) + ch] else [])) = true := by kernel_rfl
theorem uW {m : Mx} {it : w4} {x : Ins} {mx : Int} (hd : d ≤ gS m) : LS (applyN (dhN (gS m) (chI it x mx)) (2 ^ d)) = (if 0 ≤ (d : Int) + chI it x mx ∧ (d : Int) + chI it x mx ≤ (gS m : Int) then [(d : Int) + chI it x mx] else []) := by
  have hk : gS m ∈ [1, 8] := by unfold gS; split <;> simp
  have hc : chI it x mx ∈ [(-1 : Int), 0, 1] := by rcases pO (it := it) (x := x) (m := mx) with h | h | h <;> rw [h] <;> simp
  have := List.all_eq_true.1 (List.all_eq_true.1 (List.all_eq_true.1 LU _ hk) d (List.mem_range.2 (by omega))) _ hc
  exact eq_of_beq this
theorem tN {m : Mx} {ch : Int} : applyN (dhN (gS m) ch) s < 512 := mE (sh_lt gE) _ _
theorem EP (h : d ≤ 8) : 2 ^ d < 512 := by
  have : 2 ^ d ≤ 2 ^ 8 := Nat.pow_le_pow_right (by omega) h
  omega
theorem shl1P {m : Nat} (h1 : m ≤ 8) : IntKind.wrap .i64 (1 * 2 ^ (min m 64)) = ((2 ^ m : Nat) : Int) := by
  rw [shl1M (by omega)]; simp
theorem frz_li {a : List Int} (hb : H[β]? = some (n9 3 1 g (j7 a))) (hn : n ≤ β) (hl : a.length = len) : gV n H 6 (.own β g 0 len) = some (.vec len (j7 a)) := by
  rw [bW, if_neg (by omega)]
  exact eG hb hn (by rw [n6, hl, Nat.mul_one]) (by omega) frz_I
theorem app_li {is : List Int} {x : Int} {l : c6} (hn : is.length = n) (hl : n < 100000) : j5 cfg 3 (h ++ (n9 3 1 g (j7 is) :: ⟨0, false, 3, 1, [.int .i64 x], 0⟩ :: l)) (.own h.length g 0 n) (.own (h.length + 1) 0 0 1) = some (.own h.length (g + 1) 0 (n + 1), h ++ (n9 3 1 (g + 1) (j7 (is ++ [x])) :: ⟨0, false, 3, 1, [.int .i64 x], 0⟩ :: l)) := by
  subst hn
  rw [v7 (C := cfg) (K := 1) (m := 1) (new := [.int .i64 x]) (zs := j7 is) t179 rfl (by omega) t171 rfl (by omega) t132 rfl (by decide) (by omega), ← lL, nK]
  rfl
attribute [local go_sem] rd p8 aD iY kE LR Int.natCast_nonneg Int.natCast_inj Int.toNat_natCast_add_one iB wrap64 oR max2 V3 n6 iD Option.bind_eq_bind
theorem c_eqPt (a b : List (Int × Int)) (hl : a.length < 1000000) : CB 71 [.vec a.length (g6 a), .vec b.length (g6 b)] h (.bool (decide (a = b))) := by
  refine .bz Tryz.f71 26 ?_
  refine c59z ?_
  refine u2z ?_ ?_
  ·intro e1 qe1
   refine c150z ?_
   exact ⟨[], _, (List.append_nil _).symm, t44, t75⟩
  intro e1 qe1
  refine .sk ?_
  refine c5z ?_
  refine .fZ (fun m st => ∃ (i : Nat), (m = a.length - i ∧ ((∀ d, d < i → a.getD d (0, 0) = b.getD d (0, 0)) ∧ i ≤ a.length)) ∧ st = ⟨mkS 26 [(0, AV.vec a.length (g6 a)), (1, AV.vec b.length (g6 b)), (12, AV.int .i64 ((a.length : Nat) : Int)), (13, AV.int .i64 ((i : Nat) : Int))], h⟩) _ (.v ⟨0, ⟨rfl, ⟨t98, by omega⟩⟩, rfl⟩) ?_
  rintro m sl h' ⟨i, ⟨hm, ⟨hI, hi⟩⟩, hst⟩
  obtain ⟨rfl, rfl⟩ := St.mk.inj hst
  refine c12z ?_
  refine u2z ?_ ?_
  ·intro e2 qe2
   refine c201z ?_
   refine .ss u4 (mkP 9 [0, 0, 3, 7, 0, 0, 48, 112, 255] []) ?_
   refine c65z ?_
   refine u2z ?_ ?_
   ·intro e3 qe3
    refine c150z ?_
    exact ⟨[], _, (List.append_nil _).symm, t44, t75⟩
   intro e3 qe3
   refine c4z ?_
   refine .c8 [0, 1, 12, 13] ?_
   refine .rz ?_
   exact ⟨_, by omega, .v ⟨(i + 1), ⟨rfl, ⟨(fun d hd => if e : d = i then by rw [e]; exact pt_eq (by assumption) else hI d (by omega)), by omega⟩⟩, rfl⟩⟩
  intro e2 qe2
  refine c178z ?_
  exact ⟨[], _, (List.append_nil _).symm, t44, t75⟩
theorem c_sameM {x y : Cf} (hl : x.st.length < 1000000) : CB 44 [.agg [.int .i64 x.d, .vec x.st.length (g6 x.st)], .agg [.int .i64 y.d, .vec y.st.length (g6 y.st)]] h (.bool (decide (x = y))) := by
  refine .bz Tryz.f44 17 ?_
  refine c32z ?_
  refine .e 6 ?_
  refine .spl 10 rfl rfl (fun e1 => ?_) (fun e1 => ?_)
  ·try simp only [e1]
   have qe1 := fact e1
   refine .k 4 [(5, 10)] ?_
   refine .ca rfl rfl (c_eqPt _ _ hl) ?_
   refine .n ?_
   exact .ret (.ex (hq := t143))
  try simp only [e1]
  have qe1 := fact e1
  refine .m [(5, 10)] ?_
  exact .ret (.ex (hq := t143))
theorem ER {x y : Cf} (hl : x.st.length < 1000000) : CB 15 [.agg [.int .i64 x.d, .vec x.st.length (g6 x.st)], .agg [.int .i64 y.d, .vec y.st.length (g6 y.st)]] h (.bool (decide (x = y))) := by
  refine .bz Tryz.f15 38 ?_
  refine c12z ?_
  refine c117z ?_
  refine .spl 11 rfl rfl (fun e1 => ?_) (fun e1 => ?_)
  ·try simp only [e1]
   have qe1 := fact e1
   refine .m [(5, 11)] ?_
   refine c240z ?_
   exact .ret (.ex (hq := t39))
  try simp only [e1]
  have qe1 := fact e1
  refine .m [(5, 11)] ?_
  refine u2z ?_ ?_
  ·intro e2 qe2
   refine c14z ?_
   exact .ret (.ex (hq := t39))
  intro e2 qe2
  refine c152z ?_
  refine .c8 [2, 3] ?_
  refine c24z ?_
  refine .fZ (fun m st => ∃ (i : Nat), (m = x.st.length - i ∧ ((∀ d, d < i → x.st.getD d (0, 0) = y.st.getD d (0, 0)) ∧ i ≤ x.st.length)) ∧ st = ⟨mkS 38 [(2, AV.ptr h.length 0 0), (3, AV.ptr (h.length + 1) 0 0), (5, AV.int .i64 ((i : Nat) : Int))], h ++ [⟨0, false, 46, 2, [.int .i64 x.d, .vec x.st.length (g6 x.st)], 0⟩, ⟨0, false, 46, 2, [.int .i64 y.d, .vec y.st.length (g6 y.st)], 0⟩]⟩) _ (.v ⟨0, ⟨rfl, ⟨t98, by omega⟩⟩, rfl⟩) ?_
  rintro m sl h' ⟨i, ⟨hm, ⟨hI, hi⟩⟩, hst⟩
  obtain ⟨rfl, rfl⟩ := St.mk.inj hst
  refine c0z ?_
  refine u2z ?_ ?_
  ·intro e3 qe3
   refine c3z ?_
   refine .ss u4 (mkP 11 [0, 1, 0, 7, 15, 0, 32, 0, 224, 480, 1023] []) ?_
   refine c65z ?_
   refine u2z ?_ ?_
   ·intro e4 qe4
    refine c14z ?_
    exact .ret (.ex (hq := t39))
   intro e4 qe4
   refine c4z ?_
   refine .c8 [2, 3, 5] ?_
   refine .rz ?_
   exact ⟨_, by omega, .v ⟨(i + 1), ⟨rfl, ⟨(fun d hd => if e : d = i then by rw [e]; exact pt_eq (by assumption) else hI d (by omega)), by omega⟩⟩, rfl⟩⟩
  intro e3 qe3
  refine c8z ?_
  refine c14z ?_
  exact .ret (.ex (hq := t39))
theorem LV (a b : List Cf) (hl : a.length < 1000000) (hs : ∀ x ∈ a, x.st.length < 1000000) : CB 10 [.vec a.length (j0 a), .vec b.length (j0 b)] h (.bool (decide (a = b))) := by
  refine .bz Tryz.f10 27 ?_
  refine c59z ?_
  refine u2z ?_ ?_
  ·intro e1 qe1
   refine c150z ?_
   exact ⟨[], _, (List.append_nil _).symm, t44, t76⟩
  intro e1 qe1
  refine .sk ?_
  refine c5z ?_
  refine .fZ (fun m st => ∃ (i : Nat), (m = a.length - i ∧ ((∀ d, d < i → a.getD d aR = b.getD d aR) ∧ i ≤ a.length)) ∧ st = ⟨mkS 27 [(0, AV.vec a.length (j0 a)), (1, AV.vec b.length (j0 b)), (5, AV.int .i64 ((i : Nat) : Int))], h⟩) _ (.v ⟨0, ⟨rfl, ⟨t98, by omega⟩⟩, rfl⟩) ?_
  rintro m sl h' ⟨i, ⟨hm, ⟨hI, hi⟩⟩, hst⟩
  obtain ⟨rfl, rfl⟩ := St.mk.inj hst
  refine c0z ?_
  refine u2z ?_ ?_
  ·intro e2 qe2
   refine c3z ?_
   refine .ss u4 (mkP 10 [0, 0, 3, 7, 0, 0, 48, 112, 255, 511] []) ?_
   refine .k 8 [] ?_
   refine .ca rfl rfl (ER (x := a.getD i aR) (y := b.getD i aR) (hs _ (l3 (by omega)))) ?_
   refine .n [] ?_
   refine u2z ?_ ?_
   ·intro e3 qe3
    refine c150z ?_
    exact ⟨[], _, (List.append_nil _).symm, t44, t76⟩
   intro e3 qe3
   refine c4z ?_
   refine c212z ?_
   exact ⟨_, by omega, .v ⟨(i + 1), ⟨rfl, ⟨(fun d hd => if e : d = i then by rw [e]; simp_all else hI d (by omega)), by omega⟩⟩, rfl⟩⟩
  intro e2 qe2
  refine c178z ?_
  exact ⟨[], _, (List.append_nil _).symm, t44, t76⟩
theorem c_begM {c : Clo} (r : Int) : CB 16 [.agg [.vec c.insts.length (l8 c.insts), .vec c.calls.length (n4 c.calls), .vec c.roots.length (j7 c.roots)], .int .i64 r] h (.agg [.int .i64 0, .vec 1 [.int .i64 r, .int .i64 0]]) := by
  refine .bz Tryz.f16 9 ?_
  refine .z ?_
  refine c34z ?_
  exact ⟨_, _, rfl, EN (a := [(r, 0)]) t29 (by omega) rfl, by rfl⟩
theorem c_begR (r : Int) : CB 17 [.int .i64 r] h (.agg [.int .i64 0, .vec 1 [.int .i64 r, .int .i64 0]]) := by
  refine .bz Tryz.f17 7 ?_
  refine .z ?_
  refine c34z ?_
  exact ⟨_, _, rfl, EN (a := [(r, 0)]) t29 (by omega) rfl, by rfl⟩
attribute [local go_sem] vB app_pz
theorem c_grow0 : CB 103 [.j9, .int .i64 0] h (.vec 0 []) := by
  refine .bz Tryz.f103 27 ?_
  refine c59z ?_
  refine c18z ?_
  refine c0z ?_
  refine .c8 [0, 1] ?_
  refine c9z ?_
  refine .sk ?_
  refine c34z ?_
  exact ⟨[], _, (List.append_nil _).symm, t44, by rfl⟩
theorem c_growP (n : Nat) (h0 : 0 < n) (h1 : n < 100000) : CH 103 [.j9, .int .i64 ((n : Nat) : Int)] h (.own h.length 0 0 0) (h ++ [⟨0, false, 54, 2, (List.replicate n [.int .i64 0, .int .i64 0]).flatten, 0⟩]) := by
  refine .wz Tryz.f103 27 ?_
  refine c194z ?_
  intro e1 qe1
  refine .sk ?_
  refine c0z ?_
  refine .c8 [0, 1] ?_
  refine .z ?_
  refine uTbz ?_
  intro e2 qe2
  refine c184z ?_
  refine .c8 [0] ?_
  refine c34z ?_
  exact ⟨_, [], _, (List.append_nil _).symm, by simp, z5.newP (fun b hb => by rw [List.mem_singleton] at hb; subst hb; exact pln_z n), bW.trans (if_pos (by simp)), by exact ⟨rfl, rfl⟩⟩
theorem c_growQ (n : Nat) {z : Int} (h0 : 0 < n) (h1 : n < 100000) (hz : z = (n : Int)) : CH 103 [.j9, .int .i64 z] h (.own h.length 0 0 0) (h ++ [⟨0, false, 54, 2, (List.replicate n [.int .i64 0, .int .i64 0]).flatten, 0⟩]) := by
  subst hz; exact c_growP n h0 h1
theorem c_cat0  : CB 72 [.vec 2 [.vec 0 [], .vec 0 []]] h (.vec 0 []) := by
  refine .bz Tryz.f72 36 ?_
  refine c73z ?_
  refine g5.rounds 4 ?_
  refine c69z ?_
  refine c46z ?_
  refine c210z ?_
  refine c9z ?_
  refine c4z ?_
  refine c181z ?_
  refine c46z ?_
  refine c210z ?_
  refine c9z ?_
  refine c4z ?_
  refine c181z ?_
  refine c31z ?_
  refine c142z ?_
  refine .ca rfl rfl (c_grow0) ?_
  refine c42z ?_
  refine .c8 [0, 6] ?_
  refine c24z ?_
  refine g5.rounds 4 ?_
  refine c69z ?_
  refine c46z ?_
  refine .z ?_
  refine c1z ?_
  refine c222z ?_
  refine c46z ?_
  refine .z ?_
  refine c1z ?_
  refine c222z ?_
  refine c31z ?_
  refine c34z ?_
  exact ⟨[], _, (List.append_nil _).symm, t44, by rfl⟩
theorem c_catP (b : List (Int × Int)) (q : List (Int × Int)) (hb : b.length < 10000) (hq : q.length < 10000) (h0 : 0 < b.length + q.length) : CB 72 [.vec 2 [.vec b.length (g6 b), .vec q.length (g6 q)]] h (.vec (b.length + q.length) (g6 (b ++ q))) := by
  refine .bz Tryz.f72 36 ?_
  refine c73z ?_
  refine g5.rounds 4 ?_
  refine c69z ?_
  refine c46z ?_
  refine c210z ?_
  refine c119z ?_
  intro e1 qe1
  refine c4z ?_
  refine c181z ?_
  refine c46z ?_
  refine c210z ?_
  refine c119z ?_
  intro e2 qe2
  refine c4z ?_
  refine c181z ?_
  refine c31z ?_
  have hzl := @EO (b.length + q.length)
  have hov : (ovP (List.replicate (b.length + q.length) [AV.int .i64 0, AV.int .i64 0]).flatten 0 b).length = (b.length + q.length) * 2 := by unfold ovP over; simp only [List.length_append, List.length_take, List.length_drop, p8, hzl]; omega
  have hfin := over_pz (b := b) (q := q) hzl
  refine c142z ?_
  refine .ch rfl rfl (c_growQ (b.length + q.length) (by omega) (by omega) (by omega)) ?_
  refine c42z ?_
  refine .c8 [0, 6] ?_
  refine c24z ?_
  refine g5.rounds 4 ?_
  refine c69z ?_
  refine c46z ?_
  refine .z ?_
  refine c1z ?_
  refine c222z ?_
  refine c46z ?_
  refine .z ?_
  refine c1z ?_
  refine c222z ?_
  refine c31z ?_
  refine c34z ?_
  exact ⟨_, _, rfl, EM (a := b ++ q) (by rw [dO, hfin]; rfl) (Nat.le_refl _) (by simp), by rfl⟩
end Go.Proofs.YtapdldekgbbomaaGreat
end
section
namespace Go.Proofs.YtapdldekgbbomaaGreat
open Go.Ab Go.Un
set_option maxHeartbeats 400000
variable {n β g len : Nat} {H : c6}
theorem ES {a : List Cf} (hb : H[β]? = some ⟨g, false, 46, 2, j0 a, 0⟩) (hn : n ≤ β) (hl : a.length = len) : gV n H 6 (.own β g 0 len) = some (.vec len (j0 a)) := by
  subst hl
  rw [bW, if_neg (by omega), dQ, hb]
  have h2 : 0 + a.length * 2 ≤ (j0 a).length := by rw [aD]; omega
  simp only [hn, and_self, if_true, Bool.false_eq_true, if_false, h2, List.drop_zero]
  rw [List.take_of_length_le t167, (xN a).frz]
theorem nA {a : List Cf} (hb : H[β]? = some (n9 46 2 g (j0 a))) (hn : n ≤ β) (hl : a.length = len) : gV n H 6 (.own β g 0 len) = some (.vec len (j0 a)) := by
  rw [bW, if_neg (by omega)]
  exact eG hb hn (by rw [aD, hl]; omega) (by omega) ((xN a).frz _ _ _)
theorem ET {γ k : Nat} {d : Int} {a : List (Int × Int)} (hb : H[γ]? = some ⟨0, false, 46, 2, [.int .i64 d, .own β g 0 k], 0⟩) (hc : H[β]? = some ⟨g, false, 54, 2, g6 a, 0⟩) (hn : n ≤ γ) (hm : n ≤ β) (hl : a.length = k) : gV n H 6 (.own γ 0 0 1) = some (.vec 1 [.int .i64 d, .vec k (g6 a)]) := by
  subst hl
  rw [bW, if_neg (by omega), dQ, hb]
  have h2 : 0 + a.length * 2 ≤ (g6 a).length := by rw [p8]; omega
  have e : jP n H 4 (.own β g 0 a.length) = some (.vec a.length (g6 a)) := by
    rw [dQ, hc]
    simp only [hm, and_self, if_true, Bool.false_eq_true, if_false, h2, List.drop_zero]
    rw [List.take_of_length_le t148, (xM a).frz]
  simp only [hn, and_self, if_true, Bool.false_eq_true, if_false, List.drop_zero, Nat.zero_add, Nat.one_mul, List.length_cons, List.length_nil, Nat.le_refl, Nat.reduceAdd, List.take_succ_cons, List.take_zero, p6, nV, e]
variable {u : Un} {c : Clo} {m i pc : Nat} {b : List (Int × Int)}
theorem EU {d : Int} (h : ((c9 u (c.insts.getD i c7)).getD pc g7).op = 8) : eE u c m d b ((i : Int), (pc : Int)) = [⟨d, b⟩] := if_pos h
theorem EV {d : Int} (h : ((c9 u (c.insts.getD i c7)).getD pc g7).op = 2) : eE u c m d b ((i : Int), (pc : Int)) = [⟨d, b ++ [((i : Int), (pc : Int) + 1), ((c.calls.getD i []).getD pc 0, 0)]⟩] := by
  have h8 : ¬ ((c9 u (c.insts.getD i c7)).getD pc g7).op = 8 := by omega
  exact (if_neg h8).trans (if_pos h)
theorem stepP_n {d : Int} (h8 : ¬ ((c9 u (c.insts.getD i c7)).getD pc g7).op = 8) (h2 : ¬ ((c9 u (c.insts.getD i c7)).getD pc g7).op = 2) (hr : 0 ≤ d + chI (c.insts.getD i c7) ((c9 u (c.insts.getD i c7)).getD pc g7) m ∧ d + chI (c.insts.getD i c7) ((c9 u (c.insts.getD i c7)).getD pc g7) m ≤ (gS (u.c4.getD m u5) : Int)) : eE u c m d b ((i : Int), (pc : Int)) = (cA ((c9 u (c.insts.getD i c7)).getD pc g7) pc).map fun k => ⟨d + chI (c.insts.getD i c7) ((c9 u (c.insts.getD i c7)).getD pc g7) m, b ++ [((i : Int), k)]⟩ :=
  ((if_neg h8).trans (if_neg h2)).trans (if_pos hr)
theorem F6 {d : Int} (h8 : ¬ ((c9 u (c.insts.getD i c7)).getD pc g7).op = 8) (h2 : ¬ ((c9 u (c.insts.getD i c7)).getD pc g7).op = 2) (hr : ¬ (0 ≤ d + chI (c.insts.getD i c7) ((c9 u (c.insts.getD i c7)).getD pc g7) m ∧ d + chI (c.insts.getD i c7) ((c9 u (c.insts.getD i c7)).getD pc g7) m ≤ (gS (u.c4.getD m u5) : Int))) : eE u c m d b ((i : Int), (pc : Int)) = [] :=
  ((if_neg h8).trans (if_neg h2)).trans (if_neg hr)
def FT (u : Un) (c : Clo) (m d : Nat) (b : List (Int × Int)) (i pc j : Nat) : List Cf := ((cA ((c9 u (c.insts.getD i c7)).getD pc g7) pc).take j).map fun k => ⟨(d : Int) + chI (c.insts.getD i c7) ((c9 u (c.insts.getD i c7)).getD pc g7) m, b ++ [((i : Int), k)]⟩
variable {d j : Nat}
theorem mG (h : j ≤ (cA ((c9 u (c.insts.getD i c7)).getD pc g7) pc).length) : (FT u c m d b i pc j).length = j := by
  rw [FT, List.length_map, List.length_take]; omega
theorem EW (h : j < (cA ((c9 u (c.insts.getD i c7)).getD pc g7) pc).length) : FT u c m d b i pc j ++ [⟨(d : Int) + chI (c.insts.getD i c7) ((c9 u (c.insts.getD i c7)).getD pc g7) m, b ++ [((i : Int), (cA ((c9 u (c.insts.getD i c7)).getD pc g7) pc).getD j 0)]⟩] = FT u c m d b i pc (j + 1) := by
  unfold FT
  generalize cA ((c9 u (c.insts.getD i c7)).getD pc g7) pc = K at h ⊢
  rw [List.take_add_one, List.getElem?_eq_getElem h, List.map_append]
  simp [List.getD, h]
theorem LW (h : (cA ((c9 u (c.insts.getD i c7)).getD pc g7) pc).length ≤ j) : FT u c m d b i pc j = (cA ((c9 u (c.insts.getD i c7)).getD pc g7) pc).map fun k => ⟨(d : Int) + chI (c.insts.getD i c7) ((c9 u (c.insts.getD i c7)).getD pc g7) m, b ++ [((i : Int), k)]⟩ := by
  unfold FT
  rw [List.take_of_length_le h]
theorem O6 : ((n + 1 : Nat) : Int) - 1 = (n : Int) := by omega
variable {h : c6}
theorem c_catQ (b q : List (Int × Int)) (hb : b.length < 10000) (hq : q.length < 10000) : CB 72 [.vec 2 [.vec b.length (g6 b), .vec q.length (g6 q)]] h (.vec (b.length + q.length) (g6 (b ++ q))) := by
  by_cases h0 : 0 < b.length + q.length
  · exact c_catP b q hb hq h0
  · obtain rfl : b = [] := List.length_eq_zero_iff.1 (by omega)
    obtain rfl : q = [] := List.length_eq_zero_iff.1 (by omega)
    exact c_cat0
theorem c_catO {b0 b1 : Blk} (b q : List (Int × Int)) (hb : b.length < 10000) (hq : q.length < 10000) : CH 72 [.own (h.length + 2) 0 0 2] (h ++ [b0, b1, ⟨0, false, 44, 1, [.vec b.length (g6 b), .vec q.length (g6 q)], 0⟩]) (.vec (b.length + q.length) (g6 (b ++ q))) (h ++ [b0, b1, ⟨0, false, 44, 1, [.vec b.length (g6 b), .vec q.length (g6 q)], 2⟩]) := by
  refine CallA.sF (β := h.length + 2) (off := 0) (len := 2) (b := ⟨0, false, 44, 1, [.vec b.length (g6 b), .vec q.length (g6 q)], 0⟩) (cs := [.vec b.length (g6 b), .vec q.length (g6 q)]) (args' := [.vec 2 [.vec b.length (g6 b), .vec q.length (g6 q)]]) t29 rfl (by simp) rfl ⟨.inr ⟨rfl, rfl⟩, trivial⟩ ?_
  rw [p7]
  exact c_catQ (h := h ++ [b0, b1, ⟨0, false, 44, 1, [.vec b.length (g6 b), .vec q.length (g6 q)], 2⟩]) b q hb hq
attribute [local go_sem] rd p8 aD iY kE LR Int.natCast_nonneg Int.natCast_inj Int.toNat_natCast_add_one iB wrap64 oR max2 V3 n6 iD Option.bind_eq_bind O6 O5 Nat.sub_zero aJ cB z9 s3 iO iP fV oN mB oO xO Nat.add_sub_cancel List.length_take
theorem c_wiV (d0 d : Int) (b : List (Int × Int)) (p : Int × Int) (hb : b.length < 10000) (q : List (Int × Int)) (hq : q.length < 10000) : CB 45 [.agg [.int .i64 d0, .vec (b.length + 1) (g6 (b ++ [p]))], .int .i64 d, .vec q.length (g6 q)] h (.agg [.int .i64 d, .vec (b.length + q.length) (g6 (b ++ q))]) := by
  refine .bz Tryz.f45 19 ?_
  refine c32z ?_
  refine .e 8 ?_
  refine .e 2 ?_
  refine .ch rfl rfl (c_catO b q hb hq) ?_
  refine .n ?_
  exact .ret (.ex (hq := by rfl))
theorem c_wiN (d0 d : Int) (b : List (Int × Int)) (p : Int × Int) (hb : b.length < 10000) : CB 45 [.agg [.int .i64 d0, .vec (b.length + 1) (g6 (b ++ [p]))], .int .i64 d, .j9] h (.agg [.int .i64 d, .vec b.length (g6 b)]) := by
  refine CallA.nilArg (args' := [.agg [.int .i64 d0, .vec (b.length + 1) (g6 (b ++ [p]))], .int .i64 d, .vec 0 []]) ⟨.inl rfl, .inl rfl, .inr ⟨rfl, rfl⟩, trivial⟩ ?_
  have := c_wiV (h := h) d0 d b p hb [] (by simp)
  rw [List.append_nil, List.length_nil, Nat.add_zero] at this
  exact this
theorem c_wiO (d0 d : Int) (b : List (Int × Int)) (p : Int × Int) (hb : b.length < 10000) (q : List (Int × Int)) (hq : q.length < 10000) {k : Nat} (hk : q.length = k) (hβ : H[β]? = some ⟨0, false, 54, 2, g6 q, 0⟩) : CH 45 [.agg [.int .i64 d0, .vec (b.length + 1) (g6 (b ++ [p]))], .int .i64 d, .own β 0 0 k] H (.agg [.int .i64 d, .vec (b.length + k) (g6 (b ++ q))]) (H.set β ⟨0, false, 54, 2, g6 q, k * 2⟩) := by
  subst hk
  have hl : q.length * 2 ≤ (g6 q).length := by rw [p8]; omega
  refine CallA.sF (β := β) (off := 0) (len := q.length) (b := ⟨0, false, 54, 2, g6 q, 0⟩) (cs := g6 q) (args' := [.agg [.int .i64 d0, .vec (b.length + 1) (g6 (b ++ [p]))], .int .i64 d, .vec q.length (g6 q)]) hβ rfl t169 ?_ ⟨.inl rfl, .inl rfl, .inr ⟨rfl, rfl⟩, trivial⟩ ?_
  · show p6 nL (List.take (q.length * 2) (List.drop 0 (g6 q))) = _
    rw [List.drop_zero, List.take_of_length_le t148]
    exact (xM q).MV
  · have e1 : cU ⟨0, false, 54, 2, g6 q, 0⟩ (0 + q.length * 2) = ⟨0, false, 54, 2, g6 q, q.length * 2⟩ := by
      simp only [cU, Nat.zero_add, Nat.zero_max]
    show CallA _ _ _ _ (H.set β (cU ⟨0, false, 54, 2, g6 q, 0⟩ (0 + q.length * 2))) _
    rw [e1]
    exact c_wiV d0 d b p hb q hq
attribute [local go_sem] app_li
theorem c_hasT (s i : Nat) (hs : s < 512) (hi : i ≤ 8) : CB 80 [.int .i64 ((s : Nat) : Int), .int .i64 ((i : Nat) : Int)] h (.bool (s.testBit i)) := by
  rw [← hasN hi]
  exact c_has8 s _ hs
theorem OM (s : Nat) (hs : s < 512) : CB 48 [.int .i64 ((s : Nat) : Int)] h (.vec (LS s).length (j7 (LS s))) := by
  refine .bz Tryz.f48 17 ?_
  refine c73z ?_
  refine g5.sK 3 rfl ?_
  refine .aG (fun m st => ∃ (i : Nat), (m = 9 - i ∧ (i ≤ 9)) ∧ st = ⟨mkS 17 [(0, AV.int .i64 ((s : Nat) : Int)), (3, AV.own h.length (kK s i).length 0 (kK s i).length), (5, AV.int .i64 ((i : Nat) : Int))], h ++ [n9 3 1 (kK s i).length (j7 (kK s i))]⟩) (.v ⟨0, ⟨rfl, by omega⟩, rfl⟩ (hs := t46)) ?_
  rintro m sl h' ⟨i, ⟨hm, hi⟩, hst⟩
  obtain ⟨rfl, rfl⟩ := St.mk.inj hst; clear hst
  have hln := V0 (s := s) i
  refine c12z ?_
  refine u2z ?_ ?_
  ·intro e1 qe1
   refine c3z ?_
   refine c223z ?_
   refine .ca rfl rfl (c_hasT s i hs (by omega)) ?_
   refine .nil ?_
   refine u2z ?_ ?_
   ·intro e2 qe2
    refine c1z ?_
    refine .c8 [0, 3, 5] ?_
    refine .rz ?_
    exact ⟨_, by omega, .v ⟨(i + 1), ⟨rfl, by omega⟩, rfl⟩ (he := by (rw [uV (by assumption)]; simp only [List.length_append, List.length_cons, List.length_nil, List.append_assoc, List.cons_append, List.nil_append]; rfl)) (hk := by exact (z5.refl _).app rfl ⟨.inr t107, trivial⟩) (hs := t46)⟩
   intro e2 qe2
   refine c4z ?_
   refine .rz ?_
   exact ⟨_, by omega, .v ⟨(i + 1), ⟨rfl, by omega⟩, rfl⟩ (he := by (rw [A1 (by assumption)]; simp only [List.append_assoc, List.cons_append, List.nil_append]; rfl)) (hk := by exact (z5.refl _).app rfl ⟨.inr t107, trivial⟩) (hs := t46)⟩
  intro e1 qe1
  refine .exit ?_
  obtain rfl : i = 9 := by omega
  change g5 ..
  refine c34z ?_
  exact ⟨_, _, rfl, frz_li t179 (Nat.le_refl _) rfl, by rfl⟩
variable {mx : Nat}
theorem ON (hu : WU u) (wc : WC u c) (hmx : mx < u.c4.length) (hd : d ≤ gS (u.c4.getD mx u5)) (hb : b.length < 1000) (hi : i < c.insts.length) (hpc : pc < (c9 u (c.insts.getD i c7)).length) : CB 46 [.agg [.vec u.globals.length (j7 u.globals), .vec u.c4.length (g9 u.c4), .vec u.procs.length (l5 u.procs), .int .i64 u.main], .agg [.int .i64 (c.insts.getD i c7).proc, .vec (c.insts.getD i c7).l7.length (j7 (c.insts.getD i c7).l7)], .int .i64 ((pc : Nat) : Int), .int .i64 ((mx : Nat) : Int)] h (EB (dhN (gS (u.c4.getD mx u5)) (chI (c.insts.getD i c7) ((c9 u (c.insts.getD i c7)).getD pc g7) (mx : Int)))) :=
  (c_rel hu (wc.wi _ (l3 hi)) hpc hmx).mono fun y k hq => ⟨hq.1.trans (vec_sh _ _), hq.2⟩
variable {M : Mx}
theorem OO {ch : Int} (hd : d ≤ 8) : CB 49 [EB (dhN (gS M) ch), .int .i64 ((2 ^ d : Nat) : Int)] h (.int .i64 ((applyN (dhN (gS M) ch) (2 ^ d) : Nat) : Int)) :=
  LF _ _ (sh_lt gE) (EP hd) (by rw [sh_len]; have := gE (m := M); omega)
theorem c_listI {it : w4} {x : Ins} {mz : Int} (hd : d ≤ gS M) (hr : 0 ≤ (d : Int) + chI it x mz ∧ (d : Int) + chI it x mz ≤ (gS M : Int)) : CB 48 [.int .i64 ((applyN (dhN (gS M) (chI it x mz)) (2 ^ d) : Nat) : Int)] h (.vec 1 [.int .i64 ((d : Int) + chI it x mz)]) := by
  have := OM (h := h) (applyN (dhN (gS M) (chI it x mz)) (2 ^ d)) tN
  rw [uW hd, if_pos hr] at this
  exact this
theorem c_listO {it : w4} {x : Ins} {mz : Int} (hd : d ≤ gS M) (hr : ¬ (0 ≤ (d : Int) + chI it x mz ∧ (d : Int) + chI it x mz ≤ (gS M : Int))) : CB 48 [.int .i64 ((applyN (dhN (gS M) (chI it x mz)) (2 ^ d) : Nat) : Int)] h (.vec 0 []) := by
  have := OM (h := h) (applyN (dhN (gS M) (chI it x mz)) (2 ^ d)) tN
  rw [uW hd, if_neg hr] at this
  exact this
theorem LY {l : c6} {b0 b1 b2 b3 b4 b6 : Blk} {T : List Cf} {dd : Int} {p : Int × Int} (hn : T.length = n) (hl : n < 1000) : j5 cfg 46 (h ++ (b0 :: b1 :: b2 :: b3 :: b4 :: n9 46 2 g (j0 T) :: b6 :: ⟨0, false, 46, 2, [.int .i64 dd, .vec (b.length + 1) (g6 (b ++ [p]))], 0⟩ :: l)) (.own (h.length + 5) g 0 n) (.own (h.length + 7) 0 0 1) = some (.own (h.length + 5) (g + 1) 0 (n + 1), h ++ (b0 :: b1 :: b2 :: b3 :: b4 :: n9 46 2 (g + 1) (j0 (T ++ [⟨dd, b ++ [p]⟩])) :: b6 :: ⟨0, false, 46, 2, [.int .i64 dd, .vec (b.length + 1) (g6 (b ++ [p]))], 0⟩ :: l)) := by
  subst hn
  rw [v7 (C := cfg) (K := 2) (m := 1) (new := [.int .i64 dd, .vec (b.length + 1) (g6 (b ++ [p]))]) (zs := j0 T) t29 rfl (by omega) t167 rfl (by omega) t132 rfl (by decide) (by omega), p7, show j0 T ++ [.int .i64 dd, .vec (b.length + 1) (g6 (b ++ [p]))] = j0 (T ++ [⟨dd, b ++ [p]⟩]) from by simp [j0, uA]]
  rfl
theorem EX (h : i < c.calls.length) : List.take 1 (List.drop i (n4 c.calls)) = [.vec (c.calls.getD i []).length (j7 (c.calls.getD i []))] := by
  unfold n4
  rw [← List.map_drop, ← List.map_take, List.drop_eq_getElem_cons h, List.take_succ_cons, List.take_zero]
  simp [List.getD, h]
attribute [local go_sem] LY EX mD shl1P
theorem LZ (hu : WU u) (wc : WC u c) (hmx : mx < u.c4.length) (hd : d ≤ gS (u.c4.getD mx u5)) (hb : b.length < 1000) (hi : i < c.insts.length) (hpc : pc < (c9 u (c.insts.getD i c7)).length) (h8 : ((c9 u (c.insts.getD i c7)).getD pc g7).op = 8) : CB 26 [.agg [.vec u.globals.length (j7 u.globals), .vec u.c4.length (g9 u.c4), .vec u.procs.length (l5 u.procs), .int .i64 u.main, .vec c.insts.length (l8 c.insts), .vec c.calls.length (n4 c.calls), .vec c.roots.length (j7 c.roots), .int .i64 ((mx : Nat) : Int)], .agg [.int .i64 ((d : Nat) : Int), .vec (b.length + 1) (g6 (b ++ [((i : Int), (pc : Int))]))]] h (.vec (eE u c mx (d : Int) b ((i : Int), (pc : Int))).length (j0 (eE u c mx (d : Int) b ((i : Int), (pc : Int))))) := by
  refine .bz Tryz.f26 124 ?_
  have w : WIt u (c.insts.getD i c7) := wc.wi _ (l3 hi)
  have w1 := w.lo
  have w2 := w.hi
  have hsz : (c9 u (c.insts.getD i c7)).length ≤ 1664 := u0 hu w
  have hwl := wc.len
  have hwc := wc.cl
  have hwr := wc.cll i hi
  have hml := hu.ml
  have hcp := gE (m := (u.c4.getD mx u5))
  have hnl := eN (x := ((c9 u (c.insts.getD i c7)).getD pc g7)) (pc := pc)
  refine c194z ?_
  intro e1 qe1
  refine .sk ?_
  refine c249z ?_
  refine c129z ?_
  refine c12z ?_
  refine c72z ?_
  refine c65z ?_
  refine c199z ?_
  refine .z ?_
  refine uTbz ?_
  intro e2 qe2
  refine c20z ?_
  refine .ca rfl rfl (c_wiN _ _ b _ (by omega)) ?_
  refine c161z ?_
  exact ⟨_, _, rfl, ES (a := [⟨(d : Int), b⟩]) t29 (by omega) rfl, by (rw [EU h8]; rfl)⟩
theorem MA (hu : WU u) (wc : WC u c) (hmx : mx < u.c4.length) (hd : d ≤ gS (u.c4.getD mx u5)) (hb : b.length < 1000) (hi : i < c.insts.length) (hpc : pc < (c9 u (c.insts.getD i c7)).length) (h2 : ((c9 u (c.insts.getD i c7)).getD pc g7).op = 2) : CB 26 [.agg [.vec u.globals.length (j7 u.globals), .vec u.c4.length (g9 u.c4), .vec u.procs.length (l5 u.procs), .int .i64 u.main, .vec c.insts.length (l8 c.insts), .vec c.calls.length (n4 c.calls), .vec c.roots.length (j7 c.roots), .int .i64 ((mx : Nat) : Int)], .agg [.int .i64 ((d : Nat) : Int), .vec (b.length + 1) (g6 (b ++ [((i : Int), (pc : Int))]))]] h (.vec (eE u c mx (d : Int) b ((i : Int), (pc : Int))).length (j0 (eE u c mx (d : Int) b ((i : Int), (pc : Int))))) := by
  refine .bz Tryz.f26 124 ?_
  have w : WIt u (c.insts.getD i c7) := wc.wi _ (l3 hi)
  have w1 := w.lo
  have w2 := w.hi
  have hsz : (c9 u (c.insts.getD i c7)).length ≤ 1664 := u0 hu w
  have hwl := wc.len
  have hwc := wc.cl
  have hwr := wc.cll i hi
  have hml := hu.ml
  have hcp := gE (m := (u.c4.getD mx u5))
  have hnl := eN (x := ((c9 u (c.insts.getD i c7)).getD pc g7)) (pc := pc)
  refine c194z ?_
  intro e1 qe1
  refine .sk ?_
  refine c249z ?_
  refine c129z ?_
  refine c12z ?_
  refine c72z ?_
  refine c65z ?_
  refine c199z ?_
  refine c119z ?_
  intro e2 qe2
  refine .z ?_
  refine uTbz ?_
  intro e3 qe3
  refine .sm u4 (mkP 20 [0, 0, 2, 0, 0, 16, 48, 0, 128, 496, 1008, 0, 2048, 8176, 16368, 32752, 65528, 131071, 262143, 524287] [16, 17, 18]) [0, 1, 2] ?_
  refine cD.p (pd := []) 16 ?_
  refine cD.p 1 ?_
  refine cD.r7 rfl rfl rfl rfl rfl hb45 (c_wiO _ _ b _ (by omega) [((i : Int), (pc : Int) + 1), ((c.calls.getD i []).getD pc 0, 0)] (by simp) rfl t29) ?_
  refine cD.p 2 ?_
  refine cD.nil t5 ?_
  refine c2z ?_
  exact ⟨_, _, rfl, ES (a := [⟨(d : Int), b ++ [((i : Int), (pc : Int) + 1), ((c.calls.getD i []).getD pc 0, 0)]⟩]) (by rw [s8]; simp only [j0, uA, List.flatMap_cons, List.flatMap_nil, List.append_nil, List.length_append, List.length_cons, List.length_nil]; rfl) (by omega) rfl, by (rw [EV h2]; rfl)⟩
theorem MB (hu : WU u) (wc : WC u c) (hmx : mx < u.c4.length) (hd : d ≤ gS (u.c4.getD mx u5)) (hb : b.length < 1000) (hi : i < c.insts.length) (hpc : pc < (c9 u (c.insts.getD i c7)).length) (h8 : ¬ ((c9 u (c.insts.getD i c7)).getD pc g7).op = 8) (h2 : ¬ ((c9 u (c.insts.getD i c7)).getD pc g7).op = 2) (hr : 0 ≤ (d : Int) + chI (c.insts.getD i c7) ((c9 u (c.insts.getD i c7)).getD pc g7) (mx : Int) ∧ (d : Int) + chI (c.insts.getD i c7) ((c9 u (c.insts.getD i c7)).getD pc g7) (mx : Int) ≤ (gS (u.c4.getD mx u5) : Int)) : CB 26 [.agg [.vec u.globals.length (j7 u.globals), .vec u.c4.length (g9 u.c4), .vec u.procs.length (l5 u.procs), .int .i64 u.main, .vec c.insts.length (l8 c.insts), .vec c.calls.length (n4 c.calls), .vec c.roots.length (j7 c.roots), .int .i64 ((mx : Nat) : Int)], .agg [.int .i64 ((d : Nat) : Int), .vec (b.length + 1) (g6 (b ++ [((i : Int), (pc : Int))]))]] h (.vec (eE u c mx (d : Int) b ((i : Int), (pc : Int))).length (j0 (eE u c mx (d : Int) b ((i : Int), (pc : Int))))) := by
  refine .bz Tryz.f26 124 ?_
  have w : WIt u (c.insts.getD i c7) := wc.wi _ (l3 hi)
  have w1 := w.lo
  have w2 := w.hi
  have hsz : (c9 u (c.insts.getD i c7)).length ≤ 1664 := u0 hu w
  have hwl := wc.len
  have hwc := wc.cl
  have hwr := wc.cll i hi
  have hml := hu.ml
  have hcp := gE (m := (u.c4.getD mx u5))
  have hnl := eN (x := ((c9 u (c.insts.getD i c7)).getD pc g7)) (pc := pc)
  refine c194z ?_
  intro e1 qe1
  refine .sk ?_
  refine c249z ?_
  refine c129z ?_
  refine c12z ?_
  refine c72z ?_
  refine c65z ?_
  refine c199z ?_
  refine c119z ?_
  intro e2 qe2
  refine c119z ?_
  intro e3 qe3
  refine c4z ?_
  refine c32z ?_
  refine .e 7 ?_
  refine .ca rfl rfl (ON hu wc hmx hd hb hi hpc) ?_
  refine c42z ?_
  refine .c8 [2, 3, 5, 6, 8, 9] ?_
  refine c26z ?_
  refine .ca rfl rfl (DY hu w hpc) ?_
  refine c138z ?_
  refine g5.sK 8 rfl ?_
  refine .aG (fun m st => ∃ (j : Nat), (m = (cA ((c9 u (c.insts.getD i c7)).getD pc g7) pc).length - j ∧ (j ≤ (cA ((c9 u (c.insts.getD i c7)).getD pc g7) pc).length)) ∧ st = ⟨mkS 124 [(3, AV.ptr (h.length + 1) 0 0), (5, AV.ptr (h.length + 2) 0 0), (8, AV.own (h.length + 5) j 0 j), (9, EB (dhN (gS (u.c4.getD mx u5)) (chI (c.insts.getD i c7) ((c9 u (c.insts.getD i c7)).getD pc g7) (mx : Int)))), (93, AV.vec (cA ((c9 u (c.insts.getD i c7)).getD pc g7) pc).length (j7 (cA ((c9 u (c.insts.getD i c7)).getD pc g7) pc))), (94, AV.int .i64 (((cA ((c9 u (c.insts.getD i c7)).getD pc g7) pc).length : Nat) : Int)), (95, AV.int .i64 ((j : Nat) : Int))], h ++ [⟨0, false, 81, 8, [.vec u.globals.length (j7 u.globals), .vec u.c4.length (g9 u.c4), .vec u.procs.length (l5 u.procs), .int .i64 u.main, .vec c.insts.length (l8 c.insts), .vec c.calls.length (n4 c.calls), .vec c.roots.length (j7 c.roots), .int .i64 ((mx : Nat) : Int)], 0⟩, ⟨0, false, 46, 2, [.int .i64 ((d : Nat) : Int), .vec (b.length + 1) (g6 (b ++ [((i : Int), (pc : Int))]))], 0⟩, ⟨0, false, 54, 2, [.int .i64 ((i : Nat) : Int), .int .i64 ((pc : Nat) : Int)], 0⟩, ⟨0, false, 67, 2, [.int .i64 (c.insts.getD i c7).proc, .vec (c.insts.getD i c7).l7.length (j7 (c.insts.getD i c7).l7)], 0⟩, ⟨0, false, 54, 2, [.int .i64 ((i : Nat) : Int), .int .i64 ((pc : Int) + 1)], 0⟩, n9 46 2 j (j0 (FT u c mx d b i pc j))]⟩) (.v ⟨0, ⟨rfl, by omega⟩, rfl⟩ (hs := t21)) ?_
  rintro m sl h' ⟨j, ⟨hm, hj⟩, hst⟩
  obtain ⟨rfl, rfl⟩ := St.mk.inj hst; clear hst
  have hol := mG (u := u) (c := c) (m := mx) (d := d) (b := b) (i := i) (pc := pc) (j := j) hj
  refine c12z ?_
  refine u2z ?_ ?_
  ·intro e4 qe4
   refine c3z ?_
   refine c32z ?_
   refine .e 4 ?_
   refine .ca rfl rfl (OO (by omega)) ?_
   refine .ca rfl rfl (c_listI hd hr) ?_
   refine c138z ?_
   refine g5.rounds 3 ?_
   change g5 _ _ _ _ _
   refine .c8 [3, 5, 8, 9, 11, 93, 94, 95, 104, 105, 106] ?_
   refine c12z ?_
   refine c46z ?_
   refine .z ?_
   refine c130z ?_
   refine .ch rfl rfl (c_wiO _ _ b _ (by omega) [((i : Int), (cA ((c9 u (c.insts.getD i c7)).getD pc g7) pc).getD j 0)] (by simp) rfl t29) ?_
   refine c30z ?_
   refine .c8 [3, 5, 8, 9, 11, 93, 94, 95, 104, 105, 106] ?_
   refine c181z ?_
   refine c31z ?_
   refine .rz ?_
   exact ⟨_, by omega, .v ⟨(j + 1), ⟨rfl, by omega⟩, rfl⟩ (he := t155) (hk := by exact (z5.refl _).app rfl ⟨.inl rfl, .inl rfl, .inl rfl, .inl rfl, .inl rfl, .inr t102, trivial⟩) (hs := t21)⟩
  intro e4 qe4
  refine c178z ?_
  exact ⟨_, _, rfl, nA t29 (by omega) (mG hj), t177⟩
theorem MC (hu : WU u) (wc : WC u c) (hmx : mx < u.c4.length) (hd : d ≤ gS (u.c4.getD mx u5)) (hb : b.length < 1000) (hi : i < c.insts.length) (hpc : pc < (c9 u (c.insts.getD i c7)).length) (h8 : ¬ ((c9 u (c.insts.getD i c7)).getD pc g7).op = 8) (h2 : ¬ ((c9 u (c.insts.getD i c7)).getD pc g7).op = 2) (hr : ¬ (0 ≤ (d : Int) + chI (c.insts.getD i c7) ((c9 u (c.insts.getD i c7)).getD pc g7) (mx : Int) ∧ (d : Int) + chI (c.insts.getD i c7) ((c9 u (c.insts.getD i c7)).getD pc g7) (mx : Int) ≤ (gS (u.c4.getD mx u5) : Int))) : CB 26 [.agg [.vec u.globals.length (j7 u.globals), .vec u.c4.length (g9 u.c4), .vec u.procs.length (l5 u.procs), .int .i64 u.main, .vec c.insts.length (l8 c.insts), .vec c.calls.length (n4 c.calls), .vec c.roots.length (j7 c.roots), .int .i64 ((mx : Nat) : Int)], .agg [.int .i64 ((d : Nat) : Int), .vec (b.length + 1) (g6 (b ++ [((i : Int), (pc : Int))]))]] h (.vec (eE u c mx (d : Int) b ((i : Int), (pc : Int))).length (j0 (eE u c mx (d : Int) b ((i : Int), (pc : Int))))) := by
  refine .bz Tryz.f26 124 ?_
  have w : WIt u (c.insts.getD i c7) := wc.wi _ (l3 hi)
  have w1 := w.lo
  have w2 := w.hi
  have hsz : (c9 u (c.insts.getD i c7)).length ≤ 1664 := u0 hu w
  have hwl := wc.len
  have hwc := wc.cl
  have hwr := wc.cll i hi
  have hml := hu.ml
  have hcp := gE (m := (u.c4.getD mx u5))
  have hnl := eN (x := ((c9 u (c.insts.getD i c7)).getD pc g7)) (pc := pc)
  refine c194z ?_
  intro e1 qe1
  refine .sk ?_
  refine c249z ?_
  refine c129z ?_
  refine c12z ?_
  refine c72z ?_
  refine c65z ?_
  refine c199z ?_
  refine c119z ?_
  intro e2 qe2
  refine c119z ?_
  intro e3 qe3
  refine c4z ?_
  refine c32z ?_
  refine .e 7 ?_
  refine .ca rfl rfl (ON hu wc hmx hd hb hi hpc) ?_
  refine c42z ?_
  refine .c8 [2, 3, 5, 6, 8, 9] ?_
  refine c26z ?_
  refine .ca rfl rfl (DY hu w hpc) ?_
  refine c138z ?_
  refine g5.sK 8 rfl ?_
  refine .aG (fun m st => ∃ (j : Nat), (m = (cA ((c9 u (c.insts.getD i c7)).getD pc g7) pc).length - j ∧ (j ≤ (cA ((c9 u (c.insts.getD i c7)).getD pc g7) pc).length)) ∧ st = ⟨mkS 124 [(3, AV.ptr (h.length + 1) 0 0), (5, AV.ptr (h.length + 2) 0 0), (8, AV.own (h.length + 5) 0 0 0), (9, EB (dhN (gS (u.c4.getD mx u5)) (chI (c.insts.getD i c7) ((c9 u (c.insts.getD i c7)).getD pc g7) (mx : Int)))), (93, AV.vec (cA ((c9 u (c.insts.getD i c7)).getD pc g7) pc).length (j7 (cA ((c9 u (c.insts.getD i c7)).getD pc g7) pc))), (94, AV.int .i64 (((cA ((c9 u (c.insts.getD i c7)).getD pc g7) pc).length : Nat) : Int)), (95, AV.int .i64 ((j : Nat) : Int))], h ++ [⟨0, false, 81, 8, [.vec u.globals.length (j7 u.globals), .vec u.c4.length (g9 u.c4), .vec u.procs.length (l5 u.procs), .int .i64 u.main, .vec c.insts.length (l8 c.insts), .vec c.calls.length (n4 c.calls), .vec c.roots.length (j7 c.roots), .int .i64 ((mx : Nat) : Int)], 0⟩, ⟨0, false, 46, 2, [.int .i64 ((d : Nat) : Int), .vec (b.length + 1) (g6 (b ++ [((i : Int), (pc : Int))]))], 0⟩, ⟨0, false, 54, 2, [.int .i64 ((i : Nat) : Int), .int .i64 ((pc : Nat) : Int)], 0⟩, ⟨0, false, 67, 2, [.int .i64 (c.insts.getD i c7).proc, .vec (c.insts.getD i c7).l7.length (j7 (c.insts.getD i c7).l7)], 0⟩, ⟨0, false, 54, 2, [.int .i64 ((i : Nat) : Int), .int .i64 ((pc : Int) + 1)], 0⟩, n9 46 2 0 []]⟩) (.v ⟨0, ⟨rfl, by omega⟩, rfl⟩ (hs := t21)) ?_
  rintro m sl h' ⟨j, ⟨hm, hj⟩, hst⟩
  obtain ⟨rfl, rfl⟩ := St.mk.inj hst; clear hst
  have hol := mG (u := u) (c := c) (m := mx) (d := d) (b := b) (i := i) (pc := pc) (j := j) hj
  refine c12z ?_
  refine u2z ?_ ?_
  ·intro e4 qe4
   refine c3z ?_
   refine c32z ?_
   refine .e 4 ?_
   refine .ca rfl rfl (OO (by omega)) ?_
   refine .ca rfl rfl (c_listO hd hr) ?_
   refine c138z ?_
   refine g5.rounds 3 ?_
   change g5 _ _ _ _ _
   refine .c8 [3, 5, 8, 9, 11, 93, 94, 95, 104, 105, 106] ?_
   refine c12z ?_
   refine c31z ?_
   refine .rz ?_
   exact ⟨_, by omega, .v ⟨(j + 1), ⟨rfl, by omega⟩, rfl⟩ (hk := by exact (z5.refl _).app rfl ⟨.inl rfl, .inl rfl, .inl rfl, .inl rfl, .inl rfl, .inl rfl, trivial⟩) (hs := t21)⟩
  intro e4 qe4
  refine c178z ?_
  exact ⟨_, _, rfl, nA (a := []) t29 (by omega) rfl, by (rw [F6 h8 h2 hr]; rfl)⟩
theorem MD (hu : WU u) (wc : WC u c) (hmx : mx < u.c4.length) (hd : d ≤ gS (u.c4.getD mx u5)) (hb : b.length < 1000) (hi : i < c.insts.length) (hpc : pc < (c9 u (c.insts.getD i c7)).length) : CB 26 [.agg [.vec u.globals.length (j7 u.globals), .vec u.c4.length (g9 u.c4), .vec u.procs.length (l5 u.procs), .int .i64 u.main, .vec c.insts.length (l8 c.insts), .vec c.calls.length (n4 c.calls), .vec c.roots.length (j7 c.roots), .int .i64 ((mx : Nat) : Int)], .agg [.int .i64 ((d : Nat) : Int), .vec (b.length + 1) (g6 (b ++ [((i : Int), (pc : Int))]))]] h (.vec (eE u c mx (d : Int) b ((i : Int), (pc : Int))).length (j0 (eE u c mx (d : Int) b ((i : Int), (pc : Int))))) := by
  by_cases h8 : ((c9 u (c.insts.getD i c7)).getD pc g7).op = 8
  · exact LZ hu wc hmx hd hb hi hpc h8
  by_cases h2 : ((c9 u (c.insts.getD i c7)).getD pc g7).op = 2
  · exact MA hu wc hmx hd hb hi hpc h2
  by_cases hr : 0 ≤ (d : Int) + chI (c.insts.getD i c7) ((c9 u (c.insts.getD i c7)).getD pc g7) (mx : Int) ∧ (d : Int) + chI (c.insts.getD i c7) ((c9 u (c.insts.getD i c7)).getD pc g7) (mx : Int) ≤ (gS (u.c4.getD mx u5) : Int)
  · exact MB hu wc hmx hd hb hi hpc h8 h2 hr
  · exact MC hu wc hmx hd hb hi hpc h8 h2 hr
end Go.Proofs.YtapdldekgbbomaaGreat
end
section
namespace Go.Proofs.YtapdldekgbbomaaGreat
open Go.Ab Go.Un
def gP (g n : Nat) : Nat := if n = 0 then g else g + 1
variable {g n m : Nat} {a q : List (Int × Int)}
theorem xP {H : c6} {β : Nat} {src : AV} (hb : H[β]? = some ⟨g, false, 54, 2, g6 a, 0⟩) (hn : a.length = n) (hm : q.length = m) (hs : rd H 2 src = some (g6 q)) (hl : lenOf src = some m) (h1 : n < 10000) (h2 : m < 10000) : j5 cfg 54 H (.own β g 0 n) src = some (.own β (gP g m) 0 (n + m), H.set β ⟨gP g m, false, 54, 2, g6 (a ++ q), 0⟩) := by
  subst hn hm
  have e1 : cfg.sz 54 = 2 := rfl
  have e2 : (cfg.ti 54).bytes = 16 := rfl
  have k1 : a.length + q.length ≤ maxLen := by
    have : (20000 : Nat) ≤ maxLen := by decide
    omega
  have k2 : (a.length + q.length) * 16 ≤ 140737488355328 := by omega
  have ea : g6 (a ++ q) = g6 a ++ g6 q := by simp [g6]
  cases q with
  | nil =>
    have hst : H.set β ⟨g, false, 54, 2, g6 a, 0⟩ = H := wE hb
    simp only [List.length_nil, Nat.add_zero] at k1 k2
    have hs' : rd H 2 src = some [] := hs
    have hl' : lenOf src = some 0 := hl
    simp [j5, hs', hl', e1, e2, hb, gP, k1, k2, hst]
  | cons x q =>
    have k3 : a.length * 2 ≤ (g6 a).length := by rw [p8]; omega
    have k4 : ¬ (a.length + (q.length + 1)) * 2 ≤ (g6 a).length := by rw [p8]; omega
    have k5 : (g6 (x :: q)).length = (q.length + 1) * 2 := by rw [p8]; simp only [List.length_cons]; omega
    have k6 : List.take (a.length * 2) (g6 a) = g6 a := List.take_of_length_le t148
    simp only [List.length_cons] at k1 k2 hl
    simp [j5, hs, hl, e1, e2, hb, gP, k1, k2, k3, k4, k5, k6, ea]
theorem OP {H : c6} {β : Nat} (hb : H[β]? = some ⟨g, false, 54, 2, g6 q, 0⟩) (hn : q.length = n) : rd H 2 (.own β g 0 n) = some (g6 q) := by
  subst hn
  have k : 0 + q.length * 2 ≤ (g6 q).length := by rw [p8]; omega
  have k6 : List.take (q.length * 2) (g6 q) = g6 q := List.take_of_length_le t148
  simp only [rd, hb, if_true, Bool.false_eq_true, if_false, true_and, k, List.drop_zero, k6]
variable {h l : c6} {b0 b1 b2 b3 b4 b5 : Blk}
theorem app_b6 (hm : q.length = m) (h2 : m < 10000) : j5 cfg 54 (h ++ (b0 :: b1 :: b2 :: b3 :: b4 :: b5 :: ⟨g, false, 54, 2, [], 0⟩ :: l)) (.own (h.length + 6) g 0 0) (.vec m (g6 q)) = some (.own (h.length + 6) (gP g m) 0 m, h ++ (b0 :: b1 :: b2 :: b3 :: b4 :: b5 :: ⟨gP g m, false, 54, 2, g6 q, 0⟩ :: l)) := by
  rw [xP (β := h.length + 6) (g := g) (n := 0) (m := m) (a := []) (q := q) t29 rfl hm rfl rfl (by omega) h2, p7, Nat.zero_add, List.nil_append]
  rfl
theorem app_b7 {b6 : Blk} (hm : q.length = m) (h2 : m < 10000) : j5 cfg 54 (h ++ (b0 :: b1 :: b2 :: b3 :: b4 :: b5 :: b6 :: ⟨g, false, 54, 2, [], 0⟩ :: l)) (.own (h.length + 7) g 0 0) (.vec m (g6 q)) = some (.own (h.length + 7) (gP g m) 0 m, h ++ (b0 :: b1 :: b2 :: b3 :: b4 :: b5 :: b6 :: ⟨gP g m, false, 54, 2, g6 q, 0⟩ :: l)) := by
  rw [xP (β := h.length + 7) (g := g) (n := 0) (m := m) (a := []) (q := q) t29 rfl hm rfl rfl (by omega) h2, p7, Nat.zero_add, List.nil_append]
  rfl
theorem app_c6 {x0 y0 x1 y1 : Int} (hn : a.length = n) (h1 : n < 1000) : j5 cfg 54 (h ++ (b0 :: b1 :: b2 :: b3 :: b4 :: b5 :: ⟨g, false, 54, 2, g6 a, 0⟩ :: ⟨1, false, 54, 2, [.int .i64 x0, .int .i64 y0, .int .i64 x1, .int .i64 y1], 0⟩ :: l)) (.own (h.length + 6) g 0 n) (.own (h.length + 7) 1 0 2) = some (.own (h.length + 6) (g + 1) 0 (n + 2), h ++ (b0 :: b1 :: b2 :: b3 :: b4 :: b5 :: ⟨g + 1, false, 54, 2, g6 (a ++ [(x0, y0), (x1, y1)]), 0⟩ :: ⟨1, false, 54, 2, [.int .i64 x0, .int .i64 y0, .int .i64 x1, .int .i64 y1], 0⟩ :: l)) := by
  rw [xP (β := h.length + 6) (g := g) (n := n) (m := 2) (a := a) (q := [(x0, y0), (x1, y1)]) t29 hn rfl (OP (β := h.length + 7) (g := 1) (n := 2) (q := [(x0, y0), (x1, y1)]) t29 rfl) rfl (by omega) (by simp), p7]
  rfl
theorem app_c7 {b6 : Blk} {x0 y0 : Int} (hn : a.length = n) (h1 : n < 1000) : j5 cfg 54 (h ++ (b0 :: b1 :: b2 :: b3 :: b4 :: b5 :: b6 :: ⟨g, false, 54, 2, g6 a, 0⟩ :: ⟨1, false, 54, 2, [.int .i64 x0, .int .i64 y0], 0⟩ :: l)) (.own (h.length + 7) g 0 n) (.own (h.length + 8) 1 0 1) = some (.own (h.length + 7) (g + 1) 0 (n + 1), h ++ (b0 :: b1 :: b2 :: b3 :: b4 :: b5 :: b6 :: ⟨g + 1, false, 54, 2, g6 (a ++ [(x0, y0)]), 0⟩ :: ⟨1, false, 54, 2, [.int .i64 x0, .int .i64 y0], 0⟩ :: l)) := by
  rw [xP (β := h.length + 7) (g := g) (n := n) (m := 1) (a := a) (q := [(x0, y0)]) t29 hn rfl (OP (β := h.length + 8) (g := 1) (n := 1) (q := [(x0, y0)]) t29 rfl) rfl (by omega) (by simp), p7]
  rfl
theorem app_co {b7 b8 : Blk} {T : List Cf} {dd : Int} {g0 k : Nat} (hn : T.length = n) (hl : n < 1000) : j5 cfg 46 (h ++ (b0 :: b1 :: b2 :: b3 :: b4 :: b5 :: n9 46 2 g (j0 T) :: b7 :: b8 :: ⟨0, false, 46, 2, [.int .i64 dd, .own (h.length + 7) g0 0 k], 0⟩ :: l)) (.own (h.length + 6) g 0 n) (.own (h.length + 9) 0 0 1) = some (.own (h.length + 6) (g + 1) 0 (n + 1), h ++ (b0 :: b1 :: b2 :: b3 :: b4 :: b5 :: ⟨g + 1, false, 46, 2, j0 T ++ [.int .i64 dd, .own (h.length + 7) g0 0 k], 0⟩ :: b7 :: b8 :: ⟨0, false, 46, 2, [.int .i64 dd, .own (h.length + 7) g0 0 k], 0⟩ :: l)) := by
  subst hn
  rw [v7 (C := cfg) (K := 2) (m := 1) (new := [.int .i64 dd, .own (h.length + 7) g0 0 k]) (zs := j0 T) t29 rfl (by omega) t167 rfl (by omega) t132 rfl (by decide) (by omega), p7, eF (zs := j0 T ++ [AV.int .i64 dd, AV.own (h.length + 7) g0 0 k]) (by simp)]
  rfl
theorem ME {k : Nat} {T : List Cf} {dd : Int} {st : List (Int × Int)} (hk : st.length = k) : (⟨g, false, 46, 2, j0 T ++ [.int .i64 dd, .vec k (g6 st)], 0⟩ : Blk) = n9 46 2 g (j0 (T ++ [⟨dd, st⟩])) := by
  subst hk
  rw [eF (by simp [j0, uA])]
  simp [j0, uA]
theorem g5.seenCf {c : Code} {sl : List AV} {H : c6} {Q : Exit → St → Prop} {β γ g g0 k : Nat} {T : List Cf} {dd : Int} {st : List (Int × Int)} (hβ : H[β]? = some ⟨g, false, 46, 2, j0 T ++ [.int .i64 dd, .own γ g0 0 k], 0⟩) (hγ : H[γ]? = some ⟨g0, false, 54, 2, g6 st, 0⟩) (hk : st.length = k) (hne : β ≠ γ)
    (r : g5 Tryz.prog cfg c ⟨sl, (H.set γ ⟨g0, false, 54, 2, g6 st, k * 2⟩).set β (n9 46 2 g (j0 (T ++ [⟨dd, st⟩])))⟩ Q) : g5 Tryz.prog cfg c ⟨sl, H⟩ Q := by
  subst hk
  have hl : st.length * 2 ≤ (g6 st).length := by rw [p8]; omega
  refine g5.C2 (γ := γ) (β := β) (k := (j0 T).length + 1) (off := 0) (len := st.length) (cs := g6 st) hγ rfl t169 ?_ hβ hne (by simp) ?_
  · show p6 nL (List.take (st.length * 2) (List.drop 0 (g6 st))) = _
    rw [List.drop_zero, List.take_of_length_le t148]
    exact (xM st).MV
  · have e1 : cU ⟨g0, false, 54, 2, g6 st, 0⟩ (0 + st.length * 2) = ⟨g0, false, 54, 2, g6 st, st.length * 2⟩ := by
      simp only [cU, Nat.zero_add, Nat.zero_max]
    have e2 : (j0 T ++ [AV.int .i64 dd, AV.own γ g0 0 st.length]).set ((j0 T).length + 1) (.vec st.length (g6 st)) = j0 T ++ [AV.int .i64 dd, .vec st.length (g6 st)] := by simp
    show g5 Tryz.prog cfg c ⟨sl, (H.set γ (cU ⟨g0, false, 54, 2, g6 st, 0⟩ (0 + st.length * 2))).set β ⟨g, false, 46, 2, (j0 T ++ [AV.int .i64 dd, AV.own γ g0 0 st.length]).set ((j0 T).length + 1) (.vec st.length (g6 st)), 0⟩⟩ Q
    rw [e1, e2, ME (k := st.length) (st := st) rfl]
    exact r
attribute [local go_sem] rd p8 aD iY kE LR Int.natCast_nonneg Int.natCast_inj Int.toNat_natCast_add_one iB wrap64 oR max2 V3 n6 iD Option.bind_eq_bind O6 O5 Nat.sub_zero aJ cB z9 s3 iO iP fV oN mB oO xO Nat.add_sub_cancel List.length_take app_b6 app_b7 app_c6 app_c7 app_co EX mD
variable {u : Un} {c : Clo} {mx d i pc : Nat} {b : List (Int × Int)}
theorem EY (hu : WU u) (wc : WC u c) (hmx : mx < u.c4.length) (hd : d ≤ gS (u.c4.getD mx u5)) (hb : b.length < 1000) (hi : i < c.insts.length) (hpc : pc < (c9 u (c.insts.getD i c7)).length) (h8 : ((c9 u (c.insts.getD i c7)).getD pc g7).op = 8) : CB 19 [.agg [.vec u.globals.length (j7 u.globals), .vec u.c4.length (g9 u.c4), .vec u.procs.length (l5 u.procs), .int .i64 u.main], .agg [.vec c.insts.length (l8 c.insts), .vec c.calls.length (n4 c.calls), .vec c.roots.length (j7 c.roots)], .int .i64 ((mx : Nat) : Int), .agg [.int .i64 ((d : Nat) : Int), .vec (b.length + 1) (g6 (b ++ [((i : Int), (pc : Int))]))]] h (.vec (eE u c mx (d : Int) b ((i : Int), (pc : Int))).length (j0 (eE u c mx (d : Int) b ((i : Int), (pc : Int))))) := by
  refine .bz Tryz.f19 139 ?_
  have w : WIt u (c.insts.getD i c7) := wc.wi _ (l3 hi)
  have w1 := w.lo
  have w2 := w.hi
  have hsz : (c9 u (c.insts.getD i c7)).length ≤ 1664 := u0 hu w
  have hwl := wc.len
  have hwc := wc.cl
  have hwr := wc.cll i hi
  have hml := hu.ml
  have hcp := gE (m := (u.c4.getD mx u5))
  have hnl := eN (x := ((c9 u (c.insts.getD i c7)).getD pc g7)) (pc := pc)
  have hch := pO (it := (c.insts.getD i c7)) (x := ((c9 u (c.insts.getD i c7)).getD pc g7)) (m := (mx : Int))
  refine c165z ?_
  refine c119z ?_
  intro e1 qe1
  refine .sk ?_
  refine c60z ?_
  refine c174z ?_
  refine .z ?_
  refine c45z ?_
  refine cD.nil t5 ?_
  refine c166z ?_
  refine .z ?_
  refine uTbz ?_
  intro e2 qe2
  refine .c8 [7, 11] ?_
  refine .sm u4 (mkP 8 [0, 1, 0, 0, 12, 31, 63, 127] [2, 4, 6]) [0, 1, 3] ?_
  refine cD.p (pd := []) 8 ?_
  refine cD.nil t5 ?_
  refine c2z ?_
  exact ⟨_, _, rfl, ET (a := b) t29 t29 (by omega) (by omega) rfl, by (rw [EU h8]; rfl)⟩
theorem EZ (hu : WU u) (wc : WC u c) (hmx : mx < u.c4.length) (hd : d ≤ gS (u.c4.getD mx u5)) (hb : b.length < 1000) (hi : i < c.insts.length) (hpc : pc < (c9 u (c.insts.getD i c7)).length) (h2 : ((c9 u (c.insts.getD i c7)).getD pc g7).op = 2) : CB 19 [.agg [.vec u.globals.length (j7 u.globals), .vec u.c4.length (g9 u.c4), .vec u.procs.length (l5 u.procs), .int .i64 u.main], .agg [.vec c.insts.length (l8 c.insts), .vec c.calls.length (n4 c.calls), .vec c.roots.length (j7 c.roots)], .int .i64 ((mx : Nat) : Int), .agg [.int .i64 ((d : Nat) : Int), .vec (b.length + 1) (g6 (b ++ [((i : Int), (pc : Int))]))]] h (.vec (eE u c mx (d : Int) b ((i : Int), (pc : Int))).length (j0 (eE u c mx (d : Int) b ((i : Int), (pc : Int))))) := by
  refine .bz Tryz.f19 139 ?_
  have w : WIt u (c.insts.getD i c7) := wc.wi _ (l3 hi)
  have w1 := w.lo
  have w2 := w.hi
  have hsz : (c9 u (c.insts.getD i c7)).length ≤ 1664 := u0 hu w
  have hwl := wc.len
  have hwc := wc.cl
  have hwr := wc.cll i hi
  have hml := hu.ml
  have hcp := gE (m := (u.c4.getD mx u5))
  have hnl := eN (x := ((c9 u (c.insts.getD i c7)).getD pc g7)) (pc := pc)
  have hch := pO (it := (c.insts.getD i c7)) (x := ((c9 u (c.insts.getD i c7)).getD pc g7)) (m := (mx : Int))
  refine c165z ?_
  refine c119z ?_
  intro e1 qe1
  refine .sk ?_
  refine c60z ?_
  refine c174z ?_
  refine .z ?_
  refine c45z ?_
  refine cD.nil t5 ?_
  refine c166z ?_
  refine c119z ?_
  intro e2 qe2
  refine .sk ?_
  refine c0z ?_
  refine uTbz ?_
  intro e3 qe3
  refine .c8 [5, 7, 10, 11] ?_
  refine .sg u4 (mkH 27 [0, 1, 0, 0, 12, 0, 32, 0, 128, 384, 992, 0, 2048, 0, 8192, 30720, 63488, 0, 131072, 522240, 1046528, 2095104, 4194272, 8388604, 16777215, 33554431, 67108863] [2, 4, 22, 23, 25] [(2, 0), (22, 1)] [0, 4, 20, 4194304, 4194308, 4194324, 12582932, 46137364] [0, 1, 2, 3, 4]) 2 ?_
  refine c33z ?_
  refine .em [true] [4, 0] [_] ?_
  refine .p 1 ?_
  refine .em [true, false] [20, 4, 0] [_] ?_
  refine c96z ?_
  refine c96z ?_
  refine .p 3 ?_
  refine .rn [true, true, true] ?_
  refine c96z ?_
  refine c96z ?_
  refine c96z ?_
  refine c96z ?_
  refine .p 1 ?_
  refine .en [true, true, true] [4194324, 4194308, 4194304, 20, 4, 0] [_, _, _] ?_
  refine .en [true, false, false, false, false, false] [12582932, 4194324, 4194308, 4194304, 20, 4, 0] [_] ?_
  refine .p 1 ?_
  refine .en [true, false, false, false, false, false, false] [46137364, 12582932, 4194324, 4194308, 4194304, 20, 4, 0] [_] ?_
  refine .p 1 ?_
  refine c64z ?_
  refine .po [false, true, true, true, true, true, true, true] ?_
  refine u9.nil rfl ?_
  refine c2z ?_
  exact ⟨_, _, rfl, ET (a := b ++ [((i : Int), (pc : Int) + 1), ((c.calls.getD i []).getD pc 0, 0)]) t29 t29 (by omega) (by omega) (by simp), by (rw [EV h2]; simp only [j0, uA, List.flatMap_cons, List.flatMap_nil, List.append_nil, List.length_append, List.length_cons, List.length_nil])⟩
theorem FA (hu : WU u) (wc : WC u c) (hmx : mx < u.c4.length) (hd : d ≤ gS (u.c4.getD mx u5)) (hb : b.length < 1000) (hi : i < c.insts.length) (hpc : pc < (c9 u (c.insts.getD i c7)).length) (h8 : ¬ ((c9 u (c.insts.getD i c7)).getD pc g7).op = 8) (h2 : ¬ ((c9 u (c.insts.getD i c7)).getD pc g7).op = 2) (hr : ¬ (0 ≤ (d : Int) + chI (c.insts.getD i c7) ((c9 u (c.insts.getD i c7)).getD pc g7) (mx : Int) ∧ (d : Int) + chI (c.insts.getD i c7) ((c9 u (c.insts.getD i c7)).getD pc g7) (mx : Int) ≤ (gS (u.c4.getD mx u5) : Int))) : CB 19 [.agg [.vec u.globals.length (j7 u.globals), .vec u.c4.length (g9 u.c4), .vec u.procs.length (l5 u.procs), .int .i64 u.main], .agg [.vec c.insts.length (l8 c.insts), .vec c.calls.length (n4 c.calls), .vec c.roots.length (j7 c.roots)], .int .i64 ((mx : Nat) : Int), .agg [.int .i64 ((d : Nat) : Int), .vec (b.length + 1) (g6 (b ++ [((i : Int), (pc : Int))]))]] h (.vec (eE u c mx (d : Int) b ((i : Int), (pc : Int))).length (j0 (eE u c mx (d : Int) b ((i : Int), (pc : Int))))) := by
  refine .bz Tryz.f19 139 ?_
  have w : WIt u (c.insts.getD i c7) := wc.wi _ (l3 hi)
  have w1 := w.lo
  have w2 := w.hi
  have hsz : (c9 u (c.insts.getD i c7)).length ≤ 1664 := u0 hu w
  have hwl := wc.len
  have hwc := wc.cl
  have hwr := wc.cll i hi
  have hml := hu.ml
  have hcp := gE (m := (u.c4.getD mx u5))
  have hnl := eN (x := ((c9 u (c.insts.getD i c7)).getD pc g7)) (pc := pc)
  have hch := pO (it := (c.insts.getD i c7)) (x := ((c9 u (c.insts.getD i c7)).getD pc g7)) (m := (mx : Int))
  refine c165z ?_
  refine c119z ?_
  intro e1 qe1
  refine .sk ?_
  refine c60z ?_
  refine c174z ?_
  refine .z ?_
  refine c45z ?_
  refine cD.nil t5 ?_
  refine c166z ?_
  refine c119z ?_
  intro e2 qe2
  refine .sk ?_
  refine c0z ?_
  refine uFbz ?_
  intro e3 qe3
  refine .sk ?_
  refine .c8 [2, 4, 7, 10, 11, 12] ?_
  refine .ss u4 (mkP 10 [0, 1, 0, 0, 0, 16, 0, 124, 255, 511] []) ?_
  refine .k 7 [] ?_
  refine .ca rfl rfl (zY hu w hpc _) ?_
  refine .n [] ?_
  refine .seq ?_
  refine .c8 [2, 4, 10, 11, 12, 14] ?_
  refine c20z ?_
  refine .spl 100 rfl rfl (fun e4 => ?_) (fun e4 => ?_)
  ·try simp only [e4]
   have qe4 := fact e4
   refine .k 8 [(2, 100)] ?_
   refine .n ?_
   refine c240z ?_
   exact .ret (.ex (hq := by (rw [F6 h8 h2 hr]; rfl)))
  try simp only [e4]
  have qe4 := fact e4
  refine .k 6 [(2, 100)] ?_
  refine .ca rfl rfl (OB (u.c4.getD mx u5)) ?_
  refine .m [(2, 100)] ?_
  refine uTbz ?_
  intro e5 qe5
  refine c14z ?_
  exact .ret (.ex (hq := by (rw [F6 h8 h2 hr]; rfl)))
theorem FB (hu : WU u) (wc : WC u c) (hmx : mx < u.c4.length) (hd : d ≤ gS (u.c4.getD mx u5)) (hb : b.length < 1000) (hi : i < c.insts.length) (hpc : pc < (c9 u (c.insts.getD i c7)).length) (h8 : ¬ ((c9 u (c.insts.getD i c7)).getD pc g7).op = 8) (h2 : ¬ ((c9 u (c.insts.getD i c7)).getD pc g7).op = 2) (hr : 0 ≤ (d : Int) + chI (c.insts.getD i c7) ((c9 u (c.insts.getD i c7)).getD pc g7) (mx : Int) ∧ (d : Int) + chI (c.insts.getD i c7) ((c9 u (c.insts.getD i c7)).getD pc g7) (mx : Int) ≤ (gS (u.c4.getD mx u5) : Int)) : CB 19 [.agg [.vec u.globals.length (j7 u.globals), .vec u.c4.length (g9 u.c4), .vec u.procs.length (l5 u.procs), .int .i64 u.main], .agg [.vec c.insts.length (l8 c.insts), .vec c.calls.length (n4 c.calls), .vec c.roots.length (j7 c.roots)], .int .i64 ((mx : Nat) : Int), .agg [.int .i64 ((d : Nat) : Int), .vec (b.length + 1) (g6 (b ++ [((i : Int), (pc : Int))]))]] h (.vec (eE u c mx (d : Int) b ((i : Int), (pc : Int))).length (j0 (eE u c mx (d : Int) b ((i : Int), (pc : Int))))) := by
  refine .bz Tryz.f19 139 ?_
  have w : WIt u (c.insts.getD i c7) := wc.wi _ (l3 hi)
  have w1 := w.lo
  have w2 := w.hi
  have hsz : (c9 u (c.insts.getD i c7)).length ≤ 1664 := u0 hu w
  have hwl := wc.len
  have hwc := wc.cl
  have hwr := wc.cll i hi
  have hml := hu.ml
  have hcp := gE (m := (u.c4.getD mx u5))
  have hnl := eN (x := ((c9 u (c.insts.getD i c7)).getD pc g7)) (pc := pc)
  have hch := pO (it := (c.insts.getD i c7)) (x := ((c9 u (c.insts.getD i c7)).getD pc g7)) (m := (mx : Int))
  refine c165z ?_
  refine c119z ?_
  intro e1 qe1
  refine .sk ?_
  refine c60z ?_
  refine c174z ?_
  refine .z ?_
  refine c45z ?_
  refine cD.nil t5 ?_
  refine c166z ?_
  refine c119z ?_
  intro e2 qe2
  refine .sk ?_
  refine c0z ?_
  refine uFbz ?_
  intro e3 qe3
  refine .sk ?_
  refine .c8 [2, 4, 7, 10, 11, 12] ?_
  refine .ss u4 (mkP 10 [0, 1, 0, 0, 0, 16, 0, 124, 255, 511] []) ?_
  refine .k 7 [] ?_
  refine .ca rfl rfl (zY hu w hpc _) ?_
  refine .n [] ?_
  refine .seq ?_
  refine .c8 [2, 4, 10, 11, 12, 14] ?_
  refine c20z ?_
  refine .spl 100 rfl rfl (fun e4 => by exfalso; have q := fact e4; omega) (fun e4 => ?_)
  try simp only [e4]
  have qe4 := fact e4
  refine .k 6 [(2, 100)] ?_
  refine .ca rfl rfl (OB (u.c4.getD mx u5)) ?_
  refine .m [(2, 100)] ?_
  refine uFbz ?_
  intro e5 qe5
  refine .sk ?_
  refine .c8 [4, 10, 11, 12, 14] ?_
  refine c32z ?_
  refine .e 4 ?_
  refine .ca rfl rfl (c_nextR hu w hpc) ?_
  refine .n ?_
  refine c5z ?_
  refine g5.sK 15 rfl ?_
  refine .aG (fun m st => ∃ (j : Nat), (m = (cA ((c9 u (c.insts.getD i c7)).getD pc g7) pc).length - j ∧ (j ≤ (cA ((c9 u (c.insts.getD i c7)).getD pc g7) pc).length)) ∧ st = ⟨mkS 139 [(10, AV.ptr (h.length + 3) 0 0), (11, AV.vec b.length (g6 b)), (14, AV.int .i64 ((d : Int) + chI (c.insts.getD i c7) ((c9 u (c.insts.getD i c7)).getD pc g7) (mx : Int))), (15, AV.own (h.length + 6) j 0 j), (16, AV.vec (cA ((c9 u (c.insts.getD i c7)).getD pc g7) pc).length (j7 (cA ((c9 u (c.insts.getD i c7)).getD pc g7) pc))), (17, AV.int .i64 ((j : Nat) : Int))], h ++ [⟨0, false, 30, 4, [.vec u.globals.length (j7 u.globals), .vec u.c4.length (g9 u.c4), .vec u.procs.length (l5 u.procs), .int .i64 u.main], 0⟩, ⟨0, false, 34, 3, [.vec c.insts.length (l8 c.insts), .vec c.calls.length (n4 c.calls), .vec c.roots.length (j7 c.roots)], 0⟩, ⟨0, false, 46, 2, [.int .i64 ((d : Nat) : Int), .vec (b.length + 1) (g6 (b ++ [((i : Int), (pc : Int))]))], 0⟩, ⟨0, false, 54, 2, [.int .i64 ((i : Nat) : Int), .int .i64 ((pc : Nat) : Int)], 0⟩, ⟨0, false, 67, 2, [.int .i64 (c.insts.getD i c7).proc, .vec (c.insts.getD i c7).l7.length (j7 (c.insts.getD i c7).l7)], 0⟩, ⟨0, false, 62, 12, [.int .i64 ((c9 u (c.insts.getD i c7)).getD pc g7).op, .int .i64 ((c9 u (c.insts.getD i c7)).getD pc g7).target, .bool ((c9 u (c.insts.getD i c7)).getD pc g7).global, .int .i64 ((c9 u (c.insts.getD i c7)).getD pc g7).e.op, .int .i64 ((c9 u (c.insts.getD i c7)).getD pc g7).e.num, .str ((c9 u (c.insts.getD i c7)).getD pc g7).e.name, .vec ((c9 u (c.insts.getD i c7)).getD pc g7).e.args.length (n5 ((c9 u (c.insts.getD i c7)).getD pc g7).e.args), .bool ((c9 u (c.insts.getD i c7)).getD pc g7).pl.param, .int .i64 ((c9 u (c.insts.getD i c7)).getD pc g7).pl.index, .vec ((c9 u (c.insts.getD i c7)).getD pc g7).pl.at'.length (n5 ((c9 u (c.insts.getD i c7)).getD pc g7).pl.at'), .vec ((c9 u (c.insts.getD i c7)).getD pc g7).ints.length (n5 ((c9 u (c.insts.getD i c7)).getD pc g7).ints), .vec ((c9 u (c.insts.getD i c7)).getD pc g7).v9.length (cO ((c9 u (c.insts.getD i c7)).getD pc g7).v9)], 0⟩, n9 46 2 j (j0 (FT u c mx d b i pc j))]⟩) (.v ⟨0, ⟨rfl, by omega⟩, rfl⟩ (hs := t21)) ?_
  rintro m sl h' ⟨j, ⟨hm, hj⟩, hst⟩
  obtain ⟨rfl, rfl⟩ := St.mk.inj hst; clear hst
  have hol := mG (u := u) (c := c) (m := mx) (d := d) (b := b) (i := i) (pc := pc) (j := j) hj
  refine c0z ?_
  refine u2z ?_ ?_
  ·intro e6 qe6
   refine c3z ?_
   refine .og u4 (mkH 18 [0, 0, 0, 0, 12, 0, 32, 0, 0, 384, 896, 2016, 4064, 8188, 16382, 32766, 65535, 131071] [2, 4, 12, 13, 15, 16] [(2, 0), (12, 1)] [0, 4, 20, 4096, 4100, 4116, 12308, 45076, 110612] [0, 1, 2, 3, 4]) 2 ?_
   refine .p 2 ?_
   refine .em [true] [4, 0] [_] ?_
   refine .p 1 ?_
   refine .em [true, false] [20, 4, 0] [_] ?_
   refine c96z ?_
   refine .p 3 ?_
   refine .rn [true, true, true] ?_
   refine .p 1 ?_
   refine .en [true, true, true] [4116, 4100, 4096, 20, 4, 0] [_, _, _] ?_
   refine .en [true, false, false, false, false, false] [12308, 4116, 4100, 4096, 20, 4, 0] [_] ?_
   refine .p 1 ?_
   refine .en [true, false, false, false, false, false, false] [45076, 12308, 4116, 4100, 4096, 20, 4, 0] [_] ?_
   refine .en [true, false, false, false, false, false, false, false] [110612, 45076, 12308, 4116, 4100, 4096, 20, 4, 0] [_] ?_
   refine .p 1 ?_
   refine .po [false, false, false, false, true, false, false, true, false] ?_
   refine .po [false, false, false, false, false, true, false, false, true] ?_
   refine u9.nil rfl ?_
   change g5 ..
   refine .c8 [10, 11, 14, 15, 16, 17] ?_
   refine g5.seenCf (β := h.length + 6) (γ := h.length + 7) (T := (FT u c mx d b i pc j)) t29 t29 (by simp) (by omega) ?_
   rw [p7, p7]; simp only [List.set_cons_succ, List.set_cons_zero]
   refine .rz ?_
   exact ⟨_, by omega, .v ⟨(j + 1), ⟨rfl, by omega⟩, rfl⟩ (he := t155) (hk := by exact (z5.refl _).app rfl ⟨.inl rfl, .inl rfl, .inl rfl, .inl rfl, .inl rfl, .inl rfl, .inr t102, trivial⟩) (hs := t21)⟩
  intro e6 qe6
  refine c8z ?_
  refine .c8 [15] ?_
  refine c34z ?_
  exact ⟨_, _, rfl, nA t29 (by omega) (mG hj), t177⟩
theorem MF (hu : WU u) (wc : WC u c) (hmx : mx < u.c4.length) (hd : d ≤ gS (u.c4.getD mx u5)) (hb : b.length < 1000) (hi : i < c.insts.length) (hpc : pc < (c9 u (c.insts.getD i c7)).length) : CB 19 [.agg [.vec u.globals.length (j7 u.globals), .vec u.c4.length (g9 u.c4), .vec u.procs.length (l5 u.procs), .int .i64 u.main], .agg [.vec c.insts.length (l8 c.insts), .vec c.calls.length (n4 c.calls), .vec c.roots.length (j7 c.roots)], .int .i64 ((mx : Nat) : Int), .agg [.int .i64 ((d : Nat) : Int), .vec (b.length + 1) (g6 (b ++ [((i : Int), (pc : Int))]))]] h (.vec (eE u c mx (d : Int) b ((i : Int), (pc : Int))).length (j0 (eE u c mx (d : Int) b ((i : Int), (pc : Int))))) := by
  by_cases h8 : ((c9 u (c.insts.getD i c7)).getD pc g7).op = 8
  · exact EY hu wc hmx hd hb hi hpc h8
  by_cases h2 : ((c9 u (c.insts.getD i c7)).getD pc g7).op = 2
  · exact EZ hu wc hmx hd hb hi hpc h2
  by_cases hr : 0 ≤ (d : Int) + chI (c.insts.getD i c7) ((c9 u (c.insts.getD i c7)).getD pc g7) (mx : Int) ∧ (d : Int) + chI (c.insts.getD i c7) ((c9 u (c.insts.getD i c7)).getD pc g7) (mx : Int) ≤ (gS (u.c4.getD mx u5) : Int)
  · exact FB hu wc hmx hd hb hi hpc h8 h2 hr
  · exact FA hu wc hmx hd hb hi hpc h8 h2 hr
end Go.Proofs.YtapdldekgbbomaaGreat
end
section
namespace Go.Proofs.YtapdldekgbbomaaGreat
open Go.Ab Go.Un
attribute [local go_sem] rd p8 aD iY kE LR Int.natCast_nonneg Int.natCast_inj Int.toNat_natCast_add_one iB wrap64 oR max2 V3 n6 iD Option.bind_eq_bind
variable {h : c6} {u : Un} {c : Clo} {mx : Nat}
theorem FC (d : Int) : CB 19 [.agg [.vec u.globals.length (j7 u.globals), .vec u.c4.length (g9 u.c4), .vec u.procs.length (l5 u.procs), .int .i64 u.main], .agg [.vec c.insts.length (l8 c.insts), .vec c.calls.length (n4 c.calls), .vec c.roots.length (j7 c.roots)], .int .i64 ((mx : Nat) : Int), .agg [.int .i64 d, .vec 0 []]] h (.vec 0 []) := by
 refine .bz Tryz.f19 139 ?_
 refine c165z ?_
 refine c107z ?_
 refine .z ?_
 exact .ret (.ex (hq := by rfl))
theorem FD (d : Int) : CB 26 [.agg [.vec u.globals.length (j7 u.globals), .vec u.c4.length (g9 u.c4), .vec u.procs.length (l5 u.procs), .int .i64 u.main, .vec c.insts.length (l8 c.insts), .vec c.calls.length (n4 c.calls), .vec c.roots.length (j7 c.roots), .int .i64 ((mx : Nat) : Int)], .agg [.int .i64 d, .vec 0 []]] h (.vec 0 []) := by
 refine .bz Tryz.f26 124 ?_
 refine c59z ?_
 refine c240z ?_
 exact .ret (.ex (hq := by rfl))
theorem FE {n : Nat} {x : Cf} (h : WCf u c mx n x) (hp : 0 < x.st.length) : ∃ (d i pc : Nat) (b : List (Int × Int)), x = ⟨(d : Int), b ++ [((i : Int), (pc : Int))]⟩ ∧ d ≤ gS (u.c4.getD mx u5) ∧ i < c.insts.length ∧ pc < (c9 u (c.insts.getD i c7)).length ∧ b.length + 1 ≤ n := by
 obtain ⟨b, i, pc, he, hi, hpc, hl⟩ := h.snoc hp
 have h0 := h.d0; have h1 := h.d1; have h2 := h.len
 exact ⟨x.d.toNat, i, pc, b, by rw [Int.toNat_of_nonneg h0]; exact he, by omega, hi, hpc, by omega⟩
theorem A2 (hu : WU u) (wc : WC u c) (hmx : mx < u.c4.length) {n : Nat} (hn : n ≤ 500) {x : Cf} (w : WCf u c mx n x) : CB 19 [.agg [.vec u.globals.length (j7 u.globals), .vec u.c4.length (g9 u.c4), .vec u.procs.length (l5 u.procs), .int .i64 u.main], .agg [.vec c.insts.length (l8 c.insts), .vec c.calls.length (n4 c.calls), .vec c.roots.length (j7 c.roots)], .int .i64 ((mx : Nat) : Int), .agg [.int .i64 x.d, .vec x.st.length (g6 x.st)]] h (.vec (o4 u c mx x).length (j0 (o4 u c mx x))) := by
 by_cases hp : 0 < x.st.length
 ·obtain ⟨d, i, pc, b, rfl, hd, hi, hpc, hb⟩ := FE w hp
  rw [mY, List.length_append]
  exact MF hu wc hmx hd (by omega) hi hpc
 ·obtain ⟨d, st⟩ := x
  obtain rfl : st = [] := List.length_eq_zero_iff.1 (by simp only at hp; omega)
  exact FC d
attribute [local go_sem] rd p8 aD iY kE LR Int.natCast_nonneg Int.natCast_inj Int.toNat_natCast_add_one iB wrap64 oR max2 V3 n6 iD Option.bind_eq_bind HN iD
theorem tP (wc : WC u c) : c.roots.length ≤ 64 := by
 have h := wQ (fun _ => 1) (l := c.roots) (u := (List.range c.insts.length).map fun i : Nat => (i : Int)) (wc.rs.imp fun h e => by omega) fun r hr => by
  have := wc.rr r hr
  exact List.mem_map.2 ⟨r.toNat, List.mem_range.2 (by omega), by omega⟩
 have one : ∀ l : List Int, (l.map fun _ => 1).sum = l.length := fun l => by induction l with
  | nil => rfl
  | cons x l ih => simp only [List.map_cons, List.sum_cons, List.length_cons, ih]; omega
 rw [one, one, List.length_map, List.length_range] at h
 have := wc.len
 omega
end Go.Proofs.YtapdldekgbbomaaGreat
end
section
namespace Go.Un
open Go.Ab
def rL (w : Nat) (f : List Cf) (x : Cf) : List Cf := if f.length < w ∧ x ∉ f then f ++ [x] else f
def o3 (w : Nat) (f l : List Cf) : List Cf := l.foldl (rL w) f
variable {w : Nat} {f : List Cf} {x : Cf}
theorem MG (h : f.length ≤ w) : f.length ≤ (rL w f x).length ∧ (rL w f x).length ≤ w := by
 unfold rL
 split
 ·rename_i h1; rw [List.length_append]; simp only [List.length_cons, List.length_nil]; omega
 ·omega
theorem A3 (h : f.length = w) : rL w f x = f := by rw [rL, if_neg (by omega)]
theorem O7 (h : x ∈ f) : rL w f x = f := by rw [rL, if_neg (fun h1 => h1.2 h)]
theorem xQ (h : f.length < w) (h2 : x ∉ f) : rL w f x = f ++ [x] := by rw [rL, if_pos ⟨h, h2⟩]
theorem MH {y : Cf} (h : y ∈ rL w f x) : y ∈ f ∨ y = x := by
 unfold rL at h
 split at h
 ·simpa using h
 ·exact .inl h
theorem fW {w : Nat} : ∀ {l f : List Cf}, f.length ≤ w → f.length ≤ (o3 w f l).length ∧ (o3 w f l).length ≤ w
 | [], f, h => ⟨Nat.le_refl _, h⟩
 | x :: l, f, h => by
  have h1 := MG (x := x) h
  have h2 := fW (l := l) h1.2
  exact ⟨Nat.le_trans h1.1 h2.1, h2.2⟩
theorem pQ {w : Nat} : ∀ {l f : List Cf}, f.length = w → o3 w f l = f
 | [], f, _ => rfl
 | x :: l, f, h => by
  show o3 w (rL w f x) l = f
  rw [A3 h, pQ h]
theorem A4 {w : Nat} : ∀ {l f : List Cf} {y : Cf}, y ∈ o3 w f l → y ∈ f ∨ y ∈ l
 | [], f, y, h => .inl h
 | x :: l, f, y, h => by
  rcases A4 (l := l) h with h | h
  ·rcases MH h with h | h
   ·exact .inl h
   ·exact .inr (by simp [h])
  ·exact .inr (by simp [h])
theorem hC {k : Nat} {l : List Cf} (hk : k < l.length) : o3 w f (l.take (k + 1)) = rL w (o3 w f (l.take k)) (l.getD k aR) := by
 unfold o3
 rw [List.take_add_one, List.getElem?_eq_getElem hk, List.foldl_append]
 simp [List.getD, hk]
theorem A5 {w : Nat} : ∀ {l f : List Cf} {i : Nat}, i < f.length → (o3 w f l).getD i aR = f.getD i aR
 | [], f, i, h => rfl
 | x :: l, f, i, h => by
  show (o3 w (rL w f x) l).getD i aR = f.getD i aR
  have e : (rL w f x).getD i aR = f.getD i aR ∧ i < (rL w f x).length := by
   unfold rL
   split
   ·exact ⟨by simp [List.getD, List.getElem?_append_left h], by rw [List.length_append]; omega⟩
   ·exact ⟨rfl, h⟩
  rw [A5 e.2, e.1]
def goC (u : Un) (c : Clo) (m w : Nat) : Nat → Nat → List Cf → List Cf
 | 0, _, f => f
 | k + 1, i, f => goC u c m w k (i + 1) (o3 w f (o4 u c m (f.getD i aR)))
theorem xR {u : Un} {c : Clo} {m w : Nat} : ∀ {k i : Nat} {f : List Cf}, f.length = w → goC u c m w k i f = f
 | 0, _, _, _ => rfl
 | k + 1, i, f, h => by
  show goC u c m w k (i + 1) (o3 w f (o4 u c m (f.getD i aR))) = f
  rw [pQ h, xR h]
def VS (u : Un) (c : Clo) (m w : Nat) : Nat → Nat → List Cf → List Cf
 | 0, _, f => f
 | r + 1, i, f => VS u c m w r f.length (goC u c m w (f.length - i) i f)
theorem A6 {u : Un} {c : Clo} {m w : Nat} : ∀ {r i : Nat} {f : List Cf}, f.length = w → VS u c m w r i f = f
 | 0, _, _, _ => rfl
 | r + 1, i, f, h => by
  show VS u c m w r f.length (goC u c m w (f.length - i) i f) = f
  rw [xR h, A6 h]
def uX (u : Un) (c : Clo) (m n : Nat) (f : List Cf) : Prop := ∀ x ∈ f, WCf u c m n x
variable {u : Un} {c : Clo} {m n : Nat}
theorem uX.mono {k : Nat} (h : uX u c m n f) (hk : n ≤ k) : uX u c m k f := fun x hx => (h x hx).mono hk
theorem uX.adds {l : List Cf} (h : uX u c m n f) (h2 : uX u c m n l) : uX u c m n (o3 w f l) := fun x hx => (A4 hx).elim (h x) (h2 x)
theorem uX.get {i : Nat} (h : uX u c m n f) (hi : i < f.length) : WCf u c m n (f.getD i aR) := h _ (l3 hi)
def mH (c : Clo) : List Cf := c.roots.map fun r => ⟨0, [(r, 0)]⟩
theorem MI (hu : WU u) (wc : WC u c) : uX u c m 1 (mH c) := fun x hx => by
 obtain ⟨r, hr, rfl⟩ := List.mem_map.1 hx
 exact LH hu wc hr
theorem V1 (wc : WC u c) : (mH c).Nodup := by
 unfold mH
 rw [List.nodup_iff_pairwise_ne, List.pairwise_map]
 refine wc.rs.imp fun h e => ?_
 simp only [Cf.mk.injEq, List.cons.injEq, Prod.mk.injEq] at e
 omega
theorem A7 {w : Nat} {l : List Cf} (hn : l.Nodup) : ∀ k, k ≤ l.length → o3 w [] (l.take k) = l.take (min k w)
 | 0, _ => by simp [o3]
 | k + 1, hk => by
  have ih := A7 (w := w) hn k (by omega)
  rw [hC (by omega), ih]
  by_cases hw : k < w
  ·rw [Nat.min_eq_left (by omega : k ≤ w), Nat.min_eq_left (by omega : k + 1 ≤ w), xQ (by rw [List.length_take]; omega)]
   ·rw [List.take_add_one, List.getElem?_eq_getElem (by omega)]
    simp [List.getD, show k < l.length from by omega]
   ·intro hm
    obtain ⟨j, hj, he⟩ := List.mem_iff_getElem.1 hm
    rw [List.length_take] at hj
    rw [List.getElem_take, List.getD_eq_getElem?_getD, List.getElem?_eq_getElem (by omega : k < l.length), Option.getD_some] at he
    have := (List.getElem_inj hn).1 he
    omega
  ·rw [Nat.min_eq_right (by omega : w ≤ k), Nat.min_eq_right (by omega : w ≤ k + 1), A3 (by rw [List.length_take]; omega)]
end Go.Un
end
section
namespace Go.Proofs.YtapdldekgbbomaaGreat
open Go.Ab Go.Un
variable {h R : c6} {b0 b1 b2 : Blk} {f : List Cf}
theorem app_v {xb : Blk} {d : Int} {st : List (Int × Int)} {n k : Nat} (hn : f.length = n) (hl : n < 1000) (hk : st.length = k) : j5 cfg 46 (h ++ (b0 :: b1 :: b2 :: n9 46 2 n (j0 f) :: (R ++ [xb, ⟨0, false, 46, 2, [.int .i64 d, .vec k (g6 st)], 0⟩]))) (.own (h.length + 3) n 0 n) (.own (h.length + (R.length + 1 + 1 + 1 + 1 + 1)) 0 0 1) = some (.own (h.length + 3) (n + 1) 0 (n + 1), h ++ (b0 :: b1 :: b2 :: n9 46 2 (n + 1) (j0 (f ++ [⟨d, st⟩])) :: (R ++ [xb, ⟨0, false, 46, 2, [.int .i64 d, .vec k (g6 st)], 0⟩]))) := by
  subst hn hk
  rw [v7 (C := cfg) (K := 2) (m := 1) (new := [.int .i64 d, .vec st.length (g6 st)]) (zs := j0 f) t29 rfl (by omega) t167 rfl (by omega) (by simp [rd, s8, dO]) rfl (by decide) (by omega), p7, show j0 f ++ [.int .i64 d, .vec st.length (g6 st)] = j0 (f ++ [⟨d, st⟩]) from by simp [j0, uA]]
  rfl
variable {x : Cf} {i : Nat}
theorem cf_ne (h : ∀ d, d < i → f.getD d aR ≠ x) (e : f.getD i aR ≠ x) : ∀ d, d < i + 1 → f.getD d aR ≠ x := fun d hd => by
  by_cases hdi : d = i
  · rw [hdi]; exact e
  · exact h d (by omega)
theorem cf_no (h : ∀ d, d < i → f.getD d aR ≠ x) (hi : f.length ≤ i) : x ∉ f := fun hm => by
  obtain ⟨j, hj, rfl⟩ := List.mem_iff_getElem.1 hm
  exact h j (by omega) (by simp [List.getD, hj])
variable {w j : Nat}
theorem jJ {l : List Cf} (h : (o3 w f (l.take j)).length = w) : o3 w f (l.take j) = o3 w f l := by
  have e : o3 w f l = o3 w (o3 w f (l.take j)) (l.drop j) := by
    unfold o3
    rw [← List.foldl_append, List.take_append_drop]
  rw [e, pQ h]
theorem lN {l : List Cf} (h : l.length ≤ j) : o3 w f (l.take j) = o3 w f l := by rw [List.take_of_length_le h]
attribute [local go_sem] rd p8 aD iY kE LR Int.natCast_nonneg Int.natCast_inj Int.toNat_natCast_add_one iB wrap64 oR max2 V3 n6 iD Option.bind_eq_bind app_v
theorem c_clo {b3 : Blk} (y : Cf) (hl : x.st.length < 1000000) : CB 43 [.agg [.int .i64 y.d, .vec y.st.length (g6 y.st)], .ptr (h.length + (R.length + 1 + 1 + 1 + 1)) 0 0] (h ++ (b0 :: b1 :: b2 :: b3 :: (R ++ [⟨0, false, 46, 2, [.int .i64 x.d, .vec x.st.length (g6 x.st)], 0⟩]))) (.bool (decide (x = y))) := by
  refine .bz Tryz.f43 7 ?_
  refine c223z ?_
  refine .ca rfl rfl (c_sameM hl) ?_
  refine .n ?_
  exact .ret (.ex (hq := by rfl))
variable {g : Nat}
theorem c_idxP (f : List Cf) (hf : f.length < 10000) (hl : x.st.length < 1000000) : CallA Tryz.prog cfg 70 [.own (h.length + 3) g 0 f.length, .fn (.func 43) [] [.ptr (h.length + (R.length + 1 + 1 + 1 + 1)) 0 0]] (h ++ (b0 :: b1 :: b2 :: ⟨g, false, 46, 2, j0 f, 0⟩ :: (R ++ [⟨0, false, 46, 2, [.int .i64 x.d, .vec x.st.length (g6 x.st)], 0⟩]))) (fun y' h' => (∃ k : Int, y' = .int .i64 k ∧ (0 ≤ k ↔ x ∈ f)) ∧ h' = (h ++ (b0 :: b1 :: b2 :: ⟨g, false, 46, 2, j0 f, 0⟩ :: (R ++ [⟨0, false, 46, 2, [.int .i64 x.d, .vec x.st.length (g6 x.st)], 0⟩])))) := by
  refine .bz Tryz.f70 19 ?_
  refine c21z ?_
  refine .fZ (fun m st => ∃ (i : Nat), (m = f.length - i ∧ ((∀ d, d < i → f.getD d aR ≠ x) ∧ i ≤ f.length)) ∧ st = ⟨mkS 19 [(0, AV.own (h.length + 3) g 0 f.length), (1, AV.fn (.func 43) [] [.ptr (h.length + (R.length + 1 + 1 + 1 + 1)) 0 0]), (7, AV.int .i64 ((f.length : Nat) : Int)), (8, AV.int .i64 ((i : Nat) : Int))], (h ++ (b0 :: b1 :: b2 :: ⟨g, false, 46, 2, j0 f, 0⟩ :: (R ++ [⟨0, false, 46, 2, [.int .i64 x.d, .vec x.st.length (g6 x.st)], 0⟩])))⟩) _ (.v ⟨0, ⟨rfl, ⟨t98, by omega⟩⟩, rfl⟩) ?_
  rintro m sl h' ⟨i, ⟨hm, ⟨hI, hi⟩⟩, hst⟩
  obtain ⟨rfl, rfl⟩ := St.mk.inj hst
  refine c12z ?_
  refine u2z ?_ ?_
  ·intro e1 qe1
   refine c201z ?_
   refine c26z ?_
   refine .ca rfl rfl (c_clo (f.getD i aR) hl) ?_
   refine .nil ?_
   refine u2z ?_ ?_
   ·intro e2 qe2
    refine .c8 [5] ?_
    refine .z ?_
    exact .ret (.ex (hq := t89))
   intro e2 qe2
   refine c4z ?_
   refine .c8 [0, 1, 7, 8] ?_
   refine .rz ?_
   exact ⟨_, by omega, .v ⟨(i + 1), ⟨rfl, ⟨cf_ne hI (fun e => by have e' := e.symm; simp_all), by omega⟩⟩, rfl⟩⟩
  intro e1 qe1
  refine c8z ?_
  refine .z ?_
  exact .ret (.ex (hq := t89))
theorem c_idx0 {b3 : Blk} : CB 70 [.own (h.length + 3) 0 0 0, .fn (.func 43) [] [.ptr (h.length + (R.length + 1 + 1 + 1 + 1)) 0 0]] (h ++ (b0 :: b1 :: b2 :: b3 :: (R ++ [⟨0, false, 46, 2, [.int .i64 x.d, .vec x.st.length (g6 x.st)], 0⟩]))) (.int .i64 (-1)) := by
  refine .bz Tryz.f70 19 ?_
  refine c21z ?_
  refine g5.rounds 2 ?_
  refine c69z ?_
  refine c31z ?_
  refine .z ?_
  exact .ret (.ex (hq := by rfl))
theorem c_idx (f : List Cf) (hf : f.length < 10000) (hl : x.st.length < 1000000) : CallA Tryz.prog cfg 70 [.own (h.length + 3) f.length 0 f.length, .fn (.func 43) [] [.ptr (h.length + (R.length + 1 + 1 + 1 + 1)) 0 0]] (h ++ (b0 :: b1 :: b2 :: n9 46 2 f.length (j0 f) :: (R ++ [⟨0, false, 46, 2, [.int .i64 x.d, .vec x.st.length (g6 x.st)], 0⟩]))) (fun y' h' => (∃ k : Int, y' = .int .i64 k ∧ (0 ≤ k ↔ x ∈ f)) ∧ h' = (h ++ (b0 :: b1 :: b2 :: n9 46 2 f.length (j0 f) :: (R ++ [⟨0, false, 46, 2, [.int .i64 x.d, .vec x.st.length (g6 x.st)], 0⟩])))) := by
  cases f with
  | nil => exact c_idx0.mono fun y k hq => ⟨⟨_, hq.1, ⟨fun h0 => absurd h0 (by decide), fun hx => by simp at hx⟩⟩, hq.2⟩
  | cons a f =>
    rw [eF (by simp [j0, uA])]
    exact c_idxP (a :: f) hf hl
theorem c_cont (f : List Cf) (hf : f.length < 10000) (hl : x.st.length < 1000000) : CB 42 [.own (h.length + 3) f.length 0 f.length, .fn (.func 43) [] [.ptr (h.length + (R.length + 1 + 1 + 1 + 1)) 0 0]] (h ++ (b0 :: b1 :: b2 :: n9 46 2 f.length (j0 f) :: (R ++ [⟨0, false, 46, 2, [.int .i64 x.d, .vec x.st.length (g6 x.st)], 0⟩]))) (.bool (decide (x ∈ f))) := by
  refine .bz Tryz.f42 9 ?_
  refine c223z ?_
  refine o1.cx rfl rfl hb70 (c_idx f hf hl) (fun y1 h1 hq1 => ?_)
  obtain ⟨⟨k, rfl, hk⟩, rfl⟩ := hq1
  refine .n ?_
  exact .ret (.ex (hq := by (exact congrArg AV.bool (decide_eq_decide.2 hk))))
variable {u : Un} {c : Clo} {mx : Nat}
theorem O8 (f f1 : List Cf) : z5 (h ++ (b0 :: b1 :: ⟨0, false, 83, 10, [.vec u.globals.length (j7 u.globals), .vec u.c4.length (g9 u.c4), .vec u.procs.length (l5 u.procs), .int .i64 u.main, .vec c.insts.length (l8 c.insts), .vec c.calls.length (n4 c.calls), .vec c.roots.length (j7 c.roots), .int .i64 ((mx : Nat) : Int), .int .i64 ((w : Nat) : Int), .own (h.length + 3) f.length 0 f.length], 0⟩ :: n9 46 2 f.length (j0 f) :: R)) (h ++ (b0 :: b1 :: ⟨0, false, 83, 10, [.vec u.globals.length (j7 u.globals), .vec u.c4.length (g9 u.c4), .vec u.procs.length (l5 u.procs), .int .i64 u.main, .vec c.insts.length (l8 c.insts), .vec c.calls.length (n4 c.calls), .vec c.roots.length (j7 c.roots), .int .i64 ((mx : Nat) : Int), .int .i64 ((w : Nat) : Int), .own (h.length + 3) f1.length 0 f1.length], 0⟩ :: n9 46 2 f1.length (j0 f1) :: R)) :=
  (z5.refl h).app rfl ⟨.inl rfl, .inl rfl, .inr (eS.get ⟨.vec _ _, .vec _ _, .vec _ _, .int _ _, .vec _ _, .vec _ _, .vec _ _, .int _ _, .int _ _, .own _ _ _ _ (by simp), trivial⟩), .inr t102, lD.refl _ _⟩
theorem c_add (hw : w ≤ 500) (f l : List Cf) (hf : f.length ≤ w) (hl : l.length < 1000) (hs : ∀ x ∈ l, x.st.length < 1000000) : CH 25 [.ptr (h.length + 2) 0 0, .vec l.length (j0 l)] (h ++ (b0 :: b1 :: ⟨0, false, 83, 10, [.vec u.globals.length (j7 u.globals), .vec u.c4.length (g9 u.c4), .vec u.procs.length (l5 u.procs), .int .i64 u.main, .vec c.insts.length (l8 c.insts), .vec c.calls.length (n4 c.calls), .vec c.roots.length (j7 c.roots), .int .i64 ((mx : Nat) : Int), .int .i64 ((w : Nat) : Int), .own (h.length + 3) f.length 0 f.length], 0⟩ :: n9 46 2 f.length (j0 f) :: R)) (.bool (decide (((o3 w f l).length : Int) < (w : Int)))) (h ++ (b0 :: b1 :: ⟨0, false, 83, 10, [.vec u.globals.length (j7 u.globals), .vec u.c4.length (g9 u.c4), .vec u.procs.length (l5 u.procs), .int .i64 u.main, .vec c.insts.length (l8 c.insts), .vec c.calls.length (n4 c.calls), .vec c.roots.length (j7 c.roots), .int .i64 ((mx : Nat) : Int), .int .i64 ((w : Nat) : Int), .own (h.length + 3) (o3 w f l).length 0 (o3 w f l).length], 0⟩ :: n9 46 2 (o3 w f l).length (j0 (o3 w f l)) :: R)) := by
  refine .wz Tryz.f25 51 ?_
  refine c21z ?_
  refine .aG (fun m st => ∃ (j : Nat), (m = l.length - j ∧ (j ≤ l.length)) ∧ st = ⟨mkS 51 [(0, AV.ptr (h.length + 2) 0 0), (7, AV.vec l.length (j0 l)), (8, AV.int .i64 ((l.length : Nat) : Int)), (9, AV.int .i64 ((j : Nat) : Int))], (h ++ (b0 :: b1 :: ⟨0, false, 83, 10, [.vec u.globals.length (j7 u.globals), .vec u.c4.length (g9 u.c4), .vec u.procs.length (l5 u.procs), .int .i64 u.main, .vec c.insts.length (l8 c.insts), .vec c.calls.length (n4 c.calls), .vec c.roots.length (j7 c.roots), .int .i64 ((mx : Nat) : Int), .int .i64 ((w : Nat) : Int), .own (h.length + 3) (o3 w f (l.take j)).length 0 (o3 w f (l.take j)).length], 0⟩ :: n9 46 2 (o3 w f (l.take j)).length (j0 (o3 w f (l.take j))) :: R))⟩) (.v ⟨0, ⟨rfl, by omega⟩, rfl⟩) ?_ (he := by rfl)
  rintro m sl h' ⟨j, ⟨hm, hj⟩, hst⟩
  obtain ⟨rfl, rfl⟩ := St.mk.inj hst; clear hst
  have hfl := (fW (l := l.take j) hf).2
  refine c12z ?_
  refine u2z ?_ ?_
  ·intro e1 qe1
   refine c3z ?_
   refine c12z ?_
   refine .ss u4 (mkP 10 [0, 1, 3, 7, 15, 0, 32, 96, 224, 511] []) ?_
   refine c65z ?_
   refine u2z ?_ ?_
   ·intro e2 qe2
    refine c8z ?_
    refine .c8 [0] ?_
    refine .ss u4 (mkP 11 [0, 1, 3, 7, 15, 0, 32, 96, 224, 511, 1023] []) ?_
    refine c65z ?_
    refine c2z ?_
    exact ⟨(h ++ (b0 :: b1 :: ⟨0, false, 83, 10, [.vec u.globals.length (j7 u.globals), .vec u.c4.length (g9 u.c4), .vec u.procs.length (l5 u.procs), .int .i64 u.main, .vec c.insts.length (l8 c.insts), .vec c.calls.length (n4 c.calls), .vec c.roots.length (j7 c.roots), .int .i64 ((mx : Nat) : Int), .int .i64 ((w : Nat) : Int), .own (h.length + 3) (o3 w f (l.take j)).length 0 (o3 w f (l.take j)).length], 0⟩ :: n9 46 2 (o3 w f (l.take j)).length (j0 (o3 w f (l.take j))) :: R)), _, _, t81, by simp, O8 _ _, rfl, t162⟩
   intro e2 qe2
   refine .sk ?_
   refine .c8 [0, 6, 7, 8, 9] ?_
   refine c26z ?_
   refine .ca rfl rfl (c_cont (x := l.getD j aR) (o3 w f (l.take j)) (by omega) (hs _ (l3 (by omega)))) ?_
   refine .n ?_
   refine u2z ?_ ?_
   ·intro e3 qe3
    have hnew : l.getD j aR ∉ o3 w f (l.take j) := by simp_all
    refine .og u4 (mkH 11 [0, 0, 2, 6, 14, 0, 32, 126, 255, 511, 1023] [6, 7, 10] [] [0, 64, 192, 1216] [0, 1, 2, 3, 4]) 0 ?_
    refine .p 4 ?_
    refine c116z ?_
    refine .en [true] [64, 0] [_] ?_
    refine .en [true, false] [192, 64, 0] [_] ?_
    refine .p 2 ?_
    refine .en [true, false, false] [1216, 192, 64, 0] [_] ?_
    refine c128z ?_
    refine .c8 [0, 7, 8, 9] ?_
    refine .rz ?_
    exact ⟨_, by omega, .v ⟨(j + 1), ⟨rfl, by omega⟩, rfl⟩ (he := t67) (hk := by exact O8 _ _)⟩
   intro e3 qe3
   refine c4z ?_
   refine .c8 [0, 7, 8, 9] ?_
   have hold : l.getD j aR ∈ o3 w f (l.take j) := by simp_all
   refine .rz ?_
   exact ⟨_, by omega, .v ⟨(j + 1), ⟨rfl, by omega⟩, rfl⟩ (he := t74) (hk := by exact O8 _ _)⟩
  intro e1 qe1
  refine c8z ?_
  refine .ss u4 (mkP 11 [0, 1, 3, 7, 15, 0, 32, 96, 224, 511, 1023] []) ?_
  refine c65z ?_
  refine c2z ?_
  exact ⟨(h ++ (b0 :: b1 :: ⟨0, false, 83, 10, [.vec u.globals.length (j7 u.globals), .vec u.c4.length (g9 u.c4), .vec u.procs.length (l5 u.procs), .int .i64 u.main, .vec c.insts.length (l8 c.insts), .vec c.calls.length (n4 c.calls), .vec c.roots.length (j7 c.roots), .int .i64 ((mx : Nat) : Int), .int .i64 ((w : Nat) : Int), .own (h.length + 3) (o3 w f (l.take j)).length 0 (o3 w f (l.take j)).length], 0⟩ :: n9 46 2 (o3 w f (l.take j)).length (j0 (o3 w f (l.take j))) :: R)), _, _, t81, by simp, O8 _ _, rfl, t162⟩
theorem c_addO (hw : w ≤ 500) (f : List Cf) (hf : f.length ≤ w) (x : Cf) (hx : x.st.length < 1000000) : CH 25 [.ptr (h.length + 2) 0 0, .own (h.length + 4) 0 0 1] (h ++ [b0, b1, ⟨0, false, 83, 10, [.vec u.globals.length (j7 u.globals), .vec u.c4.length (g9 u.c4), .vec u.procs.length (l5 u.procs), .int .i64 u.main, .vec c.insts.length (l8 c.insts), .vec c.calls.length (n4 c.calls), .vec c.roots.length (j7 c.roots), .int .i64 ((mx : Nat) : Int), .int .i64 ((w : Nat) : Int), .own (h.length + 3) f.length 0 f.length], 0⟩, n9 46 2 f.length (j0 f), ⟨0, false, 46, 2, [.int .i64 x.d, .vec x.st.length (g6 x.st)], 0⟩]) (.bool (decide (((rL w f x).length : Int) < (w : Int)))) (h ++ [b0, b1, ⟨0, false, 83, 10, [.vec u.globals.length (j7 u.globals), .vec u.c4.length (g9 u.c4), .vec u.procs.length (l5 u.procs), .int .i64 u.main, .vec c.insts.length (l8 c.insts), .vec c.calls.length (n4 c.calls), .vec c.roots.length (j7 c.roots), .int .i64 ((mx : Nat) : Int), .int .i64 ((w : Nat) : Int), .own (h.length + 3) (rL w f x).length 0 (rL w f x).length], 0⟩, n9 46 2 (rL w f x).length (j0 (rL w f x)), ⟨0, false, 46, 2, [.int .i64 x.d, .vec x.st.length (g6 x.st)], 2⟩]) := by
  refine CallA.sF (β := h.length + 4) (off := 0) (len := 1) (b := ⟨0, false, 46, 2, [.int .i64 x.d, .vec x.st.length (g6 x.st)], 0⟩) (cs := j0 [x]) (args' := [.ptr (h.length + 2) 0 0, .vec 1 (j0 [x])]) t29 rfl (by simp) rfl ⟨.inl rfl, .inr ⟨rfl, rfl⟩, trivial⟩ ?_
  rw [p7]
  exact c_add (R := [⟨0, false, 46, 2, [.int .i64 x.d, .vec x.st.length (g6 x.st)], 2⟩]) hw f [x] hf (by simp) (fun y hy => by rw [List.mem_singleton] at hy; rw [hy]; exact hx)
theorem c_known (f : List Cf) (hf : f.length < 10000) (hl : ∀ y ∈ f, y.st.length < 1000000) : CB 27 [.vec f.length (j0 f), .agg [.int .i64 x.d, .vec x.st.length (g6 x.st)]] h (.bool (decide (x ∈ f))) := by
  refine .bz Tryz.f27 18 ?_
  refine c21z ?_
  refine .fZ (fun m st => ∃ (i : Nat), (m = f.length - i ∧ ((∀ d, d < i → f.getD d aR ≠ x) ∧ i ≤ f.length)) ∧ st = ⟨mkS 18 [(0, AV.vec f.length (j0 f)), (3, AV.ptr h.length 0 0), (5, AV.int .i64 ((i : Nat) : Int))], h ++ [⟨0, false, 46, 2, [.int .i64 x.d, .vec x.st.length (g6 x.st)], 0⟩]⟩) _ (.v ⟨0, ⟨rfl, ⟨t98, by omega⟩⟩, rfl⟩) ?_
  rintro m sl h' ⟨i, ⟨hm, ⟨hI, hi⟩⟩, hst⟩
  obtain ⟨rfl, rfl⟩ := St.mk.inj hst
  refine c0z ?_
  refine u2z ?_ ?_
  ·intro e1 qe1
   refine c3z ?_
   refine .ss u4 (mkP 6 [0, 0, 3, 7, 0, 31] []) ?_
   refine .k 5 [] ?_
   refine .ca rfl rfl (ER (x := f.getD i aR) (y := x) (hl _ (l3 (by omega)))) ?_
   refine .nil ?_
   refine u2z ?_ ?_
   ·intro e2 qe2
    refine c14z ?_
    exact .ret (.ex (hq := t97))
   intro e2 qe2
   refine c4z ?_
   refine .c8 [0, 3, 5] ?_
   refine .rz ?_
   exact ⟨_, by omega, .v ⟨(i + 1), ⟨rfl, ⟨cf_ne hI (by simp_all), by omega⟩⟩, rfl⟩⟩
  intro e1 qe1
  refine c8z ?_
  refine .z ?_
  exact .ret (.ex (hq := t97))
theorem frz_cfS {β len : Nat} {H : c6} {a : List Cf} (hb : H[β]? = some (n9 46 2 g (j0 a))) (hl : a.length = len) : HC 0 H (.own β g 0 len) = some (.vec len (j0 a)) := by
  exact eG hb (Nat.zero_le _) (by rw [aD, hl]; omega) (by omega) ((xN a).frz _ _ _)
theorem O9 {H : c6} {β : Nat} (f : List Cf) (hf : f.length < 10000) (hl : ∀ y ∈ f, y.st.length < 1000000) (hβ : H[β]? = some (n9 46 2 g (j0 f))) : CB 27 [.own β g 0 f.length, .agg [.int .i64 x.d, .vec x.st.length (g6 x.st)]] H (.bool (decide (x ∈ f))) := by
  exact CallA.borrow (args' := [.vec f.length (j0 f), .agg [.int .i64 x.d, .vec x.st.length (g6 x.st)]]) (args := [.own β g 0 f.length, .agg [.int .i64 x.d, .vec x.st.length (g6 x.st)]]) ⟨.inr (frz_cfS hβ rfl), .inr rfl, trivial⟩ ((c_known f hf hl).mono fun y k hq => hq.1)
def wN (n : Int) : Nat := (min (max n 1) 500).toNat
def rN (n : Int) : Nat := (min (max n 0) 100).toNat
variable {n : Int}
theorem wN_1 : (if (500 : Int) < (if (1 : Int) > n then 1 else n) then (500 : Int) else (if (1 : Int) > n then 1 else n)) = ((wN n : Nat) : Int) := by unfold wN; split <;> split <;> omega
theorem wN_2 : (if (if (500 : Int) < n then (500 : Int) else n) > 1 then (if (500 : Int) < n then (500 : Int) else n) else 1) = ((wN n : Nat) : Int) := by unfold wN; split <;> split <;> omega
theorem rN_2 : (if (100 : Int) < n then (100 : Int) else n) = min n 100 := by split <;> omega
theorem rN_3 : min (if (0 : Int) > n then 0 else n) 100 = ((rN n : Nat) : Int) := by unfold rN; split <;> omega
theorem uY {e : Nat} (h : 0 < f.length) : (n9 e 2 g (j0 f)).bR = false := by
  cases f with
  | nil => simp at h
  | cons x f => rfl
theorem FF : 1 ≤ wN n ∧ wN n ≤ 500 := by unfold wN; omega
theorem UT : rN n ≤ 100 := by unfold rN; omega
def A9 (u : Un) (c : Clo) (mx w N : Nat) : List Cf := VS u c mx w N 0 (o3 w [] (mH c))
structure VI (u : Un) (c : Clo) (mx w N r i : Nat) (f : List Cf) : Prop where
  e : A9 u c mx w N = VS u c mx w (N - r) i f
  i : i ≤ f.length
  l : f.length ≤ w
  a : uX u c mx (r + 1) f
structure VJ (u : Un) (c : Clo) (mx w N r to i : Nat) (f : List Cf) : Prop where
  e : A9 u c mx w N = VS u c mx w (N - (r + 1)) to (goC u c mx w (to - i) i f)
  i : i ≤ to
  t : to ≤ f.length
  l : f.length ≤ w
  a : uX u c mx (r + 2) f
  b : ∀ j, j < to → WCf u c mx (r + 1) (f.getD j aR)
variable {N : Nat}
theorem VI.start (hu : WU u) (wc : WC u c) : VI u c mx w N 0 0 (o3 w [] (mH c)) :=
  ⟨rfl, Nat.zero_le _, (fW (Nat.zero_le _)).2, uX.adds (fun x hx => by simp at hx) (MI hu wc)⟩
variable {r : Nat}
theorem VI.go (h : VI u c mx w N r i f) (hr : r < N) : VJ u c mx w N r f.length i f := by
  refine ⟨?_, h.i, Nat.le_refl _, h.l, h.a.mono (by omega), fun j hj => h.a.get hj⟩
  rw [h.e, show N - r = (N - (r + 1)) + 1 from by omega]
  rfl
variable {to : Nat}
theorem VJ.step (hu : WU u) (wc : WC u c) (h : VJ u c mx w N r to i f) (hi : i < to) : VJ u c mx w N r to (i + 1) (o3 w f (o4 u c mx (f.getD i aR))) := by
  have hl := fW (l := o4 u c mx (f.getD i aR)) h.l
  have h2 := h.t
  refine ⟨?_, by omega, by omega, hl.2, uX.adds h.a (oP hu wc (h.b i hi)), fun j hj => ?_⟩
  · rw [h.e, show to - i = (to - (i + 1)) + 1 from by omega]
    rfl
  · rw [A5 (by omega)]; exact h.b j hj
theorem VJ.fin (h : VJ u c mx w N r to to f) (hr : r < N) : VI u c mx w N (r + 1) to f :=
  ⟨by rw [h.e, Nat.sub_self]; rfl, h.t, h.l, h.a⟩
theorem VJ.full (h : VJ u c mx w N r to i f) (hf : f.length = w) : A9 u c mx w N = f := by
  rw [h.e, xR hf, A6 hf]
theorem VI.fin (h : VI u c mx w N N i f) : A9 u c mx w N = f := by
  rw [h.e, Nat.sub_self]; rfl
theorem pR : (mH c).length = c.roots.length := List.length_map _
theorem FG (h : j < c.roots.length) : (mH c).getD j aR = ⟨0, [(c.roots.getD j 0, 0)]⟩ := by simp [mH, List.getD, h]
theorem MJ (h : j < c.roots.length) : o3 w [] ((mH c).take (j + 1)) = rL w (o3 w [] ((mH c).take j)) ⟨0, [(c.roots.getD j 0, 0)]⟩ := by
  rw [hC (by rw [pR]; exact h), FG h]
attribute [local go_sem] wN_1 wN_2 rN_2 rN_3 uY qT r6 aD
theorem F7 {most : Int} (f f1 : List Cf) : z5 (h ++ [⟨0, false, 30, 4, [.vec u.globals.length (j7 u.globals), .vec u.c4.length (g9 u.c4), .vec u.procs.length (l5 u.procs), .int .i64 u.main], 0⟩, ⟨0, false, 34, 3, [.vec c.insts.length (l8 c.insts), .vec c.calls.length (n4 c.calls), .vec c.roots.length (j7 c.roots)], 0⟩, ⟨0, false, 83, 10, [.vec u.globals.length (j7 u.globals), .vec u.c4.length (g9 u.c4), .vec u.procs.length (l5 u.procs), .int .i64 u.main, .vec c.insts.length (l8 c.insts), .vec c.calls.length (n4 c.calls), .vec c.roots.length (j7 c.roots), .int .i64 ((mx : Nat) : Int), .int .i64 ((wN most : Nat) : Int), .own (h.length + 3) f.length 0 f.length], 0⟩, n9 46 2 f.length (j0 f)]) (h ++ [⟨0, false, 30, 4, [.vec u.globals.length (j7 u.globals), .vec u.c4.length (g9 u.c4), .vec u.procs.length (l5 u.procs), .int .i64 u.main], 0⟩, ⟨0, false, 34, 3, [.vec c.insts.length (l8 c.insts), .vec c.calls.length (n4 c.calls), .vec c.roots.length (j7 c.roots)], 0⟩, ⟨0, false, 83, 10, [.vec u.globals.length (j7 u.globals), .vec u.c4.length (g9 u.c4), .vec u.procs.length (l5 u.procs), .int .i64 u.main, .vec c.insts.length (l8 c.insts), .vec c.calls.length (n4 c.calls), .vec c.roots.length (j7 c.roots), .int .i64 ((mx : Nat) : Int), .int .i64 ((wN most : Nat) : Int), .own (h.length + 3) f1.length 0 f1.length], 0⟩, n9 46 2 f1.length (j0 f1)]) :=
  (z5.refl h).app rfl ⟨.inl rfl, .inl rfl, .inr (eS.get ⟨.vec _ _, .vec _ _, .vec _ _, .int _ _, .vec _ _, .vec _ _, .vec _ _, .int _ _, .int _ _, .own _ _ _ _ (by simp), trivial⟩), .inr t102, trivial⟩
theorem FH (hu : WU u) (wc : WC u c) (hmx : mx < u.c4.length) {n : Nat} (hn : n ≤ 500) (w : WCf u c mx n x) : CB 26 [.agg [.vec u.globals.length (j7 u.globals), .vec u.c4.length (g9 u.c4), .vec u.procs.length (l5 u.procs), .int .i64 u.main, .vec c.insts.length (l8 c.insts), .vec c.calls.length (n4 c.calls), .vec c.roots.length (j7 c.roots), .int .i64 ((mx : Nat) : Int)], .agg [.int .i64 x.d, .vec x.st.length (g6 x.st)]] h (.vec (o4 u c mx x).length (j0 (o4 u c mx x))) := by
  by_cases hp : 0 < x.st.length
  · obtain ⟨d, i, pc, b, rfl, hd, hi, hpc, hb⟩ := FE w hp
    rw [mY, List.length_append]
    exact MD hu wc hmx hd (by omega) hi hpc
  · obtain ⟨d, st⟩ := x
    obtain rfl : st = [] := List.length_eq_zero_iff.1 (by simp only at hp; omega)
    exact FD d
theorem c_visit (hu : WU u) (wc : WC u c) (hmx : mx < u.c4.length) (steps most : Int) : CB 11 [.agg [.vec u.globals.length (j7 u.globals), .vec u.c4.length (g9 u.c4), .vec u.procs.length (l5 u.procs), .int .i64 u.main], .agg [.vec c.insts.length (l8 c.insts), .vec c.calls.length (n4 c.calls), .vec c.roots.length (j7 c.roots)], .int .i64 ((mx : Nat) : Int), .int .i64 steps, .int .i64 most] h (.vec (A9 u c mx (wN most) (rN steps)).length (j0 (A9 u c mx (wN most) (rN steps)))) := by
  refine .bz Tryz.f11 78 ?_
  have hml := hu.ml
  have hwl := wc.len
  have hrl := wc.rl
  have hrc := tP wc
  have hwr := FF (n := most)
  have hrn := UT (n := steps)
  refine c32z ?_
  refine .e 8 ?_
  refine c42z ?_
  refine .c8 [3, 6, 11] ?_
  refine c24z ?_
  refine g5.lE (β := h.length + 2) (k := 9) t29 rfl ?_
  simp only [List.append_assoc, List.cons_append, List.nil_append, List.length_append, List.length_cons, List.length_nil, Nat.reduceAdd, Nat.zero_add, p7, List.set_cons_succ, List.set_cons_zero]
  refine .aG (fun m st => ∃ (j : Nat), (m = c.roots.length - j ∧ (j ≤ c.roots.length)) ∧ st = ⟨mkS 78 [(3, AV.int .i64 steps), (6, AV.ptr (h.length + 1) 0 0), (11, AV.ptr (h.length + 2) 0 0), (26, AV.vec c.roots.length (j7 c.roots)), (27, AV.int .i64 ((c.roots.length : Nat) : Int)), (28, AV.int .i64 ((j : Nat) : Int))], h ++ [⟨0, false, 30, 4, [.vec u.globals.length (j7 u.globals), .vec u.c4.length (g9 u.c4), .vec u.procs.length (l5 u.procs), .int .i64 u.main], 0⟩, ⟨0, false, 34, 3, [.vec c.insts.length (l8 c.insts), .vec c.calls.length (n4 c.calls), .vec c.roots.length (j7 c.roots)], 0⟩, ⟨0, false, 83, 10, [.vec u.globals.length (j7 u.globals), .vec u.c4.length (g9 u.c4), .vec u.procs.length (l5 u.procs), .int .i64 u.main, .vec c.insts.length (l8 c.insts), .vec c.calls.length (n4 c.calls), .vec c.roots.length (j7 c.roots), .int .i64 ((mx : Nat) : Int), .int .i64 ((wN most : Nat) : Int), .own (h.length + 3) (o3 (wN most) [] ((mH c).take j)).length 0 (o3 (wN most) [] ((mH c).take j)).length], 0⟩, n9 46 2 (o3 (wN most) [] ((mH c).take j)).length (j0 (o3 (wN most) [] ((mH c).take j)))]⟩) (.v ⟨0, ⟨rfl, by omega⟩, rfl⟩) ?_ (he := by rfl)
  rintro m sl h' ⟨j, ⟨hm, hj⟩, hst⟩
  obtain ⟨rfl, rfl⟩ := St.mk.inj hst; clear hst
  have hfl := (fW (w := (wN most)) (f := []) (l := (mH c).take j) (by simp)).2
  refine c12z ?_
  refine u2z ?_ ?_
  ·intro e1 qe1
   refine c201z ?_
   refine .r ?_
   refine .e 3 ?_
   refine .ca rfl rfl (c_begM _) ?_
   refine .e 1 ?_
   refine .ch rfl rfl (c_addO hwr.2 (o3 (wN most) [] ((mH c).take j)) hfl ⟨0, [(c.roots.getD j 0, 0)]⟩ (by simp)) ?_
   refine .nil ?_
   change g5 ..
   refine .c8 [3, 6, 11, 26, 27, 28] ?_
   refine .rz ?_
   exact ⟨_, by omega, .v ⟨(j + 1), ⟨rfl, by omega⟩, rfl⟩ (he := by (rw [MJ (by omega)]; simp only [List.append_assoc, List.cons_append, List.nil_append]; rfl)) (hk := by exact F7 _ _)⟩
  intro e1 qe1
  refine .exit ?_
  obtain rfl : j = c.roots.length := by omega
  have htk : (mH c).take c.roots.length = mH c := List.take_of_length_le (by rw [pR]; exact Nat.le_refl _)
  rw [htk]
  change g5 ..
  refine c21z ?_
  refine .aG (fun m st => ∃ (r : Nat) (i : Nat) (f : List Cf), (m = (rN steps) - r ∧ (VI u c mx (wN most) (rN steps) r i f ∧ r ≤ (rN steps))) ∧ st = ⟨mkS 78 [(11, AV.ptr (h.length + 2) 0 0), (14, AV.int .i64 ((i : Nat) : Int)), (41, AV.int .i64 (((rN steps) : Nat) : Int)), (42, AV.int .i64 ((r : Nat) : Int))], h ++ [⟨0, false, 30, 4, [.vec u.globals.length (j7 u.globals), .vec u.c4.length (g9 u.c4), .vec u.procs.length (l5 u.procs), .int .i64 u.main], 0⟩, ⟨0, false, 34, 3, [.vec c.insts.length (l8 c.insts), .vec c.calls.length (n4 c.calls), .vec c.roots.length (j7 c.roots)], 0⟩, ⟨0, false, 83, 10, [.vec u.globals.length (j7 u.globals), .vec u.c4.length (g9 u.c4), .vec u.procs.length (l5 u.procs), .int .i64 u.main, .vec c.insts.length (l8 c.insts), .vec c.calls.length (n4 c.calls), .vec c.roots.length (j7 c.roots), .int .i64 ((mx : Nat) : Int), .int .i64 ((wN most : Nat) : Int), .own (h.length + 3) f.length 0 f.length], 0⟩, n9 46 2 f.length (j0 f)]⟩) (.v ⟨0, 0, (o3 (wN most) [] (mH c)), ⟨rfl, ⟨VI.start hu wc, by omega⟩⟩, rfl⟩) ?_
  rintro m sl h' ⟨r, i, f, ⟨hm, ⟨hV, hr⟩⟩, hst⟩
  obtain ⟨rfl, rfl⟩ := St.mk.inj hst; clear hst
  have hVi := hV.i; have hVl := hV.l
  refine c12z ?_
  refine u2z ?_ ?_
  ·intro e2 qe2
   refine c3z ?_
   refine c24z ?_
   refine .aG (fun m st => ∃ (i1 : Nat) (f1 : List Cf), (m = f.length - i1 ∧ (VJ u c mx (wN most) (rN steps) r f.length i1 f1)) ∧ st = ⟨mkS 78 [(11, AV.ptr (h.length + 2) 0 0), (14, AV.int .i64 ((i1 : Nat) : Int)), (15, AV.int .i64 ((f.length : Nat) : Int)), (41, AV.int .i64 (((rN steps) : Nat) : Int)), (42, AV.int .i64 ((r : Nat) : Int))], h ++ [⟨0, false, 30, 4, [.vec u.globals.length (j7 u.globals), .vec u.c4.length (g9 u.c4), .vec u.procs.length (l5 u.procs), .int .i64 u.main], 0⟩, ⟨0, false, 34, 3, [.vec c.insts.length (l8 c.insts), .vec c.calls.length (n4 c.calls), .vec c.roots.length (j7 c.roots)], 0⟩, ⟨0, false, 83, 10, [.vec u.globals.length (j7 u.globals), .vec u.c4.length (g9 u.c4), .vec u.procs.length (l5 u.procs), .int .i64 u.main, .vec c.insts.length (l8 c.insts), .vec c.calls.length (n4 c.calls), .vec c.roots.length (j7 c.roots), .int .i64 ((mx : Nat) : Int), .int .i64 ((wN most : Nat) : Int), .own (h.length + 3) f1.length 0 f1.length], 0⟩, n9 46 2 f1.length (j0 f1)]⟩) (.v ⟨i, f, ⟨rfl, hV.go (by omega)⟩, rfl⟩) ?_
   rintro m sl h' ⟨i1, f1, ⟨hm, hJ⟩, hst⟩
   obtain ⟨rfl, rfl⟩ := St.mk.inj hst; clear hst
   have hJt := hJ.t; have hJi := hJ.i; have hJl := hJ.l
   refine c0z ?_
   refine u2z ?_ ?_
   ·intro e3 qe3
    refine c3z ?_
    have hR3 : i1 < f1.length := by omega
    refine .ss u4 (mkP 15 [0, 0, 2, 6, 14, 0, 32, 96, 224, 0, 992, 2016, 4094, 8191, 16383] [13]) ?_
    refine .k 8 [] ?_
    refine .k 4 [] ?_
    refine .ca rfl rfl (FH hu wc hmx (by omega) (hJ.b i1 (by omega))) ?_
    refine gG.r7 rfl rfl rfl rfl hb25 (c_add (R := []) hwr.2 f1 _ hJl (by have := pP (u := u) (c := c) (m := mx) (x := f1.getD i1 aR); omega) (fun y hy => by have := (oP hu wc (hJ.b i1 (by omega)) y hy).len; omega)) ?_
    refine .n [] ?_
    refine u2z ?_ ?_
    ·intro e4 qe4
     refine .c8 [11] ?_
     have hfull : f1.length = f1.length := rfl
     refine c34z ?_
     exact ⟨_, _, rfl, nA t29 (by omega) rfl, t125⟩
    intro e4 qe4
    refine c4z ?_
    refine .c8 [11, 14, 15, 41, 42] ?_
    refine .rz ?_
    exact ⟨_, by omega, .v ⟨(i1 + 1), (o3 (wN most) f1 (o4 u c mx (f1.getD i1 aR))), ⟨rfl, hJ.step hu wc (by omega)⟩, rfl⟩ (hk := by exact F7 _ _)⟩
   intro e3 qe3
   refine .exit ?_
   obtain rfl : i1 = f.length := by omega
   have hJ2 := hJ
   change g5 ..
   refine .rz ?_
   exact ⟨_, by omega, .v ⟨(r + 1), f.length, f1, ⟨rfl, ⟨hJ2.fin (by omega), by omega⟩⟩, rfl⟩ (hk := by exact F7 _ _)⟩
  intro e2 qe2
  refine .exit ?_
  obtain rfl : r = (rN steps) := by omega
  change g5 ..
  refine c34z ?_
  exact ⟨_, _, rfl, nA t29 (by omega) rfl, t125⟩
end Go.Proofs.YtapdldekgbbomaaGreat
end
section
namespace Go.Proofs.YtapdldekgbbomaaGreat
open Go.Ab
end Go.Proofs.YtapdldekgbbomaaGreat
end
