/- My own texts, put together by a program of mine. -/
import Derived.Test.YtapdldekgbbomaaGreatMQ8
set_option linter.unusedSimpArgs false
set_option linter.unusedVariables false
set_option maxRecDepth 100000
set_option maxHeartbeats 4000000
section
namespace Go.Proofs.YtapdldekgbbomaaGreat
open Go.Ab Go.Un
theorem KU {h : c7} {p : Go.Un.Pg} (hp : GP p) {u : Un} (hu : cK p = u) : CB 23 [.agg [.vec p.globals.length (o9 p.globals), .vec p.c4.length (g9 p.c4), .vec p.funcs.length (n9 p.funcs)]] h (.tup [.agg [.vec u.globals.length (j9 u.globals), .vec u.c4.length (g9 u.c4), .vec u.procs.length (n7 u.procs), .int .i64 u.main], .int .i64 0, .int .i64 0, .int .i64 0]) := by
 subst hu; exact c_lower hp
attribute [local go_sem] rd aO cR Int.natCast_nonneg Int.natCast_inj jT gV jU
theorem DV (L : List Int) (hL : L.length < 4611686018427387904) : CallA Tryz.prog cfg 7 [.vec L.length (j9 L)] [] (fun y' h' => (∃ p u c, GP p ∧ WU u ∧ WC u c ∧ y' = .tup [.agg (Q2 p), .agg [.vec u.globals.length (j9 u.globals), .vec u.c4.length (g9 u.c4), .vec u.procs.length (n7 u.procs), .int .i64 u.main], .agg [.vec c.insts.length (p4 c.insts), .vec c.calls.length (s3 c.calls), .vec c.roots.length (j9 c.roots)]]) ∧ h' = []) := by
 refine .bz Tryz.f7 29 ?_
 refine c127z ?_
 refine n4.cx rfl rfl hb22 (DU L hL) (fun y1 h1 hq1 => ?_)
 obtain ⟨⟨p, hp, rfl⟩, rfl⟩ := hq1
 generalize hup : cK p = u
 have hu : WU u := by rw [← hup]; exact unit_ok hp
 simp only [Q2]
 refine .n ?_
 refine c131z ?_
 refine .ca rfl rfl (KU hp hup) ?_
 refine c39z ?_
 refine .c8 [2, 3, 4, 5, 6] ?_
 refine c131z ?_
 refine n4.cx rfl rfl hb24 (c_close hu) (fun y1 h1 hq1 => ?_)
 obtain ⟨⟨c, wc, rfl⟩, rfl⟩ := hq1
 simp only [GQ]
 refine .n ?_
 refine .sg u0 (mkH 6 [0, 0, 0, 1, 11, 31] [3, 4, 5] [] [0, 8, 24, 56] [1, 2]) 0 ?_
 refine .rn [true] ?_
 refine .rm [true] ?_
 refine .rm [true] ?_
 refine .en [true] [8, 0] [_] ?_
 refine .en [true, false] [24, 8, 0] [_] ?_
 refine .en [true, false, false] [56, 24, 8, 0] [_] ?_
 refine .po [false, true, true, true] ?_
 refine c26z ?_
 exact .ret (.ex (hq := by exact ⟨p, u, c, hp, hu, wc, rfl⟩))
end Go.Proofs.YtapdldekgbbomaaGreat
end
section
namespace Go.Proofs.YtapdldekgbbomaaGreat
open Go.Ab Go.Un
set_option maxHeartbeats 400000
theorem UN {a b x y : Int} : eqA cfg 4 54 (.agg [.int .i64 a, .int .i64 b]) (.agg [.int .i64 x, .int .i64 y]) = some (decide ((a, b) = (x, y))) := by
  have e : eqA cfg 4 54 (.agg [.int .i64 a, .int .i64 b]) (.agg [.int .i64 x, .int .i64 y]) = (match some (a == x) with
    | some true => (match some (b == y) with
      | some true => some true
      | some false => some false
      | none => none)
    | some false => some false
    | none => none) := rfl
  rw [e]
  rcases Bool.eq_false_or_eq_true (a == x) with h1 | h1 <;> rcases Bool.eq_false_or_eq_true (b == y) with h2 | h2 <;> simp only [h1, h2] <;> simp_all
theorem wV (l : List (Int × Int)) : z4 (g8 l) := z4.flat fun _ => z4.cons .int (z4.cons .int z4.nil)
theorem wW (l : List Cf) : z4 (o2 l) := z4.flat fun _ => z4.cons .int (z4.cons .vec z4.nil)
variable {n d β g len : Nat} {H : c7} {a : List (Int × Int)}
theorem DW (hb : H[β]? = some ⟨g, false, 54, 2, g8 a, 0⟩) (hn : n ≤ β) (hl : a.length = len) : gL n H (d + 3) (.own β g 0 len) = some (.vec len (g8 a)) := by
  subst hl
  rw [bT, if_neg (by omega), dK, hb]
  have h2 : 0 + a.length * 2 ≤ (g8 a).length := by rw [q9]; omega
  simp only [hn, and_self, if_true, Bool.false_eq_true, if_false, h2, List.drop_zero]
  rw [List.take_of_length_le t137, (wV a).frz]
theorem DX {k : Nat} {d : Int} (hb : H[β]? = some ⟨g, false, 54, 2, g8 a, 0⟩) (hn : n ≤ β) (hl : a.length = k) : gL n H 6 (.agg [.int .i64 d, .own β g 0 k]) = some (.agg [.int .i64 d, .vec k (g8 a)]) := by
  have e : gL n H 5 (.own β g 0 k) = some (.vec k (g8 a)) := DW (d := 2) hb hn hl
  rw [nI]
  simp only [o6, lK, e, Option.map_some]
variable {p : Int × Int}
theorem pt_eq {q : Int × Int} (h : (p.1, p.2) = (q.1, q.2)) : p = q := h
variable {b : List (Int × Int)}
theorem ext_P (hl : a.length = b.length) (h : ∀ d, d < a.length → a.getD d (0, 0) = b.getD d (0, 0)) : a = b := by
  refine List.ext_getElem hl fun d k1 k2 => ?_
  have := h d k1
  simpa [List.getD, k1, k2] using this
theorem ext_C {a b : List Cf} (hl : a.length = b.length) (h : ∀ d, d < a.length → a.getD d pW = b.getD d pW) : a = b := by
  refine List.ext_getElem hl fun d k1 k2 => ?_
  have := h d k1
  simpa [List.getD, k1, k2] using this
def ovP (zs : List AV) (k : Nat) (q : List (Int × Int)) : List AV := over zs (k * 2) (g8 q)
variable {h : c7}
theorem app_pz {zs : List AV} {q : List (Int × Int)} {k m : Nat} (hm : q.length = m) (hz : (k + m) * 2 ≤ zs.length) (hk : k + m < 100000) : j6 cfg 54 (h ++ [⟨0, false, 54, 2, zs, 0⟩]) (.own h.length 0 0 k) (.vec m (g8 q)) = some (.own h.length 0 0 (k + m), h ++ [⟨0, false, 54, 2, ovP zs k q, 0⟩]) := by
  subst hm
  have e1 : cfg.sz 54 = 2 := rfl
  have e2 : (cfg.ti 54).bytes = 16 := rfl
  have h1 : k + q.length ≤ maxLen := by
    have : (100000 : Nat) ≤ maxLen := by decide
    omega
  have h2 : (k + q.length) * 16 ≤ 140737488355328 := by omega
  have h3 : q.length * 2 = 2 * q.length := by omega
  have h4 : k * 2 ≤ zs.length := by omega
  cases q with
  | nil =>
    simp only [List.length_nil, Nat.add_zero] at h1 h2
    simp [j6, rd, lenOf, e1, e2, g8, h1, h2, ovP, over, dX]
  | cons x q =>
    simp only [List.length_cons] at h1 h2 h3 hz
    simp [j6, rd, lenOf, e1, e2, q9, h1, h2, h3, h4, hz, dX, nA, ovP]
theorem over_pz {zs : List AV} {q : List (Int × Int)} (hz : zs.length = (b.length + q.length) * 2) : ovP (ovP zs 0 b) b.length q = g8 (b ++ q) := by
  have e : g8 (b ++ q) = g8 b ++ g8 q := by simp [g8]
  rw [e]
  unfold ovP over
  simp only [Nat.zero_mul, List.take_zero, List.nil_append, Nat.zero_add]
  have h1 : List.take (b.length * 2) (g8 b ++ List.drop (g8 b).length zs) = g8 b := by
    rw [show b.length * 2 = (g8 b).length from by rw [q9]; omega, List.take_left]
  rw [h1, List.drop_eq_nil_of_le (by simp only [List.length_append, List.length_drop, q9]; omega), List.append_nil]
theorem DY {n : Nat} : (List.replicate n [AV.int .i64 0, AV.int .i64 0]).flatten.length = n * 2 := by
  induction n with
  | zero => rfl
  | succ n ih => rw [List.replicate_succ, List.flatten_cons, List.length_append, ih]; simp only [List.length_cons, List.length_nil]; omega
theorem pln_z (n : Nat) : z4 (List.replicate n [AV.int .i64 0, AV.int .i64 0]).flatten := fun x hx => by
  simp only [List.mem_flatten, List.mem_replicate] at hx
  obtain ⟨l, ⟨_, rfl⟩, hx⟩ := hx
  exact z4.cons .int (z4.cons .int z4.nil) x hx
theorem aB.newP {l' : c7} (hk : ∀ b ∈ l', z4 b.cells) : aB h (h ++ l') := fun β b hb => by
  by_cases h1 : β < h.length
  · rw [List.getElem?_append_left h1] at hb; exact .inl hb
  · rw [List.getElem?_append_right (by omega)] at hb
    exact .inr ((hk b (List.mem_of_getElem? hb)).refs _)
theorem N0 (hn : b.length = n) : List.take (n * 2) (g8 (b ++ [p])) = g8 b := by
  subst hn
  rw [show g8 (b ++ [p]) = g8 b ++ g8 [p] from by simp [g8], show b.length * 2 = (g8 b).length from by rw [q9]; omega, List.take_left]
theorem E1 (hn : b.length = n) : List.take 2 (List.drop (n * 2) (g8 (b ++ [p]))) = [.int .i64 p.1, .int .i64 p.2] := by
  subst hn
  rw [lD (by simp)]
  simp [List.getD]
def KV (s : Nat) : List Int := ((List.range 9).filter fun i => s.testBit i).map fun i : Nat => (i : Int)
def kB (s i : Nat) : List Int := ((List.range i).filter fun i => s.testBit i).map fun i : Nat => (i : Int)
variable {s : Nat}
theorem uE {i : Nat} (h : s.testBit i = true) : kB s (i + 1) = kB s i ++ [(i : Int)] := by simp [kB, List.range_succ, h]
theorem zR {i : Nat} (h : s.testBit i = false) : kB s (i + 1) = kB s i := by simp [kB, List.range_succ, h]
theorem T3 : ∀ i, (kB s i).length ≤ i := fun i => by
  unfold kB
  rw [List.length_map]
  exact Nat.le_trans (List.length_filter_le _ _) (by simp)
theorem KW : ([1, 8].all fun k => (List.range (k + 1)).all fun d => [(-1 : Int), 0, 1].all fun ch => KV (applyN (dhN k ch) (2 ^ d)) == (if 0 ≤ (d : Int) + ch ∧ (d : Int) + ch ≤ (k : Int) then [(d : Int) + ch] else [])) = true := by kernel_rfl
theorem uF {m : Mx} {it : v5} {x : Ins} {mx : Int} (hd : d ≤ fC m) : KV (applyN (dhN (fC m) (chI it x mx)) (2 ^ d)) = (if 0 ≤ (d : Int) + chI it x mx ∧ (d : Int) + chI it x mx ≤ (fC m : Int) then [(d : Int) + chI it x mx] else []) := by
  have hk : fC m ∈ [1, 8] := by unfold fC; split <;> simp
  have hc : chI it x mx ∈ [(-1 : Int), 0, 1] := by rcases lC (it := it) (x := x) (m := mx) with h | h | h <;> rw [h] <;> simp
  have := List.all_eq_true.1 (List.all_eq_true.1 (List.all_eq_true.1 KW _ hk) d (List.mem_range.2 (by omega))) _ hc
  exact eq_of_beq this
theorem sX {m : Mx} {ch : Int} : applyN (dhN (fC m) ch) s < 512 := lT (sh_lt eE) _ _
theorem DZ (h : d ≤ 8) : 2 ^ d < 512 := by
  have : 2 ^ d ≤ 2 ^ 8 := Nat.pow_le_pow_right (by omega) h
  omega
theorem shl1P {m : Nat} (h1 : m ≤ 8) : IntKind.wrap .i64 (1 * 2 ^ (min m 64)) = ((2 ^ m : Nat) : Int) := by
  rw [shl1M (by omega)]; simp
theorem frz_li {a : List Int} (hb : H[β]? = some (p6 3 1 g (j9 a))) (hn : n ≤ β) (hl : a.length = len) : gL n H 6 (.own β g 0 len) = some (.vec len (j9 a)) := by
  rw [bT, if_neg (by omega)]
  exact fK hb hn (by rw [n5, hl, Nat.mul_one]) (by omega) frz_I
theorem app_li {is : List Int} {x : Int} {l : c7} (hn : is.length = n) (hl : n < 100000) : j6 cfg 3 (h ++ (p6 3 1 g (j9 is) :: ⟨0, false, 3, 1, [.int .i64 x], 0⟩ :: l)) (.own h.length g 0 n) (.own (h.length + 1) 0 0 1) = some (.own h.length (g + 1) 0 (n + 1), h ++ (p6 3 1 (g + 1) (j9 (is ++ [x])) :: ⟨0, false, 3, 1, [.int .i64 x], 0⟩ :: l)) := by
  subst hn
  rw [w9 (C := cfg) (K := 1) (m := 1) (new := [.int .i64 x]) (zs := j9 is) t166 rfl (by omega) t158 rfl (by omega) t139 rfl (by decide) (by omega), ← lA, nA]
  rfl
attribute [local go_sem] rd q9 bL lD pC UN Int.natCast_nonneg Int.natCast_inj Int.toNat_natCast_add_one kV wrap64 pU max2 FA n5 kA Option.bind_eq_bind
theorem EA {x y : Cf} (hl : x.st.length < 1000000) : CB 15 [.agg [.int .i64 x.d, .vec x.st.length (g8 x.st)], .agg [.int .i64 y.d, .vec y.st.length (g8 y.st)]] h (.bool (decide (x = y))) := by
  refine .bz Tryz.f15 38 ?_
  refine c13z ?_
  refine c123z ?_
  refine .spl 11 rfl rfl (fun e1 => ?_) (fun e1 => ?_)
  ·try simp only [e1]
   have qe1 := fact e1
   refine .m [(5, 11)] ?_
   refine c236z ?_
   exact .ret (.ex (hq := t38))
  try simp only [e1]
  have qe1 := fact e1
  refine .m [(5, 11)] ?_
  refine u2z ?_ ?_
  ·intro e2 qe2
   refine c16z ?_
   exact .ret (.ex (hq := t38))
  intro e2 qe2
  refine c119z ?_
  refine .c8 [2, 3] ?_
  refine c25z ?_
  refine .gC (fun m st => ∃ (i : Nat), (m = x.st.length - i ∧ ((∀ d, d < i → x.st.getD d (0, 0) = y.st.getD d (0, 0)) ∧ i ≤ x.st.length)) ∧ st = ⟨mkS 38 [(2, AV.ptr h.length 0 0), (3, AV.ptr (h.length + 1) 0 0), (5, AV.int .i64 ((i : Nat) : Int))], h ++ [⟨0, false, 46, 2, [.int .i64 x.d, .vec x.st.length (g8 x.st)], 0⟩, ⟨0, false, 46, 2, [.int .i64 y.d, .vec y.st.length (g8 y.st)], 0⟩]⟩) _ (.v ⟨0, ⟨rfl, ⟨t103, by omega⟩⟩, rfl⟩) ?_
  rintro m sl h' ⟨i, ⟨hm, ⟨hI, hi⟩⟩, hst⟩
  obtain ⟨rfl, rfl⟩ := St.mk.inj hst
  refine c0z ?_
  refine u2z ?_ ?_
  ·intro e3 qe3
   refine c5z ?_
   refine .ss u0 (mkP 11 [0, 1, 0, 7, 15, 0, 32, 0, 224, 480, 1023] []) ?_
   refine c42z ?_
   refine u2z ?_ ?_
   ·intro e4 qe4
    refine c16z ?_
    exact .ret (.ex (hq := t38))
   intro e4 qe4
   refine c3z ?_
   refine .c8 [2, 3, 5] ?_
   refine .rz ?_
   exact ⟨_, by omega, .v ⟨(i + 1), ⟨rfl, ⟨(fun d hd => if e : d = i then by rw [e]; exact pt_eq (by assumption) else hI d (by omega)), by omega⟩⟩, rfl⟩⟩
  intro e3 qe3
  refine c8z ?_
  refine c16z ?_
  exact .ret (.ex (hq := t38))
theorem KX (a b : List Cf) (hl : a.length < 1000000) (hs : ∀ x ∈ a, x.st.length < 1000000) : CB 10 [.vec a.length (o2 a), .vec b.length (o2 b)] h (.bool (decide (a = b))) := by
  refine .bz Tryz.f10 27 ?_
  refine c58z ?_
  refine u2z ?_ ?_
  ·intro e1 qe1
   refine c201z ?_
   exact ⟨[], _, (List.append_nil _).symm, t46, t72⟩
  intro e1 qe1
  refine .sk ?_
  refine c10z ?_
  refine .gC (fun m st => ∃ (i : Nat), (m = a.length - i ∧ ((∀ d, d < i → a.getD d pW = b.getD d pW) ∧ i ≤ a.length)) ∧ st = ⟨mkS 27 [(0, AV.vec a.length (o2 a)), (1, AV.vec b.length (o2 b)), (5, AV.int .i64 ((i : Nat) : Int))], h⟩) _ (.v ⟨0, ⟨rfl, ⟨t103, by omega⟩⟩, rfl⟩) ?_
  rintro m sl h' ⟨i, ⟨hm, ⟨hI, hi⟩⟩, hst⟩
  obtain ⟨rfl, rfl⟩ := St.mk.inj hst
  refine c0z ?_
  refine u2z ?_ ?_
  ·intro e2 qe2
   refine c5z ?_
   refine .ss u0 (mkP 10 [0, 0, 3, 7, 0, 0, 48, 112, 255, 511] []) ?_
   refine .k 8 [] ?_
   refine .ca rfl rfl (EA (x := a.getD i pW) (y := b.getD i pW) (hs _ (j8 (by omega)))) ?_
   refine .n [] ?_
   refine u2z ?_ ?_
   ·intro e3 qe3
    refine c201z ?_
    exact ⟨[], _, (List.append_nil _).symm, t46, t72⟩
   intro e3 qe3
   refine c3z ?_
   refine c206z ?_
   exact ⟨_, by omega, .v ⟨(i + 1), ⟨rfl, ⟨(fun d hd => if e : d = i then by rw [e]; simp_all else hI d (by omega)), by omega⟩⟩, rfl⟩⟩
  intro e2 qe2
  refine c202z ?_
  exact ⟨[], _, (List.append_nil _).symm, t46, t72⟩
theorem c_begM {c : Clo} (r : Int) : CB 16 [.agg [.vec c.insts.length (p4 c.insts), .vec c.calls.length (s3 c.calls), .vec c.roots.length (j9 c.roots)], .int .i64 r] h (.agg [.int .i64 0, .vec 1 [.int .i64 r, .int .i64 0]]) := by
  refine .bz Tryz.f16 9 ?_
  refine .z ?_
  refine c43z ?_
  exact ⟨_, _, rfl, DX (a := [(r, 0)]) t30 (by omega) rfl, by rfl⟩
theorem NO (r : Int) : CB 17 [.int .i64 r] h (.agg [.int .i64 0, .vec 1 [.int .i64 r, .int .i64 0]]) := by
  refine .bz Tryz.f17 7 ?_
  refine .z ?_
  refine c43z ?_
  exact ⟨_, _, rfl, DX (a := [(r, 0)]) t30 (by omega) rfl, by rfl⟩
attribute [local go_sem] uI app_pz
theorem c_grow0 : CB 103 [.j7, .int .i64 0] h (.vec 0 []) := by
  refine .bz Tryz.f103 27 ?_
  refine c58z ?_
  refine c18z ?_
  refine c0z ?_
  refine .c8 [0, 1] ?_
  refine c9z ?_
  refine .sk ?_
  refine c43z ?_
  exact ⟨[], _, (List.append_nil _).symm, t46, by rfl⟩
theorem c_growP (n : Nat) (h0 : 0 < n) (h1 : n < 100000) : CH 103 [.j7, .int .i64 ((n : Nat) : Int)] h (.own h.length 0 0 0) (h ++ [⟨0, false, 54, 2, (List.replicate n [.int .i64 0, .int .i64 0]).flatten, 0⟩]) := by
  refine .wz Tryz.f103 27 ?_
  refine c186z ?_
  intro e1 qe1
  refine .sk ?_
  refine c0z ?_
  refine .c8 [0, 1] ?_
  refine .z ?_
  refine uTbz ?_
  intro e2 qe2
  refine c203z ?_
  refine .c8 [0] ?_
  refine c43z ?_
  exact ⟨_, [], _, (List.append_nil _).symm, by simp, aB.newP (fun b hb => by rw [List.mem_singleton] at hb; subst hb; exact pln_z n), bT.trans (if_pos (by simp)), by exact ⟨rfl, rfl⟩⟩
theorem c_growQ (n : Nat) {z : Int} (h0 : 0 < n) (h1 : n < 100000) (hz : z = (n : Int)) : CH 103 [.j7, .int .i64 z] h (.own h.length 0 0 0) (h ++ [⟨0, false, 54, 2, (List.replicate n [.int .i64 0, .int .i64 0]).flatten, 0⟩]) := by
  subst hz; exact c_growP n h0 h1
theorem c_cat0  : CB 72 [.vec 2 [.vec 0 [], .vec 0 []]] h (.vec 0 []) := by
  refine .bz Tryz.f72 36 ?_
  refine c72z ?_
  refine g6.rounds 4 ?_
  refine c76z ?_
  refine c46z ?_
  refine c205z ?_
  refine c9z ?_
  refine c3z ?_
  refine c176z ?_
  refine c46z ?_
  refine c205z ?_
  refine c9z ?_
  refine c3z ?_
  refine c176z ?_
  refine c32z ?_
  refine c131z ?_
  refine .ca rfl rfl (c_grow0) ?_
  refine c146z ?_
  refine .c8 [0, 6] ?_
  refine c25z ?_
  refine g6.rounds 4 ?_
  refine c76z ?_
  refine c46z ?_
  refine .z ?_
  refine c2z ?_
  refine c217z ?_
  refine c46z ?_
  refine .z ?_
  refine c2z ?_
  refine c217z ?_
  refine c32z ?_
  refine c43z ?_
  exact ⟨[], _, (List.append_nil _).symm, t46, by rfl⟩
theorem c_catP (b : List (Int × Int)) (q : List (Int × Int)) (hb : b.length < 10000) (hq : q.length < 10000) (h0 : 0 < b.length + q.length) : CB 72 [.vec 2 [.vec b.length (g8 b), .vec q.length (g8 q)]] h (.vec (b.length + q.length) (g8 (b ++ q))) := by
  refine .bz Tryz.f72 36 ?_
  refine c72z ?_
  refine g6.rounds 4 ?_
  refine c76z ?_
  refine c46z ?_
  refine c205z ?_
  refine c93z ?_
  intro e1 qe1
  refine c3z ?_
  refine c176z ?_
  refine c46z ?_
  refine c205z ?_
  refine c93z ?_
  intro e2 qe2
  refine c3z ?_
  refine c176z ?_
  refine c32z ?_
  have hzl := @DY (b.length + q.length)
  have hov : (ovP (List.replicate (b.length + q.length) [AV.int .i64 0, AV.int .i64 0]).flatten 0 b).length = (b.length + q.length) * 2 := by unfold ovP over; simp only [List.length_append, List.length_take, List.length_drop, q9, hzl]; omega
  have hfin := over_pz (b := b) (q := q) hzl
  refine c131z ?_
  refine .ch rfl rfl (c_growQ (b.length + q.length) (by omega) (by omega) (by omega)) ?_
  refine c146z ?_
  refine .c8 [0, 6] ?_
  refine c25z ?_
  refine g6.rounds 4 ?_
  refine c76z ?_
  refine c46z ?_
  refine .z ?_
  refine c2z ?_
  refine c217z ?_
  refine c46z ?_
  refine .z ?_
  refine c2z ?_
  refine c217z ?_
  refine c32z ?_
  refine c43z ?_
  exact ⟨_, _, rfl, DW (a := b ++ q) (by rw [dX, hfin]; rfl) (Nat.le_refl _) (by simp), by rfl⟩
end Go.Proofs.YtapdldekgbbomaaGreat
end
section
namespace Go.Proofs.YtapdldekgbbomaaGreat
open Go.Ab Go.Un
set_option maxHeartbeats 400000
variable {n β g len : Nat} {H : c7}
theorem EB {a : List Cf} (hb : H[β]? = some ⟨g, false, 46, 2, o2 a, 0⟩) (hn : n ≤ β) (hl : a.length = len) : gL n H 6 (.own β g 0 len) = some (.vec len (o2 a)) := by
  subst hl
  rw [bT, if_neg (by omega), dK, hb]
  have h2 : 0 + a.length * 2 ≤ (o2 a).length := by rw [bL]; omega
  simp only [hn, and_self, if_true, Bool.false_eq_true, if_false, h2, List.drop_zero]
  rw [List.take_of_length_le (by rw [bL]; omega), (wW a).frz]
theorem E2 {a : List Cf} (hb : H[β]? = some (p6 46 2 g (o2 a))) (hn : n ≤ β) (hl : a.length = len) : gL n H 6 (.own β g 0 len) = some (.vec len (o2 a)) := by
  rw [bT, if_neg (by omega)]
  exact fK hb hn (by rw [bL, hl]; omega) (by omega) ((wW a).frz _ _ _)
theorem EC {γ k : Nat} {d : Int} {a : List (Int × Int)} (hb : H[γ]? = some ⟨0, false, 46, 2, [.int .i64 d, .own β g 0 k], 0⟩) (hc : H[β]? = some ⟨g, false, 54, 2, g8 a, 0⟩) (hn : n ≤ γ) (hm : n ≤ β) (hl : a.length = k) : gL n H 6 (.own γ 0 0 1) = some (.vec 1 [.int .i64 d, .vec k (g8 a)]) := by
  subst hl
  rw [bT, if_neg (by omega), dK, hb]
  have h2 : 0 + a.length * 2 ≤ (g8 a).length := by rw [q9]; omega
  have e : jD n H 4 (.own β g 0 a.length) = some (.vec a.length (g8 a)) := by
    rw [dK, hc]
    simp only [hm, and_self, if_true, Bool.false_eq_true, if_false, h2, List.drop_zero]
    rw [List.take_of_length_le t137, (wV a).frz]
  simp only [hn, and_self, if_true, Bool.false_eq_true, if_false, List.drop_zero, Nat.zero_add, Nat.one_mul, List.length_cons, List.length_nil, Nat.le_refl, Nat.reduceAdd, List.take_succ_cons, List.take_zero, o6, nL, e]
variable {u : Un} {c : Clo} {m i pc : Nat} {b : List (Int × Int)}
theorem ED {d : Int} (h : ((c9 u (c.insts.getD i c6)).getD pc g5).op = 8) : z1 u c m d b ((i : Int), (pc : Int)) = [⟨d, b⟩] := if_pos h
theorem EE {d : Int} (h : ((c9 u (c.insts.getD i c6)).getD pc g5).op = 2) : z1 u c m d b ((i : Int), (pc : Int)) = [⟨d, b ++ [((i : Int), (pc : Int) + 1), ((c.calls.getD i []).getD pc 0, 0)]⟩] := by
  have h8 : ¬ ((c9 u (c.insts.getD i c6)).getD pc g5).op = 8 := by omega
  exact (if_neg h8).trans (if_pos h)
theorem stepP_n {d : Int} (h8 : ¬ ((c9 u (c.insts.getD i c6)).getD pc g5).op = 8) (h2 : ¬ ((c9 u (c.insts.getD i c6)).getD pc g5).op = 2) (hr : 0 ≤ d + chI (c.insts.getD i c6) ((c9 u (c.insts.getD i c6)).getD pc g5) m ∧ d + chI (c.insts.getD i c6) ((c9 u (c.insts.getD i c6)).getD pc g5) m ≤ (fC (u.c4.getD m s8) : Int)) : z1 u c m d b ((i : Int), (pc : Int)) = (bO ((c9 u (c.insts.getD i c6)).getD pc g5) pc).map fun k => ⟨d + chI (c.insts.getD i c6) ((c9 u (c.insts.getD i c6)).getD pc g5) m, b ++ [((i : Int), k)]⟩ :=
  ((if_neg h8).trans (if_neg h2)).trans (if_pos hr)
theorem E3 {d : Int} (h8 : ¬ ((c9 u (c.insts.getD i c6)).getD pc g5).op = 8) (h2 : ¬ ((c9 u (c.insts.getD i c6)).getD pc g5).op = 2) (hr : ¬ (0 ≤ d + chI (c.insts.getD i c6) ((c9 u (c.insts.getD i c6)).getD pc g5) m ∧ d + chI (c.insts.getD i c6) ((c9 u (c.insts.getD i c6)).getD pc g5) m ≤ (fC (u.c4.getD m s8) : Int))) : z1 u c m d b ((i : Int), (pc : Int)) = [] :=
  ((if_neg h8).trans (if_neg h2)).trans (if_neg hr)
def EZ (u : Un) (c : Clo) (m d : Nat) (b : List (Int × Int)) (i pc j : Nat) : List Cf := ((bO ((c9 u (c.insts.getD i c6)).getD pc g5) pc).take j).map fun k => ⟨(d : Int) + chI (c.insts.getD i c6) ((c9 u (c.insts.getD i c6)).getD pc g5) m, b ++ [((i : Int), k)]⟩
variable {d j : Nat}
theorem lV (h : j ≤ (bO ((c9 u (c.insts.getD i c6)).getD pc g5) pc).length) : (EZ u c m d b i pc j).length = j := by
  rw [EZ, List.length_map, List.length_take]; omega
theorem EF (h : j < (bO ((c9 u (c.insts.getD i c6)).getD pc g5) pc).length) : EZ u c m d b i pc j ++ [⟨(d : Int) + chI (c.insts.getD i c6) ((c9 u (c.insts.getD i c6)).getD pc g5) m, b ++ [((i : Int), (bO ((c9 u (c.insts.getD i c6)).getD pc g5) pc).getD j 0)]⟩] = EZ u c m d b i pc (j + 1) := by
  unfold EZ
  generalize bO ((c9 u (c.insts.getD i c6)).getD pc g5) pc = K at h ⊢
  rw [List.take_add_one, List.getElem?_eq_getElem h, List.map_append]
  simp [List.getD, h]
theorem KY (h : (bO ((c9 u (c.insts.getD i c6)).getD pc g5) pc).length ≤ j) : EZ u c m d b i pc j = (bO ((c9 u (c.insts.getD i c6)).getD pc g5) pc).map fun k => ⟨(d : Int) + chI (c.insts.getD i c6) ((c9 u (c.insts.getD i c6)).getD pc g5) m, b ++ [((i : Int), k)]⟩ := by
  unfold EZ
  rw [List.take_of_length_le h]
theorem N1 : ((n + 1 : Nat) : Int) - 1 = (n : Int) := by omega
variable {h : c7}
theorem c_catQ (b q : List (Int × Int)) (hb : b.length < 10000) (hq : q.length < 10000) : CB 72 [.vec 2 [.vec b.length (g8 b), .vec q.length (g8 q)]] h (.vec (b.length + q.length) (g8 (b ++ q))) := by
  by_cases h0 : 0 < b.length + q.length
  · exact c_catP b q hb hq h0
  · obtain rfl : b = [] := List.length_eq_zero_iff.1 (by omega)
    obtain rfl : q = [] := List.length_eq_zero_iff.1 (by omega)
    exact c_cat0
theorem c_catO {b0 b1 : Blk} (b q : List (Int × Int)) (hb : b.length < 10000) (hq : q.length < 10000) : CH 72 [.own (h.length + 2) 0 0 2] (h ++ [b0, b1, ⟨0, false, 44, 1, [.vec b.length (g8 b), .vec q.length (g8 q)], 0⟩]) (.vec (b.length + q.length) (g8 (b ++ q))) (h ++ [b0, b1, ⟨0, false, 44, 1, [.vec b.length (g8 b), .vec q.length (g8 q)], 2⟩]) := by
  refine CallA.vF (β := h.length + 2) (off := 0) (len := 2) (b := ⟨0, false, 44, 1, [.vec b.length (g8 b), .vec q.length (g8 q)], 0⟩) (cs := [.vec b.length (g8 b), .vec q.length (g8 q)]) (args' := [.vec 2 [.vec b.length (g8 b), .vec q.length (g8 q)]]) t30 rfl (by simp) rfl ⟨.inr ⟨rfl, rfl⟩, trivial⟩ ?_
  rw [o8]
  exact c_catQ (h := h ++ [b0, b1, ⟨0, false, 44, 1, [.vec b.length (g8 b), .vec q.length (g8 q)], 2⟩]) b q hb hq
attribute [local go_sem] rd q9 bL lD pC UN Int.natCast_nonneg Int.natCast_inj Int.toNat_natCast_add_one kV wrap64 pU max2 FA n5 kA Option.bind_eq_bind N1 N0 Nat.sub_zero aO cR aE r9 jT jU gV qX oB qY E1 Nat.add_sub_cancel List.length_take
theorem c_wiV (d0 d : Int) (b : List (Int × Int)) (p : Int × Int) (hb : b.length < 10000) (q : List (Int × Int)) (hq : q.length < 10000) : CB 45 [.agg [.int .i64 d0, .vec (b.length + 1) (g8 (b ++ [p]))], .int .i64 d, .vec q.length (g8 q)] h (.agg [.int .i64 d, .vec (b.length + q.length) (g8 (b ++ q))]) := by
  refine .bz Tryz.f45 19 ?_
  refine c57z ?_
  refine .e 8 ?_
  refine .e 2 ?_
  refine .ch rfl rfl (c_catO b q hb hq) ?_
  refine .n ?_
  exact .ret (.ex (hq := by rfl))
theorem c_wiN (d0 d : Int) (b : List (Int × Int)) (p : Int × Int) (hb : b.length < 10000) : CB 45 [.agg [.int .i64 d0, .vec (b.length + 1) (g8 (b ++ [p]))], .int .i64 d, .j7] h (.agg [.int .i64 d, .vec b.length (g8 b)]) := by
  refine CallA.nilArg (args' := [.agg [.int .i64 d0, .vec (b.length + 1) (g8 (b ++ [p]))], .int .i64 d, .vec 0 []]) ⟨.inl rfl, .inl rfl, .inr ⟨rfl, rfl⟩, trivial⟩ ?_
  have := c_wiV (h := h) d0 d b p hb [] (by simp)
  rw [List.append_nil, List.length_nil, Nat.add_zero] at this
  exact this
theorem c_wiO (d0 d : Int) (b : List (Int × Int)) (p : Int × Int) (hb : b.length < 10000) (q : List (Int × Int)) (hq : q.length < 10000) {k : Nat} (hk : q.length = k) (hβ : H[β]? = some ⟨0, false, 54, 2, g8 q, 0⟩) : CH 45 [.agg [.int .i64 d0, .vec (b.length + 1) (g8 (b ++ [p]))], .int .i64 d, .own β 0 0 k] H (.agg [.int .i64 d, .vec (b.length + k) (g8 (b ++ q))]) (H.set β ⟨0, false, 54, 2, g8 q, k * 2⟩) := by
  subst hk
  have hl : q.length * 2 ≤ (g8 q).length := by rw [q9]; omega
  refine CallA.vF (β := β) (off := 0) (len := q.length) (b := ⟨0, false, 54, 2, g8 q, 0⟩) (cs := g8 q) (args' := [.agg [.int .i64 d0, .vec (b.length + 1) (g8 (b ++ [p]))], .int .i64 d, .vec q.length (g8 q)]) hβ rfl t156 ?_ ⟨.inl rfl, .inl rfl, .inr ⟨rfl, rfl⟩, trivial⟩ ?_
  · show o6 nB (List.take (q.length * 2) (List.drop 0 (g8 q))) = _
    rw [List.drop_zero, List.take_of_length_le t137]
    exact (wV q).LY
  · have e1 : cP ⟨0, false, 54, 2, g8 q, 0⟩ (0 + q.length * 2) = ⟨0, false, 54, 2, g8 q, q.length * 2⟩ := by
      simp only [cP, Nat.zero_add, Nat.zero_max]
    show CallA _ _ _ _ (H.set β (cP ⟨0, false, 54, 2, g8 q, 0⟩ (0 + q.length * 2))) _
    rw [e1]
    exact c_wiV d0 d b p hb q hq
attribute [local go_sem] app_li
theorem c_hasT (s i : Nat) (hs : s < 512) (hi : i ≤ 8) : CB 80 [.int .i64 ((s : Nat) : Int), .int .i64 ((i : Nat) : Int)] h (.bool (s.testBit i)) := by
  rw [← hasN hi]
  exact c_has8 s _ hs
theorem NP (s : Nat) (hs : s < 512) : CB 48 [.int .i64 ((s : Nat) : Int)] h (.vec (KV s).length (j9 (KV s))) := by
  refine .bz Tryz.f48 17 ?_
  refine c72z ?_
  refine g6.tF 3 rfl ?_
  refine .bX (fun m st => ∃ (i : Nat), (m = 9 - i ∧ (i ≤ 9)) ∧ st = ⟨mkS 17 [(0, AV.int .i64 ((s : Nat) : Int)), (3, AV.own h.length (kB s i).length 0 (kB s i).length), (5, AV.int .i64 ((i : Nat) : Int))], h ++ [p6 3 1 (kB s i).length (j9 (kB s i))]⟩) (.v ⟨0, ⟨rfl, by omega⟩, rfl⟩ (hs := t44)) ?_
  rintro m sl h' ⟨i, ⟨hm, hi⟩, hst⟩
  obtain ⟨rfl, rfl⟩ := St.mk.inj hst; clear hst
  have hln := T3 (s := s) i
  refine c13z ?_
  refine u2z ?_ ?_
  ·intro e1 qe1
   refine c193z ?_
   refine c38z ?_
   refine .ca rfl rfl (c_hasT s i hs (by omega)) ?_
   refine .nil ?_
   refine u2z ?_ ?_
   ·intro e2 qe2
    refine c2z ?_
    refine .c8 [0, 3, 5] ?_
    refine .rz ?_
    exact ⟨_, by omega, .v ⟨(i + 1), ⟨rfl, by omega⟩, rfl⟩ (he := by (rw [uE (by assumption)]; simp only [List.length_append, List.length_cons, List.length_nil, List.append_assoc, List.cons_append, List.nil_append]; rfl)) (hk := by exact (aB.refl _).app rfl ⟨.inr t98, trivial⟩) (hs := t44)⟩
   intro e2 qe2
   refine c3z ?_
   refine .rz ?_
   exact ⟨_, by omega, .v ⟨(i + 1), ⟨rfl, by omega⟩, rfl⟩ (he := by (rw [zR (by assumption)]; simp only [List.append_assoc, List.cons_append, List.nil_append]; rfl)) (hk := by exact (aB.refl _).app rfl ⟨.inr t98, trivial⟩) (hs := t44)⟩
  intro e1 qe1
  refine .exit ?_
  obtain rfl : i = 9 := by omega
  change g6 ..
  refine c43z ?_
  exact ⟨_, _, rfl, frz_li t166 (Nat.le_refl _) rfl, by rfl⟩
variable {mx : Nat}
theorem NQ (hu : WU u) (wc : WC u c) (hmx : mx < u.c4.length) (hd : d ≤ fC (u.c4.getD mx s8)) (hb : b.length < 1000) (hi : i < c.insts.length) (hpc : pc < (c9 u (c.insts.getD i c6)).length) : CB 46 [.agg [.vec u.globals.length (j9 u.globals), .vec u.c4.length (g9 u.c4), .vec u.procs.length (n7 u.procs), .int .i64 u.main], .agg [.int .i64 (c.insts.getD i c6).proc, .vec (c.insts.getD i c6).l5.length (j9 (c.insts.getD i c6).l5)], .int .i64 ((pc : Nat) : Int), .int .i64 ((mx : Nat) : Int)] h (DL (dhN (fC (u.c4.getD mx s8)) (chI (c.insts.getD i c6) ((c9 u (c.insts.getD i c6)).getD pc g5) (mx : Int)))) :=
  (c_rel hu (wc.wi _ (j8 hi)) hpc hmx).mono fun y k hq => ⟨hq.1.trans (vec_sh _ _), hq.2⟩
variable {M : Mx}
theorem NR {ch : Int} (hd : d ≤ 8) : CB 49 [DL (dhN (fC M) ch), .int .i64 ((2 ^ d : Nat) : Int)] h (.int .i64 ((applyN (dhN (fC M) ch) (2 ^ d) : Nat) : Int)) :=
  KK _ _ (sh_lt eE) (DZ hd) (by rw [sh_len]; have := eE (m := M); omega)
theorem c_listI {it : v5} {x : Ins} {mz : Int} (hd : d ≤ fC M) (hr : 0 ≤ (d : Int) + chI it x mz ∧ (d : Int) + chI it x mz ≤ (fC M : Int)) : CB 48 [.int .i64 ((applyN (dhN (fC M) (chI it x mz)) (2 ^ d) : Nat) : Int)] h (.vec 1 [.int .i64 ((d : Int) + chI it x mz)]) := by
  have := NP (h := h) (applyN (dhN (fC M) (chI it x mz)) (2 ^ d)) sX
  rw [uF hd, if_pos hr] at this
  exact this
theorem c_listO {it : v5} {x : Ins} {mz : Int} (hd : d ≤ fC M) (hr : ¬ (0 ≤ (d : Int) + chI it x mz ∧ (d : Int) + chI it x mz ≤ (fC M : Int))) : CB 48 [.int .i64 ((applyN (dhN (fC M) (chI it x mz)) (2 ^ d) : Nat) : Int)] h (.vec 0 []) := by
  have := NP (h := h) (applyN (dhN (fC M) (chI it x mz)) (2 ^ d)) sX
  rw [uF hd, if_neg hr] at this
  exact this
theorem KZ {l : c7} {b0 b1 b2 b3 b4 b6 : Blk} {T : List Cf} {dd : Int} {p : Int × Int} (hn : T.length = n) (hl : n < 1000) : j6 cfg 46 (h ++ (b0 :: b1 :: b2 :: b3 :: b4 :: p6 46 2 g (o2 T) :: b6 :: ⟨0, false, 46, 2, [.int .i64 dd, .vec (b.length + 1) (g8 (b ++ [p]))], 0⟩ :: l)) (.own (h.length + 5) g 0 n) (.own (h.length + 7) 0 0 1) = some (.own (h.length + 5) (g + 1) 0 (n + 1), h ++ (b0 :: b1 :: b2 :: b3 :: b4 :: p6 46 2 (g + 1) (o2 (T ++ [⟨dd, b ++ [p]⟩])) :: b6 :: ⟨0, false, 46, 2, [.int .i64 dd, .vec (b.length + 1) (g8 (b ++ [p]))], 0⟩ :: l)) := by
  subst hn
  rw [w9 (C := cfg) (K := 2) (m := 1) (new := [.int .i64 dd, .vec (b.length + 1) (g8 (b ++ [p]))]) (zs := o2 T) t30 rfl (by omega) (by rw [bL]; omega) rfl (by omega) t139 rfl (by decide) (by omega), o8, show o2 T ++ [.int .i64 dd, .vec (b.length + 1) (g8 (b ++ [p]))] = o2 (T ++ [⟨dd, b ++ [p]⟩]) from by simp [o2, wU]]
  rfl
theorem EG (h : i < c.calls.length) : List.take 1 (List.drop i (s3 c.calls)) = [.vec (c.calls.getD i []).length (j9 (c.calls.getD i []))] := by
  unfold s3
  rw [← List.map_drop, ← List.map_take, List.drop_eq_getElem_cons h, List.take_succ_cons, List.take_zero]
  simp [List.getD, h]
attribute [local go_sem] KZ EG lS shl1P
theorem LA (hu : WU u) (wc : WC u c) (hmx : mx < u.c4.length) (hd : d ≤ fC (u.c4.getD mx s8)) (hb : b.length < 1000) (hi : i < c.insts.length) (hpc : pc < (c9 u (c.insts.getD i c6)).length) (h8 : ((c9 u (c.insts.getD i c6)).getD pc g5).op = 8) : CB 26 [.agg [.vec u.globals.length (j9 u.globals), .vec u.c4.length (g9 u.c4), .vec u.procs.length (n7 u.procs), .int .i64 u.main, .vec c.insts.length (p4 c.insts), .vec c.calls.length (s3 c.calls), .vec c.roots.length (j9 c.roots), .int .i64 ((mx : Nat) : Int)], .agg [.int .i64 ((d : Nat) : Int), .vec (b.length + 1) (g8 (b ++ [((i : Int), (pc : Int))]))]] h (.vec (z1 u c mx (d : Int) b ((i : Int), (pc : Int))).length (o2 (z1 u c mx (d : Int) b ((i : Int), (pc : Int))))) := by
  refine .bz Tryz.f26 124 ?_
  have w : WIt u (c.insts.getD i c6) := wc.wi _ (j8 hi)
  have w1 := w.lo
  have w2 := w.hi
  have hsz : (c9 u (c.insts.getD i c6)).length ≤ 1664 := s4 hu w
  have hwl := wc.len
  have hwc := wc.cl
  have hwr := wc.cll i hi
  have hml := hu.ml
  have hcp := eE (m := (u.c4.getD mx s8))
  have hnl := eF (x := ((c9 u (c.insts.getD i c6)).getD pc g5)) (pc := pc)
  refine c186z ?_
  intro e1 qe1
  refine .sk ?_
  refine c248z ?_
  refine c114z ?_
  refine c13z ?_
  refine c67z ?_
  refine c42z ?_
  refine c191z ?_
  refine .z ?_
  refine uTbz ?_
  intro e2 qe2
  refine c20z ?_
  refine .ca rfl rfl (c_wiN _ _ b _ (by omega)) ?_
  refine c158z ?_
  exact ⟨_, _, rfl, EB (a := [⟨(d : Int), b⟩]) t30 (by omega) rfl, by (rw [ED h8]; rfl)⟩
theorem LB (hu : WU u) (wc : WC u c) (hmx : mx < u.c4.length) (hd : d ≤ fC (u.c4.getD mx s8)) (hb : b.length < 1000) (hi : i < c.insts.length) (hpc : pc < (c9 u (c.insts.getD i c6)).length) (h2 : ((c9 u (c.insts.getD i c6)).getD pc g5).op = 2) : CB 26 [.agg [.vec u.globals.length (j9 u.globals), .vec u.c4.length (g9 u.c4), .vec u.procs.length (n7 u.procs), .int .i64 u.main, .vec c.insts.length (p4 c.insts), .vec c.calls.length (s3 c.calls), .vec c.roots.length (j9 c.roots), .int .i64 ((mx : Nat) : Int)], .agg [.int .i64 ((d : Nat) : Int), .vec (b.length + 1) (g8 (b ++ [((i : Int), (pc : Int))]))]] h (.vec (z1 u c mx (d : Int) b ((i : Int), (pc : Int))).length (o2 (z1 u c mx (d : Int) b ((i : Int), (pc : Int))))) := by
  refine .bz Tryz.f26 124 ?_
  have w : WIt u (c.insts.getD i c6) := wc.wi _ (j8 hi)
  have w1 := w.lo
  have w2 := w.hi
  have hsz : (c9 u (c.insts.getD i c6)).length ≤ 1664 := s4 hu w
  have hwl := wc.len
  have hwc := wc.cl
  have hwr := wc.cll i hi
  have hml := hu.ml
  have hcp := eE (m := (u.c4.getD mx s8))
  have hnl := eF (x := ((c9 u (c.insts.getD i c6)).getD pc g5)) (pc := pc)
  refine c186z ?_
  intro e1 qe1
  refine .sk ?_
  refine c248z ?_
  refine c114z ?_
  refine c13z ?_
  refine c67z ?_
  refine c42z ?_
  refine c191z ?_
  refine c93z ?_
  intro e2 qe2
  refine .z ?_
  refine uTbz ?_
  intro e3 qe3
  refine .sm u0 (mkP 20 [0, 0, 2, 0, 0, 16, 48, 0, 128, 496, 1008, 0, 2048, 8176, 16368, 32752, 65528, 131071, 262143, 524287] [16, 17, 18]) [0, 1, 2] ?_
  refine cA.p (pd := []) 16 ?_
  refine cA.p 1 ?_
  refine cA.p7 rfl rfl rfl rfl rfl hb45 (c_wiO _ _ b _ (by omega) [((i : Int), (pc : Int) + 1), ((c.calls.getD i []).getD pc 0, 0)] (by simp) rfl t30) ?_
  refine cA.p 2 ?_
  refine cA.nil t5 ?_
  refine c4z ?_
  exact ⟨_, _, rfl, EB (a := [⟨(d : Int), b ++ [((i : Int), (pc : Int) + 1), ((c.calls.getD i []).getD pc 0, 0)]⟩]) (by rw [s6]; simp only [o2, wU, List.flatMap_cons, List.flatMap_nil, List.append_nil, List.length_append, List.length_cons, List.length_nil]; rfl) (by omega) rfl, by (rw [EE h2]; rfl)⟩
theorem LC (hu : WU u) (wc : WC u c) (hmx : mx < u.c4.length) (hd : d ≤ fC (u.c4.getD mx s8)) (hb : b.length < 1000) (hi : i < c.insts.length) (hpc : pc < (c9 u (c.insts.getD i c6)).length) (h8 : ¬ ((c9 u (c.insts.getD i c6)).getD pc g5).op = 8) (h2 : ¬ ((c9 u (c.insts.getD i c6)).getD pc g5).op = 2) (hr : 0 ≤ (d : Int) + chI (c.insts.getD i c6) ((c9 u (c.insts.getD i c6)).getD pc g5) (mx : Int) ∧ (d : Int) + chI (c.insts.getD i c6) ((c9 u (c.insts.getD i c6)).getD pc g5) (mx : Int) ≤ (fC (u.c4.getD mx s8) : Int)) : CB 26 [.agg [.vec u.globals.length (j9 u.globals), .vec u.c4.length (g9 u.c4), .vec u.procs.length (n7 u.procs), .int .i64 u.main, .vec c.insts.length (p4 c.insts), .vec c.calls.length (s3 c.calls), .vec c.roots.length (j9 c.roots), .int .i64 ((mx : Nat) : Int)], .agg [.int .i64 ((d : Nat) : Int), .vec (b.length + 1) (g8 (b ++ [((i : Int), (pc : Int))]))]] h (.vec (z1 u c mx (d : Int) b ((i : Int), (pc : Int))).length (o2 (z1 u c mx (d : Int) b ((i : Int), (pc : Int))))) := by
  refine .bz Tryz.f26 124 ?_
  have w : WIt u (c.insts.getD i c6) := wc.wi _ (j8 hi)
  have w1 := w.lo
  have w2 := w.hi
  have hsz : (c9 u (c.insts.getD i c6)).length ≤ 1664 := s4 hu w
  have hwl := wc.len
  have hwc := wc.cl
  have hwr := wc.cll i hi
  have hml := hu.ml
  have hcp := eE (m := (u.c4.getD mx s8))
  have hnl := eF (x := ((c9 u (c.insts.getD i c6)).getD pc g5)) (pc := pc)
  refine c186z ?_
  intro e1 qe1
  refine .sk ?_
  refine c248z ?_
  refine c114z ?_
  refine c13z ?_
  refine c67z ?_
  refine c42z ?_
  refine c191z ?_
  refine c93z ?_
  intro e2 qe2
  refine c93z ?_
  intro e3 qe3
  refine c3z ?_
  refine c57z ?_
  refine .e 7 ?_
  refine .ca rfl rfl (NQ hu wc hmx hd hb hi hpc) ?_
  refine c146z ?_
  refine .c8 [2, 3, 5, 6, 8, 9] ?_
  refine c27z ?_
  refine .ca rfl rfl (DI hu w hpc) ?_
  refine c141z ?_
  refine g6.tF 8 rfl ?_
  refine .bX (fun m st => ∃ (j : Nat), (m = (bO ((c9 u (c.insts.getD i c6)).getD pc g5) pc).length - j ∧ (j ≤ (bO ((c9 u (c.insts.getD i c6)).getD pc g5) pc).length)) ∧ st = ⟨mkS 124 [(3, AV.ptr (h.length + 1) 0 0), (5, AV.ptr (h.length + 2) 0 0), (8, AV.own (h.length + 5) j 0 j), (9, DL (dhN (fC (u.c4.getD mx s8)) (chI (c.insts.getD i c6) ((c9 u (c.insts.getD i c6)).getD pc g5) (mx : Int)))), (93, AV.vec (bO ((c9 u (c.insts.getD i c6)).getD pc g5) pc).length (j9 (bO ((c9 u (c.insts.getD i c6)).getD pc g5) pc))), (94, AV.int .i64 (((bO ((c9 u (c.insts.getD i c6)).getD pc g5) pc).length : Nat) : Int)), (95, AV.int .i64 ((j : Nat) : Int))], h ++ [⟨0, false, 81, 8, [.vec u.globals.length (j9 u.globals), .vec u.c4.length (g9 u.c4), .vec u.procs.length (n7 u.procs), .int .i64 u.main, .vec c.insts.length (p4 c.insts), .vec c.calls.length (s3 c.calls), .vec c.roots.length (j9 c.roots), .int .i64 ((mx : Nat) : Int)], 0⟩, ⟨0, false, 46, 2, [.int .i64 ((d : Nat) : Int), .vec (b.length + 1) (g8 (b ++ [((i : Int), (pc : Int))]))], 0⟩, ⟨0, false, 54, 2, [.int .i64 ((i : Nat) : Int), .int .i64 ((pc : Nat) : Int)], 0⟩, ⟨0, false, 67, 2, [.int .i64 (c.insts.getD i c6).proc, .vec (c.insts.getD i c6).l5.length (j9 (c.insts.getD i c6).l5)], 0⟩, ⟨0, false, 54, 2, [.int .i64 ((i : Nat) : Int), .int .i64 ((pc : Int) + 1)], 0⟩, p6 46 2 j (o2 (EZ u c mx d b i pc j))]⟩) (.v ⟨0, ⟨rfl, by omega⟩, rfl⟩ (hs := t29)) ?_
  rintro m sl h' ⟨j, ⟨hm, hj⟩, hst⟩
  obtain ⟨rfl, rfl⟩ := St.mk.inj hst; clear hst
  have hol := lV (u := u) (c := c) (m := mx) (d := d) (b := b) (i := i) (pc := pc) (j := j) hj
  refine c13z ?_
  refine u2z ?_ ?_
  ·intro e4 qe4
   refine c193z ?_
   refine c24z ?_
   refine .ca rfl rfl (NR (by omega)) ?_
   refine .ca rfl rfl (c_listI hd hr) ?_
   refine c141z ?_
   refine g6.rounds 3 ?_
   change g6 _ _ _ _ _
   refine .c8 [3, 5, 8, 9, 11, 93, 94, 95, 104, 105, 106] ?_
   refine c13z ?_
   refine c46z ?_
   refine .z ?_
   refine .r ?_
   refine .e 8 ?_
   refine .ch rfl rfl (c_wiO _ _ b _ (by omega) [((i : Int), (bO ((c9 u (c.insts.getD i c6)).getD pc g5) pc).getD j 0)] (by simp) rfl t30) ?_
   refine c92z ?_
   refine .c8 [3, 5, 8, 9, 11, 93, 94, 95, 104, 105, 106] ?_
   refine c176z ?_
   refine c32z ?_
   refine .rz ?_
   exact ⟨_, by omega, .v ⟨(j + 1), ⟨rfl, by omega⟩, rfl⟩ (he := t145) (hk := by exact (aB.refl _).app rfl ⟨.inl rfl, .inl rfl, .inl rfl, .inl rfl, .inl rfl, .inr (by rw [p9]; exact (wW _).refs _), trivial⟩) (hs := t29)⟩
  intro e4 qe4
  refine c202z ?_
  exact ⟨_, _, rfl, E2 t30 (by omega) (lV hj), t164⟩
theorem LD (hu : WU u) (wc : WC u c) (hmx : mx < u.c4.length) (hd : d ≤ fC (u.c4.getD mx s8)) (hb : b.length < 1000) (hi : i < c.insts.length) (hpc : pc < (c9 u (c.insts.getD i c6)).length) (h8 : ¬ ((c9 u (c.insts.getD i c6)).getD pc g5).op = 8) (h2 : ¬ ((c9 u (c.insts.getD i c6)).getD pc g5).op = 2) (hr : ¬ (0 ≤ (d : Int) + chI (c.insts.getD i c6) ((c9 u (c.insts.getD i c6)).getD pc g5) (mx : Int) ∧ (d : Int) + chI (c.insts.getD i c6) ((c9 u (c.insts.getD i c6)).getD pc g5) (mx : Int) ≤ (fC (u.c4.getD mx s8) : Int))) : CB 26 [.agg [.vec u.globals.length (j9 u.globals), .vec u.c4.length (g9 u.c4), .vec u.procs.length (n7 u.procs), .int .i64 u.main, .vec c.insts.length (p4 c.insts), .vec c.calls.length (s3 c.calls), .vec c.roots.length (j9 c.roots), .int .i64 ((mx : Nat) : Int)], .agg [.int .i64 ((d : Nat) : Int), .vec (b.length + 1) (g8 (b ++ [((i : Int), (pc : Int))]))]] h (.vec (z1 u c mx (d : Int) b ((i : Int), (pc : Int))).length (o2 (z1 u c mx (d : Int) b ((i : Int), (pc : Int))))) := by
  refine .bz Tryz.f26 124 ?_
  have w : WIt u (c.insts.getD i c6) := wc.wi _ (j8 hi)
  have w1 := w.lo
  have w2 := w.hi
  have hsz : (c9 u (c.insts.getD i c6)).length ≤ 1664 := s4 hu w
  have hwl := wc.len
  have hwc := wc.cl
  have hwr := wc.cll i hi
  have hml := hu.ml
  have hcp := eE (m := (u.c4.getD mx s8))
  have hnl := eF (x := ((c9 u (c.insts.getD i c6)).getD pc g5)) (pc := pc)
  refine c186z ?_
  intro e1 qe1
  refine .sk ?_
  refine c248z ?_
  refine c114z ?_
  refine c13z ?_
  refine c67z ?_
  refine c42z ?_
  refine c191z ?_
  refine c93z ?_
  intro e2 qe2
  refine c93z ?_
  intro e3 qe3
  refine c3z ?_
  refine c57z ?_
  refine .e 7 ?_
  refine .ca rfl rfl (NQ hu wc hmx hd hb hi hpc) ?_
  refine c146z ?_
  refine .c8 [2, 3, 5, 6, 8, 9] ?_
  refine c27z ?_
  refine .ca rfl rfl (DI hu w hpc) ?_
  refine c141z ?_
  refine g6.tF 8 rfl ?_
  refine .bX (fun m st => ∃ (j : Nat), (m = (bO ((c9 u (c.insts.getD i c6)).getD pc g5) pc).length - j ∧ (j ≤ (bO ((c9 u (c.insts.getD i c6)).getD pc g5) pc).length)) ∧ st = ⟨mkS 124 [(3, AV.ptr (h.length + 1) 0 0), (5, AV.ptr (h.length + 2) 0 0), (8, AV.own (h.length + 5) 0 0 0), (9, DL (dhN (fC (u.c4.getD mx s8)) (chI (c.insts.getD i c6) ((c9 u (c.insts.getD i c6)).getD pc g5) (mx : Int)))), (93, AV.vec (bO ((c9 u (c.insts.getD i c6)).getD pc g5) pc).length (j9 (bO ((c9 u (c.insts.getD i c6)).getD pc g5) pc))), (94, AV.int .i64 (((bO ((c9 u (c.insts.getD i c6)).getD pc g5) pc).length : Nat) : Int)), (95, AV.int .i64 ((j : Nat) : Int))], h ++ [⟨0, false, 81, 8, [.vec u.globals.length (j9 u.globals), .vec u.c4.length (g9 u.c4), .vec u.procs.length (n7 u.procs), .int .i64 u.main, .vec c.insts.length (p4 c.insts), .vec c.calls.length (s3 c.calls), .vec c.roots.length (j9 c.roots), .int .i64 ((mx : Nat) : Int)], 0⟩, ⟨0, false, 46, 2, [.int .i64 ((d : Nat) : Int), .vec (b.length + 1) (g8 (b ++ [((i : Int), (pc : Int))]))], 0⟩, ⟨0, false, 54, 2, [.int .i64 ((i : Nat) : Int), .int .i64 ((pc : Nat) : Int)], 0⟩, ⟨0, false, 67, 2, [.int .i64 (c.insts.getD i c6).proc, .vec (c.insts.getD i c6).l5.length (j9 (c.insts.getD i c6).l5)], 0⟩, ⟨0, false, 54, 2, [.int .i64 ((i : Nat) : Int), .int .i64 ((pc : Int) + 1)], 0⟩, p6 46 2 0 []]⟩) (.v ⟨0, ⟨rfl, by omega⟩, rfl⟩ (hs := t29)) ?_
  rintro m sl h' ⟨j, ⟨hm, hj⟩, hst⟩
  obtain ⟨rfl, rfl⟩ := St.mk.inj hst; clear hst
  have hol := lV (u := u) (c := c) (m := mx) (d := d) (b := b) (i := i) (pc := pc) (j := j) hj
  refine c13z ?_
  refine u2z ?_ ?_
  ·intro e4 qe4
   refine c193z ?_
   refine c24z ?_
   refine .ca rfl rfl (NR (by omega)) ?_
   refine .ca rfl rfl (c_listO hd hr) ?_
   refine c141z ?_
   refine g6.rounds 3 ?_
   change g6 _ _ _ _ _
   refine .c8 [3, 5, 8, 9, 11, 93, 94, 95, 104, 105, 106] ?_
   refine c13z ?_
   refine c32z ?_
   refine .rz ?_
   exact ⟨_, by omega, .v ⟨(j + 1), ⟨rfl, by omega⟩, rfl⟩ (hk := by exact (aB.refl _).app rfl ⟨.inl rfl, .inl rfl, .inl rfl, .inl rfl, .inl rfl, .inl rfl, trivial⟩) (hs := t29)⟩
  intro e4 qe4
  refine c202z ?_
  exact ⟨_, _, rfl, E2 (a := []) t30 (by omega) rfl, by (rw [E3 h8 h2 hr]; rfl)⟩
theorem LF (hu : WU u) (wc : WC u c) (hmx : mx < u.c4.length) (hd : d ≤ fC (u.c4.getD mx s8)) (hb : b.length < 1000) (hi : i < c.insts.length) (hpc : pc < (c9 u (c.insts.getD i c6)).length) : CB 26 [.agg [.vec u.globals.length (j9 u.globals), .vec u.c4.length (g9 u.c4), .vec u.procs.length (n7 u.procs), .int .i64 u.main, .vec c.insts.length (p4 c.insts), .vec c.calls.length (s3 c.calls), .vec c.roots.length (j9 c.roots), .int .i64 ((mx : Nat) : Int)], .agg [.int .i64 ((d : Nat) : Int), .vec (b.length + 1) (g8 (b ++ [((i : Int), (pc : Int))]))]] h (.vec (z1 u c mx (d : Int) b ((i : Int), (pc : Int))).length (o2 (z1 u c mx (d : Int) b ((i : Int), (pc : Int))))) := by
  by_cases h8 : ((c9 u (c.insts.getD i c6)).getD pc g5).op = 8
  · exact LA hu wc hmx hd hb hi hpc h8
  by_cases h2 : ((c9 u (c.insts.getD i c6)).getD pc g5).op = 2
  · exact LB hu wc hmx hd hb hi hpc h2
  by_cases hr : 0 ≤ (d : Int) + chI (c.insts.getD i c6) ((c9 u (c.insts.getD i c6)).getD pc g5) (mx : Int) ∧ (d : Int) + chI (c.insts.getD i c6) ((c9 u (c.insts.getD i c6)).getD pc g5) (mx : Int) ≤ (fC (u.c4.getD mx s8) : Int)
  · exact LC hu wc hmx hd hb hi hpc h8 h2 hr
  · exact LD hu wc hmx hd hb hi hpc h8 h2 hr
theorem LG (hu : WU u) (wc : WC u c) (hmx : mx < u.c4.length) (hd : d ≤ fC (u.c4.getD mx s8)) (hb : b.length < 1000) (hi : i < c.insts.length) (hpc : pc < (c9 u (c.insts.getD i c6)).length) : CB 18 [.agg [.vec u.globals.length (j9 u.globals), .vec u.c4.length (g9 u.c4), .vec u.procs.length (n7 u.procs), .int .i64 u.main], .agg [.vec c.insts.length (p4 c.insts), .vec c.calls.length (s3 c.calls), .vec c.roots.length (j9 c.roots)], .int .i64 ((mx : Nat) : Int), .agg [.int .i64 ((d : Nat) : Int), .vec (b.length + 1) (g8 (b ++ [((i : Int), (pc : Int))]))]] h (.vec (z1 u c mx (d : Int) b ((i : Int), (pc : Int))).length (o2 (z1 u c mx (d : Int) b ((i : Int), (pc : Int))))) := by
  refine .bz Tryz.f18 15 ?_
  refine .z ?_
  refine c27z ?_
  refine .ca rfl rfl (LF hu wc hmx hd hb hi hpc) ?_
  refine .n ?_
  exact .ret (.ex (hq := by rfl))
end Go.Proofs.YtapdldekgbbomaaGreat
end
section
namespace Go.Proofs.YtapdldekgbbomaaGreat
open Go.Ab Go.Un
def gP (g n : Nat) : Nat := if n = 0 then g else g + 1
variable {g n m : Nat} {a q : List (Int × Int)}
theorem wX {H : c7} {β : Nat} {src : AV} (hb : H[β]? = some ⟨g, false, 54, 2, g8 a, 0⟩) (hn : a.length = n) (hm : q.length = m) (hs : rd H 2 src = some (g8 q)) (hl : lenOf src = some m) (h1 : n < 10000) (h2 : m < 10000) : j6 cfg 54 H (.own β g 0 n) src = some (.own β (gP g m) 0 (n + m), H.set β ⟨gP g m, false, 54, 2, g8 (a ++ q), 0⟩) := by
  subst hn hm
  have e1 : cfg.sz 54 = 2 := rfl
  have e2 : (cfg.ti 54).bytes = 16 := rfl
  have k1 : a.length + q.length ≤ maxLen := by
    have : (20000 : Nat) ≤ maxLen := by decide
    omega
  have k2 : (a.length + q.length) * 16 ≤ 140737488355328 := by omega
  have ea : g8 (a ++ q) = g8 a ++ g8 q := by simp [g8]
  cases q with
  | nil =>
    have hst : H.set β ⟨g, false, 54, 2, g8 a, 0⟩ = H := vL hb
    simp only [List.length_nil, Nat.add_zero] at k1 k2
    have hs' : rd H 2 src = some [] := hs
    have hl' : lenOf src = some 0 := hl
    simp [j6, hs', hl', e1, e2, hb, gP, k1, k2, hst]
  | cons x q =>
    have k3 : a.length * 2 ≤ (g8 a).length := by rw [q9]; omega
    have k4 : ¬ (a.length + (q.length + 1)) * 2 ≤ (g8 a).length := by rw [q9]; omega
    have k5 : (g8 (x :: q)).length = (q.length + 1) * 2 := by rw [q9]; simp only [List.length_cons]; omega
    have k6 : List.take (a.length * 2) (g8 a) = g8 a := List.take_of_length_le t137
    simp only [List.length_cons] at k1 k2 hl
    simp [j6, hs, hl, e1, e2, hb, gP, k1, k2, k3, k4, k5, k6, ea]
theorem NS {H : c7} {β : Nat} (hb : H[β]? = some ⟨g, false, 54, 2, g8 q, 0⟩) (hn : q.length = n) : rd H 2 (.own β g 0 n) = some (g8 q) := by
  subst hn
  have k : 0 + q.length * 2 ≤ (g8 q).length := by rw [q9]; omega
  have k6 : List.take (q.length * 2) (g8 q) = g8 q := List.take_of_length_le t137
  simp only [rd, hb, if_true, Bool.false_eq_true, if_false, true_and, k, List.drop_zero, k6]
variable {h l : c7} {b0 b1 b2 b3 b4 b5 : Blk}
theorem app_b6 (hm : q.length = m) (h2 : m < 10000) : j6 cfg 54 (h ++ (b0 :: b1 :: b2 :: b3 :: b4 :: b5 :: ⟨g, false, 54, 2, [], 0⟩ :: l)) (.own (h.length + 6) g 0 0) (.vec m (g8 q)) = some (.own (h.length + 6) (gP g m) 0 m, h ++ (b0 :: b1 :: b2 :: b3 :: b4 :: b5 :: ⟨gP g m, false, 54, 2, g8 q, 0⟩ :: l)) := by
  rw [wX (β := h.length + 6) (g := g) (n := 0) (m := m) (a := []) (q := q) t30 rfl hm rfl rfl (by omega) h2, o8, Nat.zero_add, List.nil_append]
  rfl
theorem app_b7 {b6 : Blk} (hm : q.length = m) (h2 : m < 10000) : j6 cfg 54 (h ++ (b0 :: b1 :: b2 :: b3 :: b4 :: b5 :: b6 :: ⟨g, false, 54, 2, [], 0⟩ :: l)) (.own (h.length + 7) g 0 0) (.vec m (g8 q)) = some (.own (h.length + 7) (gP g m) 0 m, h ++ (b0 :: b1 :: b2 :: b3 :: b4 :: b5 :: b6 :: ⟨gP g m, false, 54, 2, g8 q, 0⟩ :: l)) := by
  rw [wX (β := h.length + 7) (g := g) (n := 0) (m := m) (a := []) (q := q) t30 rfl hm rfl rfl (by omega) h2, o8, Nat.zero_add, List.nil_append]
  rfl
theorem app_c6 {x0 y0 x1 y1 : Int} (hn : a.length = n) (h1 : n < 1000) : j6 cfg 54 (h ++ (b0 :: b1 :: b2 :: b3 :: b4 :: b5 :: ⟨g, false, 54, 2, g8 a, 0⟩ :: ⟨1, false, 54, 2, [.int .i64 x0, .int .i64 y0, .int .i64 x1, .int .i64 y1], 0⟩ :: l)) (.own (h.length + 6) g 0 n) (.own (h.length + 7) 1 0 2) = some (.own (h.length + 6) (g + 1) 0 (n + 2), h ++ (b0 :: b1 :: b2 :: b3 :: b4 :: b5 :: ⟨g + 1, false, 54, 2, g8 (a ++ [(x0, y0), (x1, y1)]), 0⟩ :: ⟨1, false, 54, 2, [.int .i64 x0, .int .i64 y0, .int .i64 x1, .int .i64 y1], 0⟩ :: l)) := by
  rw [wX (β := h.length + 6) (g := g) (n := n) (m := 2) (a := a) (q := [(x0, y0), (x1, y1)]) t30 hn rfl (NS (β := h.length + 7) (g := 1) (n := 2) (q := [(x0, y0), (x1, y1)]) t30 rfl) rfl (by omega) (by simp), o8]
  rfl
theorem app_c7 {b6 : Blk} {x0 y0 : Int} (hn : a.length = n) (h1 : n < 1000) : j6 cfg 54 (h ++ (b0 :: b1 :: b2 :: b3 :: b4 :: b5 :: b6 :: ⟨g, false, 54, 2, g8 a, 0⟩ :: ⟨1, false, 54, 2, [.int .i64 x0, .int .i64 y0], 0⟩ :: l)) (.own (h.length + 7) g 0 n) (.own (h.length + 8) 1 0 1) = some (.own (h.length + 7) (g + 1) 0 (n + 1), h ++ (b0 :: b1 :: b2 :: b3 :: b4 :: b5 :: b6 :: ⟨g + 1, false, 54, 2, g8 (a ++ [(x0, y0)]), 0⟩ :: ⟨1, false, 54, 2, [.int .i64 x0, .int .i64 y0], 0⟩ :: l)) := by
  rw [wX (β := h.length + 7) (g := g) (n := n) (m := 1) (a := a) (q := [(x0, y0)]) t30 hn rfl (NS (β := h.length + 8) (g := 1) (n := 1) (q := [(x0, y0)]) t30 rfl) rfl (by omega) (by simp), o8]
  rfl
theorem app_co {b7 b8 : Blk} {T : List Cf} {dd : Int} {g0 k : Nat} (hn : T.length = n) (hl : n < 1000) : j6 cfg 46 (h ++ (b0 :: b1 :: b2 :: b3 :: b4 :: b5 :: p6 46 2 g (o2 T) :: b7 :: b8 :: ⟨0, false, 46, 2, [.int .i64 dd, .own (h.length + 7) g0 0 k], 0⟩ :: l)) (.own (h.length + 6) g 0 n) (.own (h.length + 9) 0 0 1) = some (.own (h.length + 6) (g + 1) 0 (n + 1), h ++ (b0 :: b1 :: b2 :: b3 :: b4 :: b5 :: ⟨g + 1, false, 46, 2, o2 T ++ [.int .i64 dd, .own (h.length + 7) g0 0 k], 0⟩ :: b7 :: b8 :: ⟨0, false, 46, 2, [.int .i64 dd, .own (h.length + 7) g0 0 k], 0⟩ :: l)) := by
  subst hn
  rw [w9 (C := cfg) (K := 2) (m := 1) (new := [.int .i64 dd, .own (h.length + 7) g0 0 k]) (zs := o2 T) t30 rfl (by omega) (by rw [bL]; omega) rfl (by omega) t139 rfl (by decide) (by omega), o8, eN (zs := o2 T ++ [AV.int .i64 dd, AV.own (h.length + 7) g0 0 k]) (by simp)]
  rfl
theorem LH {k : Nat} {T : List Cf} {dd : Int} {st : List (Int × Int)} (hk : st.length = k) : (⟨g, false, 46, 2, o2 T ++ [.int .i64 dd, .vec k (g8 st)], 0⟩ : Blk) = p6 46 2 g (o2 (T ++ [⟨dd, st⟩])) := by
  subst hk
  rw [eN (by simp [o2, wU])]
  simp [o2, wU]
theorem g6.seenCf {c : Code} {sl : List AV} {H : c7} {Q : Exit → St → Prop} {β γ g g0 k : Nat} {T : List Cf} {dd : Int} {st : List (Int × Int)} (hβ : H[β]? = some ⟨g, false, 46, 2, o2 T ++ [.int .i64 dd, .own γ g0 0 k], 0⟩) (hγ : H[γ]? = some ⟨g0, false, 54, 2, g8 st, 0⟩) (hk : st.length = k) (hne : β ≠ γ)
    (r : g6 Tryz.prog cfg c ⟨sl, (H.set γ ⟨g0, false, 54, 2, g8 st, k * 2⟩).set β (p6 46 2 g (o2 (T ++ [⟨dd, st⟩])))⟩ Q) : g6 Tryz.prog cfg c ⟨sl, H⟩ Q := by
  subst hk
  have hl : st.length * 2 ≤ (g8 st).length := by rw [q9]; omega
  refine g6.A5 (γ := γ) (β := β) (k := (o2 T).length + 1) (off := 0) (len := st.length) (cs := g8 st) hγ rfl t156 ?_ hβ hne (by simp) ?_
  · show o6 nB (List.take (st.length * 2) (List.drop 0 (g8 st))) = _
    rw [List.drop_zero, List.take_of_length_le t137]
    exact (wV st).LY
  · have e1 : cP ⟨g0, false, 54, 2, g8 st, 0⟩ (0 + st.length * 2) = ⟨g0, false, 54, 2, g8 st, st.length * 2⟩ := by
      simp only [cP, Nat.zero_add, Nat.zero_max]
    have e2 : (o2 T ++ [AV.int .i64 dd, AV.own γ g0 0 st.length]).set ((o2 T).length + 1) (.vec st.length (g8 st)) = o2 T ++ [AV.int .i64 dd, .vec st.length (g8 st)] := by simp
    show g6 Tryz.prog cfg c ⟨sl, (H.set γ (cP ⟨g0, false, 54, 2, g8 st, 0⟩ (0 + st.length * 2))).set β ⟨g, false, 46, 2, (o2 T ++ [AV.int .i64 dd, AV.own γ g0 0 st.length]).set ((o2 T).length + 1) (.vec st.length (g8 st)), 0⟩⟩ Q
    rw [e1, e2, LH (k := st.length) (st := st) rfl]
    exact r
attribute [local go_sem] rd q9 bL lD pC UN Int.natCast_nonneg Int.natCast_inj Int.toNat_natCast_add_one kV wrap64 pU max2 FA n5 kA Option.bind_eq_bind N1 N0 Nat.sub_zero aO cR aE r9 jT jU gV qX oB qY E1 Nat.add_sub_cancel List.length_take app_b6 app_b7 app_c6 app_c7 app_co EG lS
variable {u : Un} {c : Clo} {mx d i pc : Nat} {b : List (Int × Int)}
theorem EH (hu : WU u) (wc : WC u c) (hmx : mx < u.c4.length) (hd : d ≤ fC (u.c4.getD mx s8)) (hb : b.length < 1000) (hi : i < c.insts.length) (hpc : pc < (c9 u (c.insts.getD i c6)).length) (h8 : ((c9 u (c.insts.getD i c6)).getD pc g5).op = 8) : CB 19 [.agg [.vec u.globals.length (j9 u.globals), .vec u.c4.length (g9 u.c4), .vec u.procs.length (n7 u.procs), .int .i64 u.main], .agg [.vec c.insts.length (p4 c.insts), .vec c.calls.length (s3 c.calls), .vec c.roots.length (j9 c.roots)], .int .i64 ((mx : Nat) : Int), .agg [.int .i64 ((d : Nat) : Int), .vec (b.length + 1) (g8 (b ++ [((i : Int), (pc : Int))]))]] h (.vec (z1 u c mx (d : Int) b ((i : Int), (pc : Int))).length (o2 (z1 u c mx (d : Int) b ((i : Int), (pc : Int))))) := by
  refine .bz Tryz.f19 139 ?_
  have w : WIt u (c.insts.getD i c6) := wc.wi _ (j8 hi)
  have w1 := w.lo
  have w2 := w.hi
  have hsz : (c9 u (c.insts.getD i c6)).length ≤ 1664 := s4 hu w
  have hwl := wc.len
  have hwc := wc.cl
  have hwr := wc.cll i hi
  have hml := hu.ml
  have hcp := eE (m := (u.c4.getD mx s8))
  have hnl := eF (x := ((c9 u (c.insts.getD i c6)).getD pc g5)) (pc := pc)
  have hch := lC (it := (c.insts.getD i c6)) (x := ((c9 u (c.insts.getD i c6)).getD pc g5)) (m := (mx : Int))
  refine c161z ?_
  refine c93z ?_
  intro e1 qe1
  refine .sk ?_
  refine c59z ?_
  refine c170z ?_
  refine .z ?_
  refine c45z ?_
  refine cA.nil t5 ?_
  refine c162z ?_
  refine .z ?_
  refine uTbz ?_
  intro e2 qe2
  refine .c8 [7, 11] ?_
  refine .sm u0 (mkP 8 [0, 1, 0, 0, 12, 31, 63, 127] [2, 4, 6]) [0, 1, 3] ?_
  refine cA.p (pd := []) 8 ?_
  refine cA.nil t5 ?_
  refine c4z ?_
  exact ⟨_, _, rfl, EC (a := b) t30 t30 (by omega) (by omega) rfl, by (rw [ED h8]; rfl)⟩
theorem EI (hu : WU u) (wc : WC u c) (hmx : mx < u.c4.length) (hd : d ≤ fC (u.c4.getD mx s8)) (hb : b.length < 1000) (hi : i < c.insts.length) (hpc : pc < (c9 u (c.insts.getD i c6)).length) (h2 : ((c9 u (c.insts.getD i c6)).getD pc g5).op = 2) : CB 19 [.agg [.vec u.globals.length (j9 u.globals), .vec u.c4.length (g9 u.c4), .vec u.procs.length (n7 u.procs), .int .i64 u.main], .agg [.vec c.insts.length (p4 c.insts), .vec c.calls.length (s3 c.calls), .vec c.roots.length (j9 c.roots)], .int .i64 ((mx : Nat) : Int), .agg [.int .i64 ((d : Nat) : Int), .vec (b.length + 1) (g8 (b ++ [((i : Int), (pc : Int))]))]] h (.vec (z1 u c mx (d : Int) b ((i : Int), (pc : Int))).length (o2 (z1 u c mx (d : Int) b ((i : Int), (pc : Int))))) := by
  refine .bz Tryz.f19 139 ?_
  have w : WIt u (c.insts.getD i c6) := wc.wi _ (j8 hi)
  have w1 := w.lo
  have w2 := w.hi
  have hsz : (c9 u (c.insts.getD i c6)).length ≤ 1664 := s4 hu w
  have hwl := wc.len
  have hwc := wc.cl
  have hwr := wc.cll i hi
  have hml := hu.ml
  have hcp := eE (m := (u.c4.getD mx s8))
  have hnl := eF (x := ((c9 u (c.insts.getD i c6)).getD pc g5)) (pc := pc)
  have hch := lC (it := (c.insts.getD i c6)) (x := ((c9 u (c.insts.getD i c6)).getD pc g5)) (m := (mx : Int))
  refine c161z ?_
  refine c93z ?_
  intro e1 qe1
  refine .sk ?_
  refine c59z ?_
  refine c170z ?_
  refine .z ?_
  refine c45z ?_
  refine cA.nil t5 ?_
  refine c162z ?_
  refine c93z ?_
  intro e2 qe2
  refine .sk ?_
  refine c0z ?_
  refine uTbz ?_
  intro e3 qe3
  refine .c8 [5, 7, 10, 11] ?_
  refine .sg u0 (mkH 27 [0, 1, 0, 0, 12, 0, 32, 0, 128, 384, 992, 0, 2048, 0, 8192, 30720, 63488, 0, 131072, 522240, 1046528, 2095104, 4194272, 8388604, 16777215, 33554431, 67108863] [2, 4, 22, 23, 25] [(2, 0), (22, 1)] [0, 4, 20, 4194304, 4194308, 4194324, 12582932, 46137364] [0, 1, 2, 3, 4]) 2 ?_
  refine c30z ?_
  refine .em [true] [4, 0] [_] ?_
  refine .p 1 ?_
  refine .em [true, false] [20, 4, 0] [_] ?_
  refine c95z ?_
  refine c95z ?_
  refine .p 3 ?_
  refine .rn [true, true, true] ?_
  refine c95z ?_
  refine c95z ?_
  refine c95z ?_
  refine c95z ?_
  refine .p 1 ?_
  refine .en [true, true, true] [4194324, 4194308, 4194304, 20, 4, 0] [_, _, _] ?_
  refine .en [true, false, false, false, false, false] [12582932, 4194324, 4194308, 4194304, 20, 4, 0] [_] ?_
  refine .p 1 ?_
  refine .en [true, false, false, false, false, false, false] [46137364, 12582932, 4194324, 4194308, 4194304, 20, 4, 0] [_] ?_
  refine .p 1 ?_
  refine c61z ?_
  refine .po [false, true, true, true, true, true, true, true] ?_
  refine u4.nil rfl ?_
  refine c4z ?_
  exact ⟨_, _, rfl, EC (a := b ++ [((i : Int), (pc : Int) + 1), ((c.calls.getD i []).getD pc 0, 0)]) t30 t30 (by omega) (by omega) (by simp), by (rw [EE h2]; simp only [o2, wU, List.flatMap_cons, List.flatMap_nil, List.append_nil, List.length_append, List.length_cons, List.length_nil])⟩
theorem EJ (hu : WU u) (wc : WC u c) (hmx : mx < u.c4.length) (hd : d ≤ fC (u.c4.getD mx s8)) (hb : b.length < 1000) (hi : i < c.insts.length) (hpc : pc < (c9 u (c.insts.getD i c6)).length) (h8 : ¬ ((c9 u (c.insts.getD i c6)).getD pc g5).op = 8) (h2 : ¬ ((c9 u (c.insts.getD i c6)).getD pc g5).op = 2) (hr : ¬ (0 ≤ (d : Int) + chI (c.insts.getD i c6) ((c9 u (c.insts.getD i c6)).getD pc g5) (mx : Int) ∧ (d : Int) + chI (c.insts.getD i c6) ((c9 u (c.insts.getD i c6)).getD pc g5) (mx : Int) ≤ (fC (u.c4.getD mx s8) : Int))) : CB 19 [.agg [.vec u.globals.length (j9 u.globals), .vec u.c4.length (g9 u.c4), .vec u.procs.length (n7 u.procs), .int .i64 u.main], .agg [.vec c.insts.length (p4 c.insts), .vec c.calls.length (s3 c.calls), .vec c.roots.length (j9 c.roots)], .int .i64 ((mx : Nat) : Int), .agg [.int .i64 ((d : Nat) : Int), .vec (b.length + 1) (g8 (b ++ [((i : Int), (pc : Int))]))]] h (.vec (z1 u c mx (d : Int) b ((i : Int), (pc : Int))).length (o2 (z1 u c mx (d : Int) b ((i : Int), (pc : Int))))) := by
  refine .bz Tryz.f19 139 ?_
  have w : WIt u (c.insts.getD i c6) := wc.wi _ (j8 hi)
  have w1 := w.lo
  have w2 := w.hi
  have hsz : (c9 u (c.insts.getD i c6)).length ≤ 1664 := s4 hu w
  have hwl := wc.len
  have hwc := wc.cl
  have hwr := wc.cll i hi
  have hml := hu.ml
  have hcp := eE (m := (u.c4.getD mx s8))
  have hnl := eF (x := ((c9 u (c.insts.getD i c6)).getD pc g5)) (pc := pc)
  have hch := lC (it := (c.insts.getD i c6)) (x := ((c9 u (c.insts.getD i c6)).getD pc g5)) (m := (mx : Int))
  refine c161z ?_
  refine c93z ?_
  intro e1 qe1
  refine .sk ?_
  refine c59z ?_
  refine c170z ?_
  refine .z ?_
  refine c45z ?_
  refine cA.nil t5 ?_
  refine c162z ?_
  refine c93z ?_
  intro e2 qe2
  refine .sk ?_
  refine c0z ?_
  refine uFbz ?_
  intro e3 qe3
  refine .sk ?_
  refine .c8 [2, 4, 7, 10, 11, 12] ?_
  refine .ss u0 (mkP 10 [0, 1, 0, 0, 0, 16, 0, 124, 255, 511] []) ?_
  refine .k 7 [] ?_
  refine c234z ?_
  refine .seq ?_
  refine .c8 [2, 4, 10, 11, 12, 14] ?_
  refine c20z ?_
  refine .spl 100 rfl rfl (fun e4 => ?_) (fun e4 => ?_)
  ·try simp only [e4]
   have qe4 := fact e4
   refine .k 8 [(2, 100)] ?_
   refine .n ?_
   refine c236z ?_
   exact .ret (.ex (hq := by (rw [E3 h8 h2 hr]; rfl)))
  try simp only [e4]
  have qe4 := fact e4
  refine .k 6 [(2, 100)] ?_
  refine .ca rfl rfl (DC (u.c4.getD mx s8)) ?_
  refine .m [(2, 100)] ?_
  refine uTbz ?_
  intro e5 qe5
  refine c16z ?_
  exact .ret (.ex (hq := by (rw [E3 h8 h2 hr]; rfl)))
theorem EK (hu : WU u) (wc : WC u c) (hmx : mx < u.c4.length) (hd : d ≤ fC (u.c4.getD mx s8)) (hb : b.length < 1000) (hi : i < c.insts.length) (hpc : pc < (c9 u (c.insts.getD i c6)).length) (h8 : ¬ ((c9 u (c.insts.getD i c6)).getD pc g5).op = 8) (h2 : ¬ ((c9 u (c.insts.getD i c6)).getD pc g5).op = 2) (hr : 0 ≤ (d : Int) + chI (c.insts.getD i c6) ((c9 u (c.insts.getD i c6)).getD pc g5) (mx : Int) ∧ (d : Int) + chI (c.insts.getD i c6) ((c9 u (c.insts.getD i c6)).getD pc g5) (mx : Int) ≤ (fC (u.c4.getD mx s8) : Int)) : CB 19 [.agg [.vec u.globals.length (j9 u.globals), .vec u.c4.length (g9 u.c4), .vec u.procs.length (n7 u.procs), .int .i64 u.main], .agg [.vec c.insts.length (p4 c.insts), .vec c.calls.length (s3 c.calls), .vec c.roots.length (j9 c.roots)], .int .i64 ((mx : Nat) : Int), .agg [.int .i64 ((d : Nat) : Int), .vec (b.length + 1) (g8 (b ++ [((i : Int), (pc : Int))]))]] h (.vec (z1 u c mx (d : Int) b ((i : Int), (pc : Int))).length (o2 (z1 u c mx (d : Int) b ((i : Int), (pc : Int))))) := by
  refine .bz Tryz.f19 139 ?_
  have w : WIt u (c.insts.getD i c6) := wc.wi _ (j8 hi)
  have w1 := w.lo
  have w2 := w.hi
  have hsz : (c9 u (c.insts.getD i c6)).length ≤ 1664 := s4 hu w
  have hwl := wc.len
  have hwc := wc.cl
  have hwr := wc.cll i hi
  have hml := hu.ml
  have hcp := eE (m := (u.c4.getD mx s8))
  have hnl := eF (x := ((c9 u (c.insts.getD i c6)).getD pc g5)) (pc := pc)
  have hch := lC (it := (c.insts.getD i c6)) (x := ((c9 u (c.insts.getD i c6)).getD pc g5)) (m := (mx : Int))
  refine c161z ?_
  refine c93z ?_
  intro e1 qe1
  refine .sk ?_
  refine c59z ?_
  refine c170z ?_
  refine .z ?_
  refine c45z ?_
  refine cA.nil t5 ?_
  refine c162z ?_
  refine c93z ?_
  intro e2 qe2
  refine .sk ?_
  refine c0z ?_
  refine uFbz ?_
  intro e3 qe3
  refine .sk ?_
  refine .c8 [2, 4, 7, 10, 11, 12] ?_
  refine .ss u0 (mkP 10 [0, 1, 0, 0, 0, 16, 0, 124, 255, 511] []) ?_
  refine .k 7 [] ?_
  refine c234z ?_
  refine .seq ?_
  refine .c8 [2, 4, 10, 11, 12, 14] ?_
  refine c20z ?_
  refine .spl 100 rfl rfl (fun e4 => by exfalso; have q := fact e4; omega) (fun e4 => ?_)
  try simp only [e4]
  have qe4 := fact e4
  refine .k 6 [(2, 100)] ?_
  refine .ca rfl rfl (DC (u.c4.getD mx s8)) ?_
  refine .m [(2, 100)] ?_
  refine uFbz ?_
  intro e5 qe5
  refine .sk ?_
  refine .c8 [4, 10, 11, 12, 14] ?_
  refine .z ?_
  refine c24z ?_
  refine .ca rfl rfl (c_nextR hu w hpc) ?_
  refine .n ?_
  refine c10z ?_
  refine g6.tF 15 rfl ?_
  refine .bX (fun m st => ∃ (j : Nat), (m = (bO ((c9 u (c.insts.getD i c6)).getD pc g5) pc).length - j ∧ (j ≤ (bO ((c9 u (c.insts.getD i c6)).getD pc g5) pc).length)) ∧ st = ⟨mkS 139 [(10, AV.ptr (h.length + 3) 0 0), (11, AV.vec b.length (g8 b)), (14, AV.int .i64 ((d : Int) + chI (c.insts.getD i c6) ((c9 u (c.insts.getD i c6)).getD pc g5) (mx : Int))), (15, AV.own (h.length + 6) j 0 j), (16, AV.vec (bO ((c9 u (c.insts.getD i c6)).getD pc g5) pc).length (j9 (bO ((c9 u (c.insts.getD i c6)).getD pc g5) pc))), (17, AV.int .i64 ((j : Nat) : Int))], h ++ [⟨0, false, 30, 4, [.vec u.globals.length (j9 u.globals), .vec u.c4.length (g9 u.c4), .vec u.procs.length (n7 u.procs), .int .i64 u.main], 0⟩, ⟨0, false, 34, 3, [.vec c.insts.length (p4 c.insts), .vec c.calls.length (s3 c.calls), .vec c.roots.length (j9 c.roots)], 0⟩, ⟨0, false, 46, 2, [.int .i64 ((d : Nat) : Int), .vec (b.length + 1) (g8 (b ++ [((i : Int), (pc : Int))]))], 0⟩, ⟨0, false, 54, 2, [.int .i64 ((i : Nat) : Int), .int .i64 ((pc : Nat) : Int)], 0⟩, ⟨0, false, 67, 2, [.int .i64 (c.insts.getD i c6).proc, .vec (c.insts.getD i c6).l5.length (j9 (c.insts.getD i c6).l5)], 0⟩, ⟨0, false, 62, 12, [.int .i64 ((c9 u (c.insts.getD i c6)).getD pc g5).op, .int .i64 ((c9 u (c.insts.getD i c6)).getD pc g5).target, .bool ((c9 u (c.insts.getD i c6)).getD pc g5).global, .int .i64 ((c9 u (c.insts.getD i c6)).getD pc g5).e.op, .int .i64 ((c9 u (c.insts.getD i c6)).getD pc g5).e.num, .str ((c9 u (c.insts.getD i c6)).getD pc g5).e.name, .vec ((c9 u (c.insts.getD i c6)).getD pc g5).e.args.length (l7 ((c9 u (c.insts.getD i c6)).getD pc g5).e.args), .bool ((c9 u (c.insts.getD i c6)).getD pc g5).pl.param, .int .i64 ((c9 u (c.insts.getD i c6)).getD pc g5).pl.index, .vec ((c9 u (c.insts.getD i c6)).getD pc g5).pl.at'.length (l7 ((c9 u (c.insts.getD i c6)).getD pc g5).pl.at'), .vec ((c9 u (c.insts.getD i c6)).getD pc g5).ints.length (l7 ((c9 u (c.insts.getD i c6)).getD pc g5).ints), .vec ((c9 u (c.insts.getD i c6)).getD pc g5).u9.length (cJ ((c9 u (c.insts.getD i c6)).getD pc g5).u9)], 0⟩, p6 46 2 j (o2 (EZ u c mx d b i pc j))]⟩) (.v ⟨0, ⟨rfl, by omega⟩, rfl⟩ (hs := t29)) ?_
  rintro m sl h' ⟨j, ⟨hm, hj⟩, hst⟩
  obtain ⟨rfl, rfl⟩ := St.mk.inj hst; clear hst
  have hol := lV (u := u) (c := c) (m := mx) (d := d) (b := b) (i := i) (pc := pc) (j := j) hj
  refine c0z ?_
  refine u2z ?_ ?_
  ·intro e6 qe6
   refine c5z ?_
   refine .og u0 (mkH 18 [0, 0, 0, 0, 12, 0, 32, 0, 0, 384, 896, 2016, 4064, 8188, 16382, 32766, 65535, 131071] [2, 4, 12, 13, 15, 16] [(2, 0), (12, 1)] [0, 4, 20, 4096, 4100, 4116, 12308, 45076, 110612] [0, 1, 2, 3, 4]) 2 ?_
   refine .p 2 ?_
   refine .em [true] [4, 0] [_] ?_
   refine .p 1 ?_
   refine .em [true, false] [20, 4, 0] [_] ?_
   refine c95z ?_
   refine .p 3 ?_
   refine .rn [true, true, true] ?_
   refine .p 1 ?_
   refine .en [true, true, true] [4116, 4100, 4096, 20, 4, 0] [_, _, _] ?_
   refine .en [true, false, false, false, false, false] [12308, 4116, 4100, 4096, 20, 4, 0] [_] ?_
   refine .p 1 ?_
   refine .en [true, false, false, false, false, false, false] [45076, 12308, 4116, 4100, 4096, 20, 4, 0] [_] ?_
   refine .en [true, false, false, false, false, false, false, false] [110612, 45076, 12308, 4116, 4100, 4096, 20, 4, 0] [_] ?_
   refine .p 1 ?_
   refine .po [false, false, false, false, true, false, false, true, false] ?_
   refine .po [false, false, false, false, false, true, false, false, true] ?_
   refine u4.nil rfl ?_
   change g6 ..
   refine .c8 [10, 11, 14, 15, 16, 17] ?_
   refine g6.seenCf (β := h.length + 6) (γ := h.length + 7) (T := (EZ u c mx d b i pc j)) t30 t30 (by simp) (by omega) ?_
   rw [o8, o8]; simp only [List.set_cons_succ, List.set_cons_zero]
   refine .rz ?_
   exact ⟨_, by omega, .v ⟨(j + 1), ⟨rfl, by omega⟩, rfl⟩ (he := t145) (hk := by exact (aB.refl _).app rfl ⟨.inl rfl, .inl rfl, .inl rfl, .inl rfl, .inl rfl, .inl rfl, .inr (by rw [p9]; exact (wW _).refs _), trivial⟩) (hs := t29)⟩
  intro e6 qe6
  refine c8z ?_
  refine .c8 [15] ?_
  refine c43z ?_
  exact ⟨_, _, rfl, E2 t30 (by omega) (lV hj), t164⟩
theorem LJ (hu : WU u) (wc : WC u c) (hmx : mx < u.c4.length) (hd : d ≤ fC (u.c4.getD mx s8)) (hb : b.length < 1000) (hi : i < c.insts.length) (hpc : pc < (c9 u (c.insts.getD i c6)).length) : CB 19 [.agg [.vec u.globals.length (j9 u.globals), .vec u.c4.length (g9 u.c4), .vec u.procs.length (n7 u.procs), .int .i64 u.main], .agg [.vec c.insts.length (p4 c.insts), .vec c.calls.length (s3 c.calls), .vec c.roots.length (j9 c.roots)], .int .i64 ((mx : Nat) : Int), .agg [.int .i64 ((d : Nat) : Int), .vec (b.length + 1) (g8 (b ++ [((i : Int), (pc : Int))]))]] h (.vec (z1 u c mx (d : Int) b ((i : Int), (pc : Int))).length (o2 (z1 u c mx (d : Int) b ((i : Int), (pc : Int))))) := by
  by_cases h8 : ((c9 u (c.insts.getD i c6)).getD pc g5).op = 8
  · exact EH hu wc hmx hd hb hi hpc h8
  by_cases h2 : ((c9 u (c.insts.getD i c6)).getD pc g5).op = 2
  · exact EI hu wc hmx hd hb hi hpc h2
  by_cases hr : 0 ≤ (d : Int) + chI (c.insts.getD i c6) ((c9 u (c.insts.getD i c6)).getD pc g5) (mx : Int) ∧ (d : Int) + chI (c.insts.getD i c6) ((c9 u (c.insts.getD i c6)).getD pc g5) (mx : Int) ≤ (fC (u.c4.getD mx s8) : Int)
  · exact EK hu wc hmx hd hb hi hpc h8 h2 hr
  · exact EJ hu wc hmx hd hb hi hpc h8 h2 hr
end Go.Proofs.YtapdldekgbbomaaGreat
end
section
namespace Go.Proofs.YtapdldekgbbomaaGreat
open Go.Ab Go.Un
attribute [local go_sem] rd q9 bL lD pC UN Int.natCast_nonneg Int.natCast_inj Int.toNat_natCast_add_one kV wrap64 pU max2 FA n5 kA Option.bind_eq_bind
variable {h : c7} {u : Un} {c : Clo} {mx : Nat}
theorem EL (d : Int) : CB 19 [.agg [.vec u.globals.length (j9 u.globals), .vec u.c4.length (g9 u.c4), .vec u.procs.length (n7 u.procs), .int .i64 u.main], .agg [.vec c.insts.length (p4 c.insts), .vec c.calls.length (s3 c.calls), .vec c.roots.length (j9 c.roots)], .int .i64 ((mx : Nat) : Int), .agg [.int .i64 d, .vec 0 []]] h (.vec 0 []) := by
  refine .bz Tryz.f19 139 ?_
  refine c161z ?_
  refine c105z ?_
  refine .z ?_
  exact .ret (.ex (hq := by rfl))
theorem EM (d : Int) : CB 26 [.agg [.vec u.globals.length (j9 u.globals), .vec u.c4.length (g9 u.c4), .vec u.procs.length (n7 u.procs), .int .i64 u.main, .vec c.insts.length (p4 c.insts), .vec c.calls.length (s3 c.calls), .vec c.roots.length (j9 c.roots), .int .i64 ((mx : Nat) : Int)], .agg [.int .i64 d, .vec 0 []]] h (.vec 0 []) := by
  refine .bz Tryz.f26 124 ?_
  refine c58z ?_
  refine c236z ?_
  exact .ret (.ex (hq := by rfl))
theorem EN (d : Int) : CB 18 [.agg [.vec u.globals.length (j9 u.globals), .vec u.c4.length (g9 u.c4), .vec u.procs.length (n7 u.procs), .int .i64 u.main], .agg [.vec c.insts.length (p4 c.insts), .vec c.calls.length (s3 c.calls), .vec c.roots.length (j9 c.roots)], .int .i64 ((mx : Nat) : Int), .agg [.int .i64 d, .vec 0 []]] h (.vec 0 []) := by
  refine .bz Tryz.f18 15 ?_
  refine .z ?_
  refine c27z ?_
  refine .ca rfl rfl (EM d) ?_
  refine .n ?_
  exact .ret (.ex (hq := by rfl))
variable {b0 b1 b2 : Blk} {L : List Int}
theorem srcFamP : bD (h.length + 3) L (h.length + 4) (fun I => h ++ [b0, b1, b2, ⟨0, false, 93, 2, [.vec L.length (j9 L), .int .i64 I], 0⟩]) :=
  ⟨fun I => by rw [s6]; rfl, fun I k => by rw [o8]; rfl, fun I => by simp⟩
theorem wY {l : c7} (I n : Int) (hI : OkI L I) (hL : L.length < 4611686018427387904) (hn : 0 < n) (hm : n ≤ 4611686018427387904) : CH 30 [.ptr (h.length + 3) 0 0, .int .i64 n] (h ++ (b0 :: b1 :: b2 :: ⟨0, false, 93, 2, [.vec L.length (j9 L), .int .i64 I], 0⟩ :: l)) (.int .i64 (c5 L I n).1) (h ++ (b0 :: b1 :: b2 :: ⟨0, false, 93, 2, [.vec L.length (j9 L), .int .i64 (c5 L I n).2], 0⟩ :: l)) := by
  have := jK (srcFamP (h := h) (b0 := b0) (b1 := b1) (b2 := b2) (L := L)) l I n hI hL hn hm
  simp only [List.append_assoc, List.cons_append, List.nil_append] at this
  exact this
theorem next_lt {I n : Int} (h : I < L.length) (hn : (c5 L I n).2 = (c5 L I n).2) : (c5 L I n).2 = I + 1 := by
  rw [c5, if_neg (by omega)]
variable {n : Nat} {x : Cf}
theorem wZ (h : WCf u c mx n x) (hp : 0 < x.st.length) : ∃ (d i pc : Nat) (b : List (Int × Int)), x = ⟨(d : Int), b ++ [((i : Int), (pc : Int))]⟩ ∧ d ≤ fC (u.c4.getD mx s8) ∧ i < c.insts.length ∧ pc < (c9 u (c.insts.getD i c6)).length ∧ b.length + 1 ≤ n := by
  obtain ⟨b, i, pc, he, hi, hpc, hl⟩ := h.snoc hp
  have h0 := h.d0; have h1 := h.d1; have h2 := h.len
  exact ⟨x.d.toNat, i, pc, b, by rw [Int.toNat_of_nonneg h0]; exact he, by omega, hi, hpc, by omega⟩
theorem zS (hu : WU u) (wc : WC u c) (hmx : mx < u.c4.length) (hn : n ≤ 500) (w : WCf u c mx n x) : CB 19 [.agg [.vec u.globals.length (j9 u.globals), .vec u.c4.length (g9 u.c4), .vec u.procs.length (n7 u.procs), .int .i64 u.main], .agg [.vec c.insts.length (p4 c.insts), .vec c.calls.length (s3 c.calls), .vec c.roots.length (j9 c.roots)], .int .i64 ((mx : Nat) : Int), .agg [.int .i64 x.d, .vec x.st.length (g8 x.st)]] h (.vec (eL u c mx x).length (o2 (eL u c mx x))) := by
  by_cases hp : 0 < x.st.length
  · obtain ⟨d, i, pc, b, rfl, hd, hi, hpc, hb⟩ := wZ w hp
    rw [gX, List.length_append]
    exact LJ hu wc hmx hd (by omega) hi hpc
  · obtain ⟨d, st⟩ := x
    obtain rfl : st = [] := List.length_eq_zero_iff.1 (by simp only at hp; omega)
    exact EL d
theorem xA (hu : WU u) (wc : WC u c) (hmx : mx < u.c4.length) (hn : n ≤ 500) (w : WCf u c mx n x) : CB 18 [.agg [.vec u.globals.length (j9 u.globals), .vec u.c4.length (g9 u.c4), .vec u.procs.length (n7 u.procs), .int .i64 u.main], .agg [.vec c.insts.length (p4 c.insts), .vec c.calls.length (s3 c.calls), .vec c.roots.length (j9 c.roots)], .int .i64 ((mx : Nat) : Int), .agg [.int .i64 x.d, .vec x.st.length (g8 x.st)]] h (.vec (eL u c mx x).length (o2 (eL u c mx x))) := by
  by_cases hp : 0 < x.st.length
  · obtain ⟨d, i, pc, b, rfl, hd, hi, hpc, hb⟩ := wZ w hp
    rw [gX, List.length_append]
    exact LG hu wc hmx hd (by omega) hi hpc
  · obtain ⟨d, st⟩ := x
    obtain rfl : st = [] := List.length_eq_zero_iff.1 (by simp only at hp; omega)
    exact EN d
attribute [local go_sem] rd q9 bL lD pC UN Int.natCast_nonneg Int.natCast_inj Int.toNat_natCast_add_one kV wrap64 pU max2 FA n5 kA Option.bind_eq_bind GQ kA
theorem c_left {l : c7} (I : Int) : CB 31 [.ptr (h.length + 3) 0 0] (h ++ (b0 :: b1 :: b2 :: ⟨0, false, 93, 2, [.vec L.length (j9 L), .int .i64 I], 0⟩ :: l)) (.bool (decide (I < (L.length : Int)))) := by
  refine .bz Tryz.f31 13 ?_
  refine .z ?_
  refine .ss u0 (mkP 11 [0, 1, 3, 7, 0, 16, 48, 112, 240, 511, 1023] []) ?_
  refine c42z ?_
  exact .ret (.ex (hq := by rfl))
theorem oE (wc : WC u c) : c.roots.length ≤ 64 := by
  have h := vW (fun _ => 1) (l := c.roots) (u := (List.range c.insts.length).map fun i : Nat => (i : Int)) (wc.rs.imp fun h e => by omega) fun r hr => by
    have := wc.rr r hr
    exact List.mem_map.2 ⟨r.toNat, List.mem_range.2 (by omega), by omega⟩
  have one : ∀ l : List Int, (l.map fun _ => 1).sum = l.length := fun l => by induction l with
    | nil => rfl
    | cons x l ih => simp only [List.map_cons, List.sum_cons, List.length_cons, ih]; omega
  rw [one, one, List.length_map, List.length_range] at h
  have := wc.len
  omega
theorem xB (hu : WU u) (wc : WC u c) (hmx : mx < u.c4.length) (L : List Int) (hL : L.length < 4611686018427387904) : CallA Tryz.prog cfg 14 [.agg [.vec u.globals.length (j9 u.globals), .vec u.c4.length (g9 u.c4), .vec u.procs.length (n7 u.procs), .int .i64 u.main], .agg [.vec c.insts.length (p4 c.insts), .vec c.calls.length (s3 c.calls), .vec c.roots.length (j9 c.roots)], .int .i64 ((mx : Nat) : Int), .vec L.length (j9 L)] h (fun y' h' => (∃ x : Cf, WCf u c mx 61 x ∧ y' = .agg [.int .i64 x.d, .vec x.st.length (g8 x.st)]) ∧ h' = h) := by
  refine .bz Tryz.f14 44 ?_
  have hrl := wc.rl
  have hwl := wc.len
  have hml := hu.ml
  have hrc : c.roots.length ≤ 64 := oE wc
  have h60 : (L.take 60).length ≤ 60 := by rw [List.length_take]; omega
  refine c127z ?_
  refine .ca rfl rfl (c_cut L 60 (by omega)) ?_
  refine .n ?_
  have hn0 := l6 (L := (L.take 60)) (I := 0) (n := (c.roots.length : Int)) ⟨Int.le_refl _, by omega⟩ (by omega)
  refine .sg u0 (mkH 12 [0, 1, 0, 0, 8, 24, 60, 127, 255, 511, 0, 2047] [6, 10, 11] [(10, 0)] [0, 64, 1024, 1088, 3136] [0, 1, 2, 3, 4, 5, 6, 7, 8, 9]) 1 ?_
  refine u4.w8 t22 ?_
  refine c30z ?_
  refine .p 2 ?_
  refine c140z ?_
  refine .cm [true] [64, 0] [_] rfl rfl (by simp only [iR, and_true, List.cons_append, List.nil_append]; exact wY (L := L.take 60) 0 (c.roots.length : Int) ⟨Int.le_refl _, by omega⟩ (by omega) (by omega) (by omega)) ?_
  refine .p 1 ?_
  refine .rm [true, false] ?_
  refine .cl rfl rfl (fun _ => NO _) ?_
  refine .en [true, true] [1088, 1024, 64, 0] [_, _] ?_
  refine .en [true, false, false, false] [3136, 1088, 1024, 64, 0] [_] ?_
  refine .po [false, true, false, true, false] ?_
  refine u4.pop [false, false, true, false, true] (by kernel_rfl) (by simp only [oN, and_true, List.cons_append, List.nil_append]; exact ⟨bW.p7 rfl rfl rfl rfl qI (wY (L := L.take 60) 0 (c.roots.length : Int) ⟨Int.le_refl _, by omega⟩ (by omega) (by omega) (by omega)) rfl, bW.p7 rfl rfl rfl rfl qI (wY (L := L.take 60) 0 (c.roots.length : Int) ⟨Int.le_refl _, by omega⟩ (by omega) (by omega) (by omega)) rfl⟩) ?_
  refine .po [false, false, true, false, true] ?_
  refine c212z ?_
  refine .sb ?_
  refine .bX (fun m st => ∃ (I : Int) (x : Cf), (m = (60 - I).toNat ∧ (OkI (L.take 60) I ∧ WCf u c mx (I.toNat + 1) x)) ∧ st = ⟨mkS 44 [(2, AV.int .i64 ((mx : Nat) : Int)), (4, AV.ptr h.length 0 0), (5, AV.ptr (h.length + 1) 0 0), (8, AV.ptr (h.length + 2) 0 0), (9, AV.ptr (h.length + 3) 0 0), (10, AV.ptr (h.length + 4) 1 0)], h ++ [⟨0, false, 30, 4, [.vec u.globals.length (j9 u.globals), .vec u.c4.length (g9 u.c4), .vec u.procs.length (n7 u.procs), .int .i64 u.main], 0⟩, ⟨0, false, 34, 3, [.vec c.insts.length (p4 c.insts), .vec c.calls.length (s3 c.calls), .vec c.roots.length (j9 c.roots)], 0⟩, ⟨0, false, 46, 2, [.int .i64 0, .j7], 0⟩, ⟨0, false, 93, 2, [.vec (L.take 60).length (j9 (L.take 60)), .int .i64 I], 0⟩, ⟨1, false, 46, 2, [.int .i64 x.d, .vec x.st.length (g8 x.st)], 0⟩]⟩) (.v ⟨(c5 (L.take 60) 0 (c.roots.length : Int)).2, ⟨0, [(c.roots.getD (c5 (L.take 60) 0 (c.roots.length : Int)).1.toNat 0, 0)]⟩, ⟨rfl, ⟨hn0.2.2, (KM hu wc (j8 (by omega))).mono (by omega)⟩⟩, rfl⟩) ?_
  rintro m sl h' ⟨I, x, ⟨hm, ⟨hI, hw⟩⟩, hst⟩
  obtain ⟨rfl, rfl⟩ := St.mk.inj hst; clear hst
  have hI0 := hI.1; have hI1 := hI.2
  have hsl := uC (u := u) (c := c) (m := mx) (x := x)
  refine .seq ?_
  refine c131z ?_
  refine .ca rfl rfl (c_left I) ?_
  refine .nil ?_
  refine u2z ?_ ?_
  ·intro e1 qe1
   refine c240z ?_
   refine c24z ?_
   refine .ca rfl rfl (zS hu wc hmx (n := I.toNat + 1) (by omega) hw) ?_
   refine .n ?_
   refine c0z ?_
   refine u2z ?_ ?_
   ·intro e2 qe2
    refine c8z ?_
    refine .c8 [8, 10] ?_
    refine .z ?_
    exact .ret (.ex (hq := by (exact ⟨x, hw.mono (by omega), rfl⟩)))
   intro e2 qe2
   refine .sk ?_
   refine .c8 [2, 4, 5, 8, 9, 10, 11] ?_
   have hn1 := l6 (L := (L.take 60)) (n := ((eL u c mx x).length : Int)) hI (by omega)
   have hn2 : (c5 (L.take 60) I ((eL u c mx x).length : Int)).2 = I + 1 := next_lt (by omega) rfl
   refine c164z ?_
   refine .ch rfl rfl (wY (L := L.take 60) I ((eL u c mx x).length : Int) hI (by omega) (by omega) (by omega)) ?_
   refine .n ?_
   exact ⟨_, by omega, .v ⟨(c5 (L.take 60) I ((eL u c mx x).length : Int)).2, ((eL u c mx x).getD (c5 (L.take 60) I ((eL u c mx x).length : Int)).1.toNat pW), ⟨rfl, ⟨hn1.2.2, (zM hu wc hw _ (j8 (by omega))).mono (by rw [hn2]; omega)⟩⟩, rfl⟩ (hk := by exact (aB.refl _).app rfl ⟨.inl rfl, .inl rfl, .inl rfl, .inr (eM.get ⟨.vec _ _, .int _ _, trivial⟩), .inr (eM.get ⟨.int _ _, .vec _ _, trivial⟩), trivial⟩)⟩
  intro e1 qe1
  refine c8z ?_
  refine .z ?_
  exact .ret (.ex (hq := by (exact ⟨x, hw.mono (by omega), rfl⟩)))
end Go.Proofs.YtapdldekgbbomaaGreat
end
section
namespace Go.Proofs.YtapdldekgbbomaaGreat
open Go.Ab
end Go.Proofs.YtapdldekgbbomaaGreat
end
