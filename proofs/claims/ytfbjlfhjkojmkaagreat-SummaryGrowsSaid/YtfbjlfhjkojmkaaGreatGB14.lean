/- My own texts, put together by a program of mine. -/
import Derived.Test.YtfbjlfhjkojmkaaGreatGB13
set_option linter.unusedSimpArgs false
set_option linter.unusedVariables false
set_option maxRecDepth 100000
set_option maxHeartbeats 4000000
section
namespace Go.Proofs.YtfbjlfhjkojmkaaGreat
open Go.Ab
set_option maxRecDepth 1000000
noncomputable def IN : Cfg := { ti := tiT.at default 211, dA := fun _ => .any, fns := fnT.at none 150, AR := fun t n => zQ G8 t n, jC := fun f => Nat.beq f 30, bL := fun _ => [] }
theorem tisOkK : (List.range 211).all (fun t => zM Tryz.prog IN t && zN Tryz.prog IN t) = true := by kernel_rfl
theorem goodK : Ab.Good Tryz.prog IN := zR tisOkK rfl rfl fnsOk (fun t name f h v w => BM PG t name f h v w) CV
open Go.PlB in
def V4 : List (Nat × List (Nat × p9)) := (40, [(14, G 10 [0, 0, 3, 7, 0, 16, 0, 112, 255, 511] 384 [0, 0, 0, 0, 0, 0, 0, 0, 128, 384] [256, 256, 256, 256, 384, 384, 384, 256, 0, 0] [] [0, 128, 384] [0, 1, 2, 3])]) :: (38, [(2, E 12 [0, 0, 2, 0, 14, 30, 0, 126, 254, 511, 1023, 2047])]) :: yS
def IB : gZ := fun f => lP V4 f
theorem yU : nJ IN V4 = true := by kernel_rfl
theorem uS : pD IN IB := pE yU
noncomputable def evalK : cV := JU RK (o8 IN IB 100)
theorem OW : evalK.ok Tryz.prog IN := O5 (rB goodK uS 100)
theorem OX : gJ Tryz.prog IN YB := OV
theorem OY : F8 IN IB (wZ YB evalK) 15 [] [] = some (.bool true, []) := by kernel_rfl
theorem L7 (h : c6) : CallA Tryz.prog cfg 15 [] h fun y h' => y = .bool true ∧ h' = h := CallA.frame0 (C := IN) rfl (eH goodK uS (jG OX OW) _ _ _ _ _ OY) h
end Go.Proofs.YtfbjlfhjkojmkaaGreat
end
section
namespace Go.Proofs.YtfbjlfhjkojmkaaGreat
open Go.Ab Go.Un
theorem gH (x : Int) {n : Nat} (h0 : 0 < n) : ∃ k : Nat, k < n ∧ within x n = (k : Int) := by
  have h1 := @nW x n (by omega)
  have h2 := @tH x n (by omega)
  exact ⟨(within x n).toNat, by omega, by omega⟩
variable {h : c6}
theorem OZ {a b : List Nat} (hab : a = b) (hl : a.length < 1000000) : CB 20 [cA a, cA b] h (.bool true) := by
  have := c_sameN (h := h) a b hl
  rw [decide_eq_true hab] at this
  exact this
attribute [local go_sem] rd cA u5 aM s4 n7 m6 dS z9 Int.natCast_nonneg Int.natCast_inj dG jX iB jY lG pW L2 wB kA wC AJ mA uB uC pX List.length_set List.length_replicate Int.toNat_natCast_add_one lA wrap64 L3 List.length_map lI yR L4 kA beq_self_eq_true n7 bne_self_eq_false
variable {u : Un}
theorem yV (hu : WU u) (m : Int) : CB 11 [.agg [.vec u.globals.length (g9 u.globals), .vec u.c4.length (g5 u.c4), .vec u.procs.length (j9 u.procs), .int .i64 u.main], .int .i64 m] h (.int .i64 (within m u.c4.length)) := by
  refine .bz Tryz.f11 10 ?_
  have hml := hu.ml
  refine .z ?_
  refine c39z ?_
  refine .ca rfl rfl (lT _ _ (by omega) (by omega)) ?_
  refine .n ?_
  exact .ret (.ex (hq := by rfl))
variable {i k : Nat}
theorem IC (hi : i ≤ 64) (hk : k ≤ 8) : i * (k + 1) ≤ 576 := Nat.mul_le_mul hi (show k + 1 ≤ 9 from by omega)
theorem wrap_mul (hi : i ≤ 64) (hk : k ≤ 8) : IntKind.wrap .i64 ((i : Int) * ((k : Int) + 1)) = ((i * (k + 1) : Nat) : Int) := by
  have h := IC hi hk
  rw [show (i : Int) * ((k : Int) + 1) = ((i * (k + 1) : Nat) : Int) from by push_cast; rfl]
  exact wrap64 (by omega) (by omega)
theorem min_nat {a b : Nat} : (if (b : Int) < (a : Int) then (b : Int) else (a : Int)) = ((min a b : Nat) : Int) := by split <;> omega
attribute [local go_sem] wrap_mul min_nat Option.bind_eq_bind
theorem c_madeV {l : List Int} {n : Nat} (hn : l.length = n) (hk : k ≤ 8) (hl : n < 9223372036854775808) : CB 37 [.vec n (g9 l), .int .i64 ((k : Nat) : Int)] h (cA (AW l k)) := by
  subst hn
  exact c_made l k hk hl
theorem E7 {c : Clo} (hu : WU u) (wc : WC u c) {mx : Nat} (hmx : mx < u.c4.length) (l : List Int) (hl : l.length < 4611686018427387904) : CH 17 [.agg [.vec u.globals.length (g9 u.globals), .vec u.c4.length (g5 u.c4), .vec u.procs.length (j9 u.procs), .int .i64 u.main], .agg [.vec c.insts.length (l7 c.insts), .vec c.calls.length (n4 c.calls), .vec c.roots.length (g9 c.roots)], .int .i64 ((mx : Nat) : Int), .vec l.length (g9 l)] h (.own (h.length + 2) c.insts.length 0 c.insts.length) (h ++ [⟨0, false, 30, 4, [.vec u.globals.length (g9 u.globals), .vec u.c4.length (g5 u.c4), .vec u.procs.length (j9 u.procs), .int .i64 u.main], 0⟩, ⟨0, false, 34, 3, [.vec c.insts.length (l7 c.insts), .vec c.calls.length (n4 c.calls), .vec c.roots.length (g9 c.roots)], 0⟩, ⟨c.insts.length, false, 22, 1, aK (E3 u c mx l), 0⟩]) := by
  refine .wz Tryz.f17 42 ?_
  have hwl := wc.len
  have hk8 : kM u mx ≤ 8 := qV
  have hk9 : D2 (u.c4.getD mx z6) ≤ 8 := hk8
  have hml := hu.ml
  refine c195z ?_
  refine c22z ?_
  refine .ca rfl rfl (HQ u mx) ?_
  refine c44z ?_
  refine .c7 [3, 5, 9, 10] ?_
  refine c23z ?_
  refine c8.G6 9 rfl ?_
  refine .aP (fun m st => ∃ (i : Nat), (m = c.insts.length - i ∧ (i ≤ c.insts.length)) ∧ st = ⟨mkS 42 [(3, AV.vec l.length (g9 l)), (5, AV.ptr (h.length + 1) 0 0), (9, AV.own (h.length + 2) i 0 i), (10, AV.int .i64 ((kM u mx : Nat) : Int)), (11, AV.int .i64 ((i : Nat) : Int))], h ++ [⟨0, false, 30, 4, [.vec u.globals.length (g9 u.globals), .vec u.c4.length (g5 u.c4), .vec u.procs.length (j9 u.procs), .int .i64 u.main], 0⟩, ⟨0, false, 34, 3, [.vec c.insts.length (l7 c.insts), .vec c.calls.length (n4 c.calls), .vec c.roots.length (g9 c.roots)], 0⟩, p6 22 1 i (aK ((E3 u c mx l).take i))]⟩) (.v ⟨0, ⟨rfl, by omega⟩, rfl⟩ (hs := t84)) ?_
  rintro m sl h' ⟨i, ⟨hm, hi⟩, hst⟩
  obtain ⟨rfl, rfl⟩ := St.mk.inj hst; clear hst
  have hrl : ((E3 u c mx l).take i).length = i := by rw [List.length_take, fJ.1]; omega
  have hmul := IC (i := i) (k := kM u mx) (by omega) hk8
  refine c0z ?_
  refine u2z ?_ ?_
  ·intro e1 qe1
   refine c2z ?_
   refine c208z ?_
   refine .c7 [3, 5, 9, 10, 11, 12] ?_
   refine .r ?_
   refine .e 3 ?_
   refine .ca rfl rfl (c_madeV (List.length_drop) hk8 (by omega)) ?_
   refine c28z ?_
   refine .rz ?_
   exact ⟨_, by omega, .v ⟨(i + 1), ⟨rfl, by omega⟩, rfl⟩ (he := by (rw [OL (by omega)]; simp only [List.append_assoc, List.cons_append, List.nil_append]; rfl)) (hk := by exact (z5.refl _).app rfl ⟨.inl rfl, .inl rfl, .inr (by rw [o4]; exact (IL _).refs _), trivial⟩) (hs := t84)⟩
  intro e1 qe1
  refine .exit ?_
  obtain rfl : i = c.insts.length := by omega
  rw [OM fJ.1]
  change c8 ..
  refine .c7 [9] ?_
  refine c25z ?_
  exact ⟨_, [], _, (List.append_nil _).symm, by simp, z5.new (fun b hb => by replace hb := s6z hb; rcases hb with rfl | rfl | rfl; exact plnU u; exact plnC c; rw [o4]; exact IL _), HM (by simp), by (refine ⟨rfl, ?_⟩; rw [dW (by intro h0; have := congrArg List.length h0; rw [z9, fJ.1] at this; simp only [List.length_nil] at this; omega)])⟩
theorem c_lexit {c : Clo} (hu : WU u) (wc : WC u c) {mx : Nat} (hmx : mx < u.c4.length) (hi : i < c.insts.length) {T : List (List Nat)} (hT : Tb (kM u mx) (eQ u c i) T) : CB 21 [.agg [.vec u.globals.length (g9 u.globals), .vec u.c4.length (g5 u.c4), .vec u.procs.length (j9 u.procs), .int .i64 u.main], .agg [.vec c.insts.length (l7 c.insts), .vec c.calls.length (n4 c.calls), .vec c.roots.length (g9 c.roots)], .int .i64 ((mx : Nat) : Int), .int .i64 ((i : Nat) : Int), .vec (eQ u c i) (aK T)] h (cA (F0 u c mx i T (eQ u c i))) := by
  refine .bz Tryz.f21 68 ?_
  have w := gP wc hi
  have w1 := w.lo; have w2 := w.hi
  have hsz : (c9 u (itI c i)).length ≤ 1664 := u4 hu w
  have hwl := wc.len
  have hk8 : kM u mx ≤ 8 := qV
  have hk9 : D2 (u.c4.getD mx z6) ≤ 8 := hk8
  have hml := hu.ml
  have hTl := hT.1
  have hli : eQ u c i ≤ 1664 := hsz
  have hlc : eQ u c i = (c9 u (itI c i)).length := rfl
  refine .z ?_
  refine .ss r9 (mkP 12 [0, 1, 0, 4, 0, 28, 60, 124, 255, 511, 1023, 2047] []) ?_
  refine c57z ?_
  refine .c7 [2, 4, 5, 11] ?_
  refine c22z ?_
  refine .ca rfl rfl (HQ u mx) ?_
  refine c44z ?_
  refine .c7 [4, 11, 12] ?_
  refine c8.XP (t := 12) (γ := (h.length + 2)) (len := (kM u mx + 1)) t35 (by simp) (by omega) (jH (by decide) rfl) ?_
  rw [bB]; simp only [p5, List.set_cons_succ, List.set_cons_zero]
  generalize (⟨0, false, 3, 1, (List.replicate (kM u mx + 1) 0).map s8, kM u mx + 1⟩ : Blk) = Vb
  refine c23z ?_
  refine .dK (fun m st => ∃ (j : Nat), (m = eQ u c i - j ∧ (j ≤ eQ u c i)) ∧ st = ⟨mkS 68 [(4, AV.vec (eQ u c i) (aK T)), (11, AV.vec (c9 u (itI c i)).length (o3 (c9 u (itI c i)))), (12, cA (F0 u c mx i T j)), (13, AV.int .i64 ((j : Nat) : Int))], h ++ [⟨0, false, 30, 4, [.vec u.globals.length (g9 u.globals), .vec u.c4.length (g5 u.c4), .vec u.procs.length (j9 u.procs), .int .i64 u.main], 0⟩, ⟨0, false, 34, 3, [.vec c.insts.length (l7 c.insts), .vec c.calls.length (n4 c.calls), .vec c.roots.length (g9 c.roots)], 0⟩, Vb]⟩) _ (.v ⟨0, ⟨rfl, by omega⟩, rfl⟩ (hs := t21)) ?_
  rintro m sl h' ⟨j, ⟨hm, hj⟩, hst⟩
  obtain ⟨rfl, rfl⟩ := St.mk.inj hst
  have hop : (qL u c i j).op = ((c9 u (itI c i)).getD j j0).op := rfl
  have hEj := mW (u := u) (c := c) (m := mx) i T j
  have hEl := hEj.1
  refine .seq ?_
  refine c22z ?_
  refine .spl 37 rfl rfl (fun e1 => ?_) (fun e1 => ?_)
  ·try simp only [e1]
   have qe1 := fact e1
   refine .m [(4, 37)] ?_
   refine uTbz ?_
   intro e2 qe2
   refine c2z ?_
   refine .c7 [4, 11, 12, 13] ?_
   have hTj := hT.get (i := j) (by omega)
   have hTjl := hTj.1
   refine .s ?_
   refine .e 7 ?_
   refine .spl 51 rfl rfl (fun e3 => ?_) (fun e3 => ?_)
   ·try simp only [e3]
    have qe3 := fact e3
    refine .k 8 [(6, 51)] ?_
    refine .n ?_
    refine uTbz ?_
    intro e4 qe4
    refine .c7 [4, 11, 12, 13] ?_
    refine .r ?_
    refine .e 5 ?_
    refine c115z ?_
    refine .rz ?_
    exact ⟨_, by omega, .v ⟨(j + 1), ⟨rfl, by omega⟩, rfl⟩ (hs := t21)⟩
   try simp only [e3]
   have qe3 := fact e3
   refine .k 8 [(6, 51)] ?_
   refine .n ?_
   refine c42z ?_
   refine .c7 [4, 11, 12, 13] ?_
   refine .rz ?_
   exact ⟨_, by omega, .v ⟨(j + 1), ⟨rfl, by omega⟩, rfl⟩ (hs := t21)⟩
  try simp only [e1]
  have qe1 := fact e1
  refine .m [(4, 37)] ?_
  refine c235z ?_
  obtain rfl : j = eQ u c i := by omega
  change c8 ..
  refine .c7 [12] ?_
  refine .z ?_
  exact .ret (.ex (hq := by rfl))
end Go.Proofs.YtfbjlfhjkojmkaaGreat
end
section
namespace Go.Proofs.YtfbjlfhjkojmkaaGreat
open Go.Ab Go.Un
attribute [local go_sem] rd cA u5 aM s4 n7 m6 dS z9 Int.natCast_nonneg Int.natCast_inj dG jX iB jY lG pW L2 wB kA wC AJ mA uB uC pX List.length_set List.length_replicate Int.toNat_natCast_add_one lA wrap64 L3 List.length_map lI yR L4 kA beq_self_eq_true n7 bne_self_eq_false
theorem c_lawFixed (L : List Int) (hL : L.length < 4611686018427387904) (m ix : Int) : CB 5 [.vec L.length (g9 L), .int .i64 m, .int .i64 ix] [] (.bool true) := by
  refine .bz Tryz.f5 56 ?_
  refine c127z ?_
  refine m7.cx rfl rfl hb10 (HZ L hL) (fun y1 h1 hq1 => ?_)
  obtain ⟨⟨p, u, c, gp, hu, wc, rfl⟩, rfl⟩ := hq1
  have hml := hu.ml
  have hwl := wc.len
  simp only [X5]
  refine c112z ?_
  refine .c7 [1, 2, 8, 9] ?_
  refine .ss r9 (mkP 10 [0, 0, 3, 0, 0, 16, 48, 127, 255, 511] []) ?_
  refine .k 2 [] ?_
  refine .ca rfl rfl (yV hu m) ?_
  refine .k 4 [] ?_
  refine .ca rfl rfl (lT ix _ (by omega) (by omega)) ?_
  refine .n [] ?_
  refine .c7 [1, 2, 8, 9] ?_
  obtain ⟨mx, hmx, hme⟩ := gH m (n := u.c4.length) (by omega)
  simp only [hme]
  have hk8 : kM u mx ≤ 8 := qV
  obtain ⟨i, hi, hie⟩ := gH ix (n := c.insts.length) (by omega)
  simp only [hie]
  have hli : eQ u c i ≤ 1664 := u4 hu (gP wc hi)
  have hsl := (dN (u := u) (c := c) (m := mx)).1
  refine c19z ?_
  refine .ca rfl rfl (c_of hu wc hmx) ?_
  refine .n ?_
  refine .ss r9 (mkP 28 [0, 1, 0, 4, 12, 31, 63, 127, 127, 127, 127, 127, 127, 127, 127, 127, 63615, 131071, 127, 127, 786559, 1835135, 4194303, 8388607, 16777215, 33554431, 67108863, 134217727] []) ?_
  refine .k 8 [(6, 35)] ?_
  refine .k 8 [(6, 35)] ?_
  refine .ca rfl rfl (oR hu wc hmx dN hi (fun l0 => mB hu wc hmx dN hi _)) ?_
  refine .ca rfl rfl (c_lexit hu wc hmx hi (gQ (oQ u c mx) i)) ?_
  refine .k 4 [(6, 35)] ?_
  refine .ca rfl rfl (OZ (show F0 u c mx i (yY u c mx (oQ u c mx) i) (eQ u c i) = (oQ u c mx).getD i [] from GY hu wc hi) (by have := (mW (u := u) (c := c) (m := mx) i (yY u c mx (oQ u c mx) i) (eQ u c i)).1; omega)) ?_
  refine .k 2 [] ?_
  refine .ca rfl rfl (L7 _) ?_
  refine .n [] ?_
  exact .ret (.ex (hq := by rfl))
variable {h : c6} {k : Nat}
theorem E8 {u : Un} {c : Clo} (hu : WU u) (wc : WC u c) {mx : Nat} (hmx : mx < u.c4.length) (hk : k ≤ 100) : CB 25 [.agg [.vec u.globals.length (g9 u.globals), .vec u.c4.length (g5 u.c4), .vec u.procs.length (j9 u.procs), .int .i64 u.main], .agg [.vec c.insts.length (l7 c.insts), .vec c.calls.length (n4 c.calls), .vec c.roots.length (g9 c.roots)], .int .i64 ((mx : Nat) : Int), .int .i64 ((k : Nat) : Int)] h (.vec c.insts.length (aK (oP u c mx k))) := by
  have := OK (h := h) hu wc hmx (k : Int)
  rw [show pY (k : Int) = k from by unfold pY; omega] at this
  exact this
theorem AQ {u : Un} {c : Clo} (hu : WU u) (wc : WC u c) {mx : Nat} (hmx : mx < u.c4.length) (hk : k + 1 ≤ 100) : CB 25 [.agg [.vec u.globals.length (g9 u.globals), .vec u.c4.length (g5 u.c4), .vec u.procs.length (j9 u.procs), .int .i64 u.main], .agg [.vec c.insts.length (l7 c.insts), .vec c.calls.length (n4 c.calls), .vec c.roots.length (g9 c.roots)], .int .i64 ((mx : Nat) : Int), .int .i64 ((k : Int) + 1)] h (.vec c.insts.length (aK (oP u c mx (k + 1)))) := E8 hu wc hmx hk
theorem uT {a b : List Nat} (hk : k ≤ 8) (_hk : k ≤ 8) (hs : Sub a b) (ha : Rl k a) (hb : Rl k b) : CB 24 [cA a, cA b] h (.bool true) := by
  have := D9 (h := h) a b (by have := ha.1; omega) (by rw [hb.1, ha.1])
  rw [decide_eq_true ((K7 hk ha hb).2 hs)] at this
  exact this
theorem c_lawGrows (L : List Int) (hL : L.length < 4611686018427387904) (m n : Int) : CB 9 [.vec L.length (g9 L), .int .i64 m, .int .i64 n] [] (.bool true) := by
  refine .bz Tryz.f9 115 ?_
  refine c127z ?_
  refine m7.cx rfl rfl hb10 (HZ L hL) (fun y1 h1 hq1 => ?_)
  obtain ⟨⟨p, u, c, gp, hu, wc, rfl⟩, rfl⟩ := hq1
  have hml := hu.ml
  have hwl := wc.len
  simp only [X5]
  refine c112z ?_
  refine .c7 [1, 2, 8, 9] ?_
  refine c38z ?_
  refine .ca rfl rfl (yV hu m) ?_
  refine .e 1 ?_
  refine .ca rfl rfl (lT n 12 (by omega) (by omega)) ?_
  refine .n ?_
  obtain ⟨mx, hmx, hme⟩ := gH m (n := u.c4.length) (by omega)
  simp only [hme]
  have hk8 : kM u mx ≤ 8 := qV
  obtain ⟨k, hk, hke⟩ := gH n (n := 12) (by omega)
  simp only [show within n 12 = (k : Int) from hke]
  refine .ss r9 (mkP 18 [0, 0, 0, 0, 15, 0, 0, 0, 0, 256, 1023, 0, 0, 0, 16383, 32767, 65535, 131071] []) ?_
  refine .k 4 [] ?_
  refine .ca rfl rfl (E8 hu wc hmx (by omega)) ?_
  refine .k 5 [] ?_
  refine .ca rfl rfl (AQ hu wc hmx (by omega)) ?_
  refine .k 3 [] ?_
  refine .ca rfl rfl (c_of hu wc hmx) ?_
  refine .n [] ?_
  refine .seq ?_
  refine .c7 [9, 10, 11, 12] ?_
  refine .s ?_
  refine .k 8 [(6, 46)] ?_
  refine .k 8 [(6, 46), (13, 53)] ?_
  refine .m [(13, 53)] ?_
  refine c198z ?_
  refine .c7 [10, 11, 12] ?_
  refine c23z ?_
  refine .dK (fun m st => ∃ (i : Nat), (m = c.insts.length - i ∧ (i ≤ c.insts.length)) ∧ st = ⟨mkS 115 [(10, AV.vec c.insts.length (aK (oP u c mx k))), (11, AV.vec c.insts.length (aK (oP u c mx (k + 1)))), (12, AV.vec c.insts.length (aK (oQ u c mx))), (13, AV.int .i64 ((i : Nat) : Int))], [⟨0, false, 27, 3, [.vec p.globals.length (o6 p.globals), .vec p.c4.length (g5 p.c4), .vec p.funcs.length (m9 p.funcs)], 0⟩, ⟨0, false, 30, 4, [.vec u.globals.length (g9 u.globals), .vec u.c4.length (g5 u.c4), .vec u.procs.length (j9 u.procs), .int .i64 u.main], 0⟩, ⟨0, false, 34, 3, [.vec c.insts.length (l7 c.insts), .vec c.calls.length (n4 c.calls), .vec c.roots.length (g9 c.roots)], 0⟩]⟩) _ (.v ⟨0, ⟨rfl, by omega⟩, rfl⟩) ?_
  rintro m sl h' ⟨i, ⟨hm, hi⟩, hst⟩
  obtain ⟨rfl, rfl⟩ := St.mk.inj hst
  refine c0z ?_
  refine u2z ?_ ?_
  ·intro e1 qe1
   refine c2z ?_
   have hab := U2 (m := mx) hu wc k i
   have hbo := qM (m := mx) hu wc (k + 1) i
   have hAi := (gA (u := u) (c := c) (m := mx) k).get (i := i) (by omega)
   have hBi := (gA (u := u) (c := c) (m := mx) (k + 1)).get (i := i) (by omega)
   have hOi := (dN (u := u) (c := c) (m := mx)).get (i := i) (by omega)
   have hAl := hAi.1
   have hBl := hBi.1
   have hOl := hOi.1
   have hT1 := (gA (u := u) (c := c) (m := mx) k).1
   have hT2 := (gA (u := u) (c := c) (m := mx) (k + 1)).1
   have hT3 := (dN (u := u) (c := c) (m := mx)).1
   refine .ss r9 (mkP 48 [0, 0, 3, 7, 15, 0, 0, 96, 224, 480, 1023, 2047, 4095, 4095, 16383, 32767, 65535, 4095, 4095, 397311, 921599, 1970175, 4194303, 8388607, 16777215, 33554431, 33554431, 134217727, 268435455, 33554431, 33554431, 1644167167, 3791650815, 8589934591, 17179869183, 34359738367, 68719476735, 137438953471, 137438953471, 549755813887, 1099511627775, 137438953471, 137438953471, 6734508720127, 15530601742335, 35184372088831, 70368744177663, 140737488355327] []) ?_
   refine .k 8 [] ?_
   refine .k 4 [] ?_
   refine .spl 77 rfl rfl (fun e2 => by exfalso; have q := fact e2; omega) (fun e2 => ?_)
   try simp only [e2]
   have qe2 := fact e2
   refine .k 8 [(11, 77)] ?_
   refine .k 5 [(11, 77)] ?_
   refine .spl 90 rfl rfl (fun e3 => by exfalso; have q := fact e3; omega) (fun e3 => ?_)
   try simp only [e3]
   have qe3 := fact e3
   refine .k 8 [(24, 90)] ?_
   refine .ca rfl rfl (uT (by omega) (by omega) hab hAi hBi) ?_
   refine .k 8 [(24, 90), (36, 102)] ?_
   refine .k 3 [(36, 102)] ?_
   refine .ca rfl rfl (uT (by omega) (by omega) hbo hBi hOi) ?_
   refine .n [(36, 102)] ?_
   refine c42z ?_
   refine .c7 [10, 11, 12, 13] ?_
   refine .rz ?_
   exact ⟨_, by omega, .v ⟨(i + 1), ⟨rfl, by omega⟩, rfl⟩⟩
  intro e1 qe1
  refine c10z ?_
  refine .c7 [] ?_
  refine .s ?_
  refine .ca rfl rfl (L7 _) ?_
  refine .n ?_
  exact .ret (.ex (hq := by rfl))
theorem PA {n j : Nat} {A T : List (List Nat)} (hT : Tb k n T) (hj : j < n) (ha : Rl k (A.getD j [])) (ht : Rl k (T.getD j [])) (h : ∀ d, d < j → Sub (A.getD d []) (T.getD d [])) : ∀ d, d < j + 1 → Sub (A.getD d []) ((T.set j (cR (A.getD j []) (T.getD j []))).getD d []) := fun d hd => by
  rw [cU (by rw [hT.1]; exact hj)]
  split
  · rename_i e; subst e; exact jZ ha ht
  · exact h d (by omega)
theorem c_lawMonotone (L : List Int) (hL : L.length < 4611686018427387904) (m : Int) (s : List Int) (hs : s.length < 4611686018427387904) (t : List Int) (ht : t.length < 4611686018427387904) (ix : Int) : CB 7 [.vec L.length (g9 L), .int .i64 m, .vec s.length (g9 s), .vec t.length (g9 t), .int .i64 ix] [] (.bool true) := by
  refine .bz Tryz.f7 114 ?_
  refine c127z ?_
  refine m7.cx rfl rfl hb10 (HZ L hL) (fun y1 h1 hq1 => ?_)
  obtain ⟨⟨p, u, c, gp, hu, wc, rfl⟩, rfl⟩ := hq1
  have hml := hu.ml
  have hwl := wc.len
  simp only [X5]
  refine c112z ?_
  refine .c7 [1, 2, 3, 4, 12, 13] ?_
  refine .ss r9 (mkP 10 [0, 0, 3, 0, 0, 16, 48, 127, 255, 511] []) ?_
  refine .k 2 [] ?_
  refine .ca rfl rfl (yV hu m) ?_
  refine .k 4 [] ?_
  refine .ca rfl rfl (lT ix _ (by omega) (by omega)) ?_
  refine .n [] ?_
  refine .c7 [1, 2, 3, 4, 12, 13] ?_
  obtain ⟨mx, hmx, hme⟩ := gH m (n := u.c4.length) (by omega)
  simp only [hme]
  have hk8 : kM u mx ≤ 8 := qV
  obtain ⟨i, hi, hie⟩ := gH ix (n := c.insts.length) (by omega)
  simp only [hie]
  have hli : eQ u c i ≤ 1664 := u4 hu (gP wc hi)
  refine .sm r9 (mkP 12 [0, 0, 0, 0, 15, 0, 0, 0, 0, 511, 1023, 2047] [4, 9]) [5, 6, 7, 8] ?_
  refine cZ.p (pd := []) 4 ?_
  refine cZ.o8 rfl rfl rfl rfl rfl hb17 (E7 hu wc hmx s hs) ?_
  refine cZ.p 4 ?_
  refine cZ.o8 rfl rfl rfl rfl rfl hb17 (E7 hu wc hmx t ht) ?_
  refine cZ.p 2 ?_
  refine cZ.nil t10 ?_
  refine .seq ?_
  refine .c7 [1, 4, 12, 13, 14, 15] ?_
  refine c23z ?_
  refine .aP (fun m st => ∃ (j : Nat) (T : List (List Nat)), (m = c.insts.length - j ∧ (Tb (kM u mx) c.insts.length T ∧ (∀ d, d < j → Sub ((E3 u c mx s).getD d []) (T.getD d [])) ∧ j ≤ c.insts.length)) ∧ st = ⟨mkS 114 [(1, AV.int .i64 ((mx : Nat) : Int)), (4, AV.int .i64 ((i : Nat) : Int)), (12, AV.ptr 1 0 0), (13, AV.ptr 2 0 0), (14, AV.own 5 c.insts.length 0 c.insts.length), (15, AV.own 8 c.insts.length 0 c.insts.length), (16, AV.int .i64 ((j : Nat) : Int))], [⟨0, false, 27, 3, [.vec p.globals.length (o6 p.globals), .vec p.c4.length (g5 p.c4), .vec p.funcs.length (m9 p.funcs)], 0⟩, ⟨0, false, 30, 4, [.vec u.globals.length (g9 u.globals), .vec u.c4.length (g5 u.c4), .vec u.procs.length (j9 u.procs), .int .i64 u.main], 0⟩, ⟨0, false, 34, 3, [.vec c.insts.length (l7 c.insts), .vec c.calls.length (n4 c.calls), .vec c.roots.length (g9 c.roots)], 0⟩, ⟨0, false, 30, 4, [.vec u.globals.length (g9 u.globals), .vec u.c4.length (g5 u.c4), .vec u.procs.length (j9 u.procs), .int .i64 u.main], 0⟩, ⟨0, false, 34, 3, [.vec c.insts.length (l7 c.insts), .vec c.calls.length (n4 c.calls), .vec c.roots.length (g9 c.roots)], 0⟩, ⟨c.insts.length, false, 22, 1, aK (E3 u c mx s), 0⟩, ⟨0, false, 30, 4, [.vec u.globals.length (g9 u.globals), .vec u.c4.length (g5 u.c4), .vec u.procs.length (j9 u.procs), .int .i64 u.main], 0⟩, ⟨0, false, 34, 3, [.vec c.insts.length (l7 c.insts), .vec c.calls.length (n4 c.calls), .vec c.roots.length (g9 c.roots)], 0⟩, ⟨c.insts.length, false, 22, 1, aK T, 0⟩]⟩) (.v ⟨0, (E3 u c mx t), ⟨rfl, ⟨fJ, fun d hd => by omega, by omega⟩⟩, rfl⟩) ?_
  rintro m sl h' ⟨j, T, ⟨hm, ⟨hT, hS, hj⟩⟩, hst⟩
  obtain ⟨rfl, rfl⟩ := St.mk.inj hst; clear hst
  have hTl := hT.1
  have hAl := (fJ (u := u) (c := c) (mx := mx) (l := s)).1
  refine c0z ?_
  refine u2z ?_ ?_
  ·intro e1 qe1
   refine c2z ?_
   have hTi := hT.get (i := j) (by omega)
   have hAi := (fJ (u := u) (c := c) (mx := mx) (l := s)).get (i := j) (by omega)
   refine .so r9 (mkP 13 [0, 0, 0, 0, 12, 28, 0, 0, 192, 448, 1020, 2047, 4095] [12]) ?_
   refine .k 8 [] ?_
   refine .k 2 [] ?_
   refine .ca rfl rfl (OB _ _ (hTi.lt hk8) (hAi.lt hk8) (by have := hAi.1; omega) (by have := hAi.1; have := hTi.1; omega)) ?_
   refine c222z ?_
   refine .c7 [1, 4, 12, 13, 14, 15, 16] ?_
   refine .rz ?_
   exact ⟨_, by omega, .v ⟨(j + 1), (T.set j (cR ((E3 u c mx s).getD j []) (T.getD j []))), ⟨rfl, ⟨hT.set (oK hAi hTi), PA hT (by omega) hAi hTi hS, by omega⟩⟩, rfl⟩ (he := by exact (List.append_nil _).symm) (hk := by exact z5.of ⟨.inl rfl, .inl rfl, .inl rfl, .inl rfl, .inl rfl, .inl rfl, .inl rfl, .inl rfl, .inr ((IL _).refs _), trivial⟩)⟩
  intro e1 qe1
  refine .exit ?_
  obtain rfl : j = c.insts.length := by omega
  change c8 ..
  refine c8.XQ (t := 14) (γ := 5) (len := c.insts.length) (by rfl) fJ.1 (by omega) (jH (by decide) rfl) ?_
  rw [bB]; simp only [List.set_cons_succ, List.set_cons_zero]
  refine c8.XQ (t := 15) (γ := 8) (len := c.insts.length) (by rfl) hT.1 (by omega) (jH (by decide) rfl) ?_
  rw [bB]; simp only [List.set_cons_succ, List.set_cons_zero]
  generalize (⟨c.insts.length, false, 22, 1, aK (E3 u c mx s), c.insts.length⟩ : Blk) = VA
  generalize (⟨c.insts.length, false, 22, 1, aK T, c.insts.length⟩ : Blk) = VB
  refine .ss r9 (mkP 14 [0, 0, 0, 0, 0, 31, 0, 0, 0, 0, 0, 2047, 4095, 8191] []) ?_
  refine .k 5 [] ?_
  refine .ca rfl rfl (oR hu wc hmx fJ hi (fun l0 => mB hu wc hmx fJ hi _)) ?_
  refine .k 5 [] ?_
  refine .ca rfl rfl (oR hu wc hmx hT hi (fun l0 => mB hu wc hmx hT hi _)) ?_
  refine .n [] ?_
  refine .seq ?_
  refine .c7 [17, 18] ?_
  have hlp : 0 < eQ u c i := (jN hu (gP wc hi)).1
  have hmono := GU hu wc fJ hT (pU fJ hS) hi
  have hX1 := (gQ (u := u) (c := c) (m := mx) (E3 u c mx s) i).1
  have hX2 := (gQ (u := u) (c := c) (m := mx) T i).1
  refine .s ?_
  refine .k 8 [(5, 79)] ?_
  refine .m [(5, 79)] ?_
  refine uFbz ?_
  intro e2 qe2
  refine c160z ?_
  refine .c7 [17, 18] ?_
  refine c23z ?_
  refine .dK (fun m st => ∃ (j : Nat), (m = eQ u c i - j ∧ (j ≤ eQ u c i)) ∧ st = ⟨mkS 114 [(17, AV.vec (eQ u c i) (aK (yY u c mx (E3 u c mx s) i))), (18, AV.vec (eQ u c i) (aK (yY u c mx T i))), (19, AV.int .i64 ((j : Nat) : Int))], [⟨0, false, 27, 3, [.vec p.globals.length (o6 p.globals), .vec p.c4.length (g5 p.c4), .vec p.funcs.length (m9 p.funcs)], 0⟩, ⟨0, false, 30, 4, [.vec u.globals.length (g9 u.globals), .vec u.c4.length (g5 u.c4), .vec u.procs.length (j9 u.procs), .int .i64 u.main], 0⟩, ⟨0, false, 34, 3, [.vec c.insts.length (l7 c.insts), .vec c.calls.length (n4 c.calls), .vec c.roots.length (g9 c.roots)], 0⟩, ⟨0, false, 30, 4, [.vec u.globals.length (g9 u.globals), .vec u.c4.length (g5 u.c4), .vec u.procs.length (j9 u.procs), .int .i64 u.main], 0⟩, ⟨0, false, 34, 3, [.vec c.insts.length (l7 c.insts), .vec c.calls.length (n4 c.calls), .vec c.roots.length (g9 c.roots)], 0⟩, VA, ⟨0, false, 30, 4, [.vec u.globals.length (g9 u.globals), .vec u.c4.length (g5 u.c4), .vec u.procs.length (j9 u.procs), .int .i64 u.main], 0⟩, ⟨0, false, 34, 3, [.vec c.insts.length (l7 c.insts), .vec c.calls.length (n4 c.calls), .vec c.roots.length (g9 c.roots)], 0⟩, VB]⟩) _ (.v ⟨0, ⟨rfl, by omega⟩, rfl⟩) ?_
  rintro m sl h' ⟨j, ⟨hm, hj⟩, hst⟩
  obtain ⟨rfl, rfl⟩ := St.mk.inj hst
  refine c0z ?_
  refine u2z ?_ ?_
  ·intro e3 qe3
   refine c2z ?_
   have hl1 := ((gQ (u := u) (c := c) (m := mx) (E3 u c mx s) i).get (i := j) (by omega)).1
   have hl2 := ((gQ (u := u) (c := c) (m := mx) T i).get (i := j) (by omega)).1
   refine .ss r9 (mkP 23 [0, 0, 3, 7, 15, 0, 0, 96, 224, 480, 1023, 2047, 4095, 4095, 16383, 32767, 4095, 4095, 200703, 462847, 1048575, 2097151, 4194303] []) ?_
   refine .k 8 [] ?_
   refine .k 4 [] ?_
   refine .spl 101 rfl rfl (fun e4 => by exfalso; have q := fact e4; omega) (fun e4 => ?_)
   try simp only [e4]
   have qe4 := fact e4
   refine .k 8 [(11, 101)] ?_
   refine .ca rfl rfl (uT hk8 hk8 (hmono j) ((gQ _ _).get (by omega)) ((gQ _ _).get (by omega))) ?_
   refine .n [(11, 101)] ?_
   refine c42z ?_
   refine .c7 [17, 18, 19] ?_
   refine .rz ?_
   exact ⟨_, by omega, .v ⟨(j + 1), ⟨rfl, by omega⟩, rfl⟩⟩
  intro e3 qe3
  refine c10z ?_
  refine .s ?_
  refine .ca rfl rfl (L7 _) ?_
  refine .n ?_
  exact .ret (.ex (hq := by rfl))
end Go.Proofs.YtfbjlfhjkojmkaaGreat
end
