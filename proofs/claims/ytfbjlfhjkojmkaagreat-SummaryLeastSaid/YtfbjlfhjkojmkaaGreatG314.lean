/- My own texts, put together by a program of mine. -/
import Derived.Test.YtfbjlfhjkojmkaaGreatG313
set_option linter.unusedSimpArgs false
set_option linter.unusedVariables false
set_option maxRecDepth 100000
set_option maxHeartbeats 4000000
section
namespace Go.Proofs.YtfbjlfhjkojmkaaGreat
open Go.Ab
set_option maxRecDepth 1000000
noncomputable def IQ : Cfg := { ti := tiT.at default 211, cW := fun _ => .any, fns := fnT.at none 150, AD := fun t n => zO F7 t n, iY := fun f => Nat.beq f 30, bJ := fun _ => [] }
theorem tisOkK : (List.range 211).all (fun t => zK Tryz.prog IQ t && zL Tryz.prog IQ t) = true := by kernel_rfl
theorem goodK : Ab.Good Tryz.prog IQ := zP tisOkK rfl rfl fnsOk (fun t name f h v w => AX PJ t name f h v w) CG
open Go.PlB in
def U3 : List (Nat × List (Nat × p8)) := (40, [(14, G 10 [0, 0, 3, 7, 0, 16, 0, 112, 255, 511] 384 [0, 0, 0, 0, 0, 0, 0, 0, 128, 384] [256, 256, 256, 256, 384, 384, 384, 256, 0, 0] [] [0, 128, 384] [0, 1, 2, 3])]) :: (38, [(2, E 12 [0, 0, 2, 0, 14, 30, 0, 126, 254, 511, 1023, 2047])]) :: yR
def HW : gS := fun f => lL U3 f
theorem yT : nH IQ U3 = true := by kernel_rfl
theorem uJ : oX IQ HW := oY yT
noncomputable def evalK : cS := JW RM (o9 IQ HW 100)
theorem OZ : evalK.ok Tryz.prog IQ := N2 (qQ goodK uJ 100)
theorem PA : gE Tryz.prog IQ XY := OY
theorem PB : E7 IQ HW (wU XY evalK) 15 [] [] = some (.bool true, []) := by kernel_rfl
theorem HX (h : c6) : CallA Tryz.prog cfg 15 [] h fun y h' => y = .bool true ∧ h' = h := CallA.frame0 (C := IQ) rfl (eE goodK uJ (jC PA OZ) _ _ _ _ _ PB) h
end Go.Proofs.YtfbjlfhjkojmkaaGreat
end
section
namespace Go.Proofs.YtfbjlfhjkojmkaaGreat
open Go.Ab Go.Un
theorem vY (x : Int) {n : Nat} (h0 : 0 < n) : ∃ k : Nat, k < n ∧ within x n = (k : Int) := by
  have h1 := @nU x n (by omega)
  have h2 := @sY x n (by omega)
  exact ⟨(within x n).toNat, by omega, by omega⟩
variable {u : Un} {c : Clo} {mx i : Nat}
theorem HY (hu : WU u) (wc : WC u c) (hmx : mx < u.c4.length) {S : List (List Nat)} (hS : Tb (kM u mx) c.insts.length S) (hi : i < c.insts.length) {H : c6} {β g : Nat} (hb : H[β]? = some ⟨g, false, 22, 1, u6 S, 0⟩) : CB 23 [.agg [.vec u.globals.length (g7 u.globals), .vec u.c4.length (g5 u.c4), .vec u.procs.length (j8 u.procs), .int .i64 u.main], .agg [.vec c.insts.length (l6 c.insts), .vec c.calls.length (m7 c.calls), .vec c.roots.length (g7 c.roots)], .int .i64 ((mx : Nat) : Int), .own β g 0 c.insts.length, .int .i64 ((i : Nat) : Int)] H (bE (exT u c mx S i)) := by
  obtain ⟨A, R, rfl, rfl⟩ := midH_of hb
  exact ON hu wc hmx hS hi
attribute [local go_sem] rd bE u7 aK s4 n6 l9 dO aT Int.natCast_nonneg Int.natCast_inj dC jR gY jS lD pP J9 vU jV vV Z5 lY tT tU pQ List.length_set List.length_replicate Int.toNat_natCast_add_one kX wrap64 K1 List.length_map lE jU rS yQ K2 jV beq_self_eq_true n6 bne_self_eq_false
variable {h : c6}
theorem PC (hu : WU u) (m : Int) : CB 11 [.agg [.vec u.globals.length (g7 u.globals), .vec u.c4.length (g5 u.c4), .vec u.procs.length (j8 u.procs), .int .i64 u.main], .int .i64 m] h (.int .i64 (within m u.c4.length)) := by
  refine .bz Tryz.f11 10 ?_
  have hml := hu.ml
  refine .z ?_
  refine c25z ?_
  refine .ca rfl rfl (rG _ _ (by omega) (by omega)) ?_
  refine .n ?_
  exact .ret (.ex (hq := by rfl))
variable {k : Nat}
theorem HZ (hi : i ≤ 64) (hk : k ≤ 8) : i * (k + 1) ≤ 576 := Nat.mul_le_mul hi (show k + 1 ≤ 9 from by omega)
theorem wrap_mul (hi : i ≤ 64) (hk : k ≤ 8) : IntKind.wrap .i64 ((i : Int) * ((k : Int) + 1)) = ((i * (k + 1) : Nat) : Int) := by
  have h := HZ hi hk
  rw [show (i : Int) * ((k : Int) + 1) = ((i * (k + 1) : Nat) : Int) from by push_cast; rfl]
  exact wrap64 (by omega) (by omega)
theorem min_nat {a b : Nat} : (if (b : Int) < (a : Int) then (b : Int) else (a : Int)) = ((min a b : Nat) : Int) := by split <;> omega
attribute [local go_sem] wrap_mul min_nat Option.bind_eq_bind
theorem c_madeV {l : List Int} {n : Nat} (hn : l.length = n) (hk : k ≤ 8) (hl : n < 9223372036854775808) : CB 37 [.vec n (g7 l), .int .i64 ((k : Nat) : Int)] h (bE (AH l k)) := by
  subst hn
  exact c_made l k hk hl
theorem IA (hu : WU u) (wc : WC u c) (hmx : mx < u.c4.length) (l : List Int) (hl : l.length < 4611686018427387904) : CH 17 [.agg [.vec u.globals.length (g7 u.globals), .vec u.c4.length (g5 u.c4), .vec u.procs.length (j8 u.procs), .int .i64 u.main], .agg [.vec c.insts.length (l6 c.insts), .vec c.calls.length (m7 c.calls), .vec c.roots.length (g7 c.roots)], .int .i64 ((mx : Nat) : Int), .vec l.length (g7 l)] h (.own (h.length + 2) c.insts.length 0 c.insts.length) (h ++ [⟨0, false, 30, 4, [.vec u.globals.length (g7 u.globals), .vec u.c4.length (g5 u.c4), .vec u.procs.length (j8 u.procs), .int .i64 u.main], 0⟩, ⟨0, false, 34, 3, [.vec c.insts.length (l6 c.insts), .vec c.calls.length (m7 c.calls), .vec c.roots.length (g7 c.roots)], 0⟩, ⟨c.insts.length, false, 22, 1, u6 (IP u c mx l), 0⟩]) := by
  refine .wz Tryz.f17 42 ?_
  have hwl := wc.len
  have hk8 : kM u mx ≤ 8 := yM
  have hk9 : yW (u.c4.getD mx w8) ≤ 8 := hk8
  have hml := hu.ml
  refine c19z ?_
  refine c185z ?_
  refine c31z ?_
  refine .c7 [3, 5, 9, 10] ?_
  refine c17z ?_
  refine c9.F5 9 rfl ?_
  refine .aB (fun m st => ∃ (i : Nat), (m = c.insts.length - i ∧ (i ≤ c.insts.length)) ∧ st = ⟨mkS 42 [(3, AV.vec l.length (g7 l)), (5, AV.ptr (h.length + 1) 0 0), (9, AV.own (h.length + 2) i 0 i), (10, AV.int .i64 ((kM u mx : Nat) : Int)), (11, AV.int .i64 ((i : Nat) : Int))], h ++ [⟨0, false, 30, 4, [.vec u.globals.length (g7 u.globals), .vec u.c4.length (g5 u.c4), .vec u.procs.length (j8 u.procs), .int .i64 u.main], 0⟩, ⟨0, false, 34, 3, [.vec c.insts.length (l6 c.insts), .vec c.calls.length (m7 c.calls), .vec c.roots.length (g7 c.roots)], 0⟩, p5 22 1 i (u6 ((IP u c mx l).take i))]⟩) (.v ⟨0, ⟨rfl, by omega⟩, rfl⟩ (hs := t87)) ?_
  rintro m sl h' ⟨i, ⟨hm, hi⟩, hst⟩
  obtain ⟨rfl, rfl⟩ := St.mk.inj hst; clear hst
  have hrl : ((IP u c mx l).take i).length = i := by rw [List.length_take, uH.1]; omega
  have hmul := HZ (i := i) (k := kM u mx) (by omega) hk8
  refine c0z ?_
  refine u2z ?_ ?_
  ·intro e1 qe1
   refine c2z ?_
   refine c134z ?_
   refine .c7 [3, 5, 9, 10, 11, 12] ?_
   refine .r ?_
   refine .e 3 ?_
   refine .ca rfl rfl (c_madeV (List.length_drop) hk8 (by omega)) ?_
   refine c29z ?_
   refine .rz ?_
   exact ⟨_, by omega, .v ⟨(i + 1), ⟨rfl, by omega⟩, rfl⟩ (he := by (rw [OO (by omega)]; simp only [List.append_assoc, List.cons_append, List.nil_append]; rfl)) (hk := by exact (z4.refl _).app rfl ⟨.inl rfl, .inl rfl, .inr (by rw [o4]; exact (IL _).refs _), trivial⟩) (hs := t87)⟩
  intro e1 qe1
  refine .exit ?_
  obtain rfl : i = c.insts.length := by omega
  rw [OP uH.1]
  change c9 ..
  refine .c7 [9] ?_
  refine c33z ?_
  exact ⟨_, [], _, (List.append_nil _).symm, by simp, z4.new (fun b hb => by replace hb := s6z hb; rcases hb with rfl | rfl | rfl; exact plnU u; exact plnC c; rw [o4]; exact IL _), HL (by simp), by (refine ⟨rfl, ?_⟩; rw [dU (by intro h0; have := congrArg List.length h0; rw [aT, uH.1] at this; simp only [List.length_nil] at this; omega)])⟩
theorem c_lexit (hu : WU u) (wc : WC u c) (hmx : mx < u.c4.length) (hi : i < c.insts.length) {T : List (List Nat)} (hT : Tb (kM u mx) (fW u c i) T) : CB 21 [.agg [.vec u.globals.length (g7 u.globals), .vec u.c4.length (g5 u.c4), .vec u.procs.length (j8 u.procs), .int .i64 u.main], .agg [.vec c.insts.length (l6 c.insts), .vec c.calls.length (m7 c.calls), .vec c.roots.length (g7 c.roots)], .int .i64 ((mx : Nat) : Int), .int .i64 ((i : Nat) : Int), .vec (fW u c i) (u6 T)] h (bE (J6 u c mx i T (fW u c i))) := by
  refine .bz Tryz.f21 68 ?_
  have w := gZ wc hi
  have w1 := w.lo; have w2 := w.hi
  have hsz : (c8 u (itI c i)).length ≤ 1664 := r7 hu w
  have hwl := wc.len
  have hk8 : kM u mx ≤ 8 := yM
  have hk9 : yW (u.c4.getD mx w8) ≤ 8 := hk8
  have hml := hu.ml
  have hTl := hT.1
  have hli : fW u c i ≤ 1664 := hsz
  have hlc : fW u c i = (c8 u (itI c i)).length := rfl
  refine .z ?_
  refine .ss s3 (mkP 12 [0, 1, 0, 4, 0, 28, 60, 124, 255, 511, 1023, 2047] []) ?_
  refine c59z ?_
  refine .c7 [2, 4, 5, 11] ?_
  refine c185z ?_
  refine c31z ?_
  refine .c7 [4, 11, 12] ?_
  refine c9.XL (t := 12) (γ := (h.length + 2)) (len := (kM u mx + 1)) t36 (by simp) (by omega) (mQ (by decide) rfl) ?_
  rw [bK]; simp only [p4, List.set_cons_succ, List.set_cons_zero]
  generalize (⟨0, false, 3, 1, (List.replicate (kM u mx + 1) 0).map s9, kM u mx + 1⟩ : Blk) = Vb
  refine c17z ?_
  refine .cJ (fun m st => ∃ (j : Nat), (m = fW u c i - j ∧ (j ≤ fW u c i)) ∧ st = ⟨mkS 68 [(4, AV.vec (fW u c i) (u6 T)), (11, AV.vec (c8 u (itI c i)).length (o1 (c8 u (itI c i)))), (12, bE (J6 u c mx i T j)), (13, AV.int .i64 ((j : Nat) : Int))], h ++ [⟨0, false, 30, 4, [.vec u.globals.length (g7 u.globals), .vec u.c4.length (g5 u.c4), .vec u.procs.length (j8 u.procs), .int .i64 u.main], 0⟩, ⟨0, false, 34, 3, [.vec c.insts.length (l6 c.insts), .vec c.calls.length (m7 c.calls), .vec c.roots.length (g7 c.roots)], 0⟩, Vb]⟩) _ (.v ⟨0, ⟨rfl, by omega⟩, rfl⟩ (hs := t22)) ?_
  rintro m sl h' ⟨j, ⟨hm, hj⟩, hst⟩
  obtain ⟨rfl, rfl⟩ := St.mk.inj hst
  have hop : (mG u c i j).op = ((c8 u (itI c i)).getD j g6).op := rfl
  have hEj := mU (u := u) (c := c) (m := mx) i T j
  have hEl := hEj.1
  refine .seq ?_
  refine c21z ?_
  refine .spl 37 rfl rfl (fun e1 => ?_) (fun e1 => ?_)
  ·try simp only [e1]
   have qe1 := fact e1
   refine .m [(4, 37)] ?_
   refine uTbz ?_
   intro e2 qe2
   refine c2z ?_
   refine .c7 [4, 11, 12, 13] ?_
   have hTj := hT.get (i := j) (by omega)
   have hTjl := hTj.1
   refine .s ?_
   refine .e 7 ?_
   refine .spl 51 rfl rfl (fun e3 => ?_) (fun e3 => ?_)
   ·try simp only [e3]
    have qe3 := fact e3
    refine .k 8 [(6, 51)] ?_
    refine .n ?_
    refine uTbz ?_
    intro e4 qe4
    refine .c7 [4, 11, 12, 13] ?_
    refine .r ?_
    refine .e 5 ?_
    refine .ca rfl rfl (K0 _ _ (hTj.lt hk8) (hEj.lt hk8) (by have := hEj.1; omega) t178) ?_
    refine c29z ?_
    refine .rz ?_
    exact ⟨_, by omega, .v ⟨(j + 1), ⟨rfl, by omega⟩, rfl⟩ (hs := t22)⟩
   try simp only [e3]
   have qe3 := fact e3
   refine .k 8 [(6, 51)] ?_
   refine .n ?_
   refine c40z ?_
   refine .c7 [4, 11, 12, 13] ?_
   refine .rz ?_
   exact ⟨_, by omega, .v ⟨(j + 1), ⟨rfl, by omega⟩, rfl⟩ (hs := t22)⟩
  try simp only [e1]
  have qe1 := fact e1
  refine .m [(4, 37)] ?_
  refine c236z ?_
  obtain rfl : j = fW u c i := by omega
  change c9 ..
  refine .c7 [12] ?_
  refine .z ?_
  exact .ret (.ex (hq := by rfl))
end Go.Proofs.YtfbjlfhjkojmkaaGreat
end
section
namespace Go.Proofs.YtfbjlfhjkojmkaaGreat
open Go.Ab Go.Un
attribute [local go_sem] rd bE u7 aK s4 n6 l9 dO aT Int.natCast_nonneg Int.natCast_inj dC jR gY jS lD pP J9 vU jV vV Z5 lY tT tU pQ List.length_set List.length_replicate Int.toNat_natCast_add_one kX wrap64 K1 List.length_map lE jU rS yQ K2 jV beq_self_eq_true n6 bne_self_eq_false
variable {h : c6}
theorem IB {k : Nat} {a b : List Nat} (hk : k ≤ 8) (_hk : k ≤ 8) (hs : Sub a b) (ha : Rl k a) (hb : Rl k b) : CB 24 [bE a, bE b] h (.bool true) := by
  have := uD (h := h) a b (by have := ha.1; omega) (by rw [hb.1, ha.1])
  rw [decide_eq_true ((yI hk ha hb).2 hs)] at this
  exact this
theorem IC {x : Int} {g : Nat} (hx : within x 6 = (g : Int)) : CB 16 [.int .i64 x, .int .i64 6] h (.int .i64 ((g : Nat) : Int)) := by
  have := rG (h := h) x 6 (by omega) (by omega)
  rw [hx] at this
  exact this
theorem ID {k : Nat} {a b : List Nat} (hk : k ≤ 8) (ha : Rl k a) (hb : Rl k b) : CB 24 [bE a, bE b] h (.bool (decide (pN a b))) := uD (h := h) a b (by have := ha.1; omega) (by rw [hb.1, ha.1])
theorem c_lawLeast (L : List Int) (hL : L.length < 4611686018427387904) (m : Int) (s : List Int) (hs : s.length < 4611686018427387904) (grow : Int) : CB 6 [.vec L.length (g7 L), .int .i64 m, .vec s.length (g7 s), .int .i64 grow] [] (.bool true) := by
  refine .bz Tryz.f6 121 ?_
  refine c217z ?_
  refine m8.cx rfl rfl hb10 (c_unit L hL) (fun y1 h1 hq1 => ?_)
  obtain ⟨⟨p, u, c, gp, hu, wc, rfl⟩, rfl⟩ := hq1
  have hml := hu.ml
  have hwl := wc.len
  simp only [KE]
  refine .e 8 ?_
  refine .n ?_
  refine .c7 [1, 2, 3, 10, 11] ?_
  refine c30z ?_
  refine .ca rfl rfl (PC hu m) ?_
  refine .n ?_
  obtain ⟨mx, hmx, hme⟩ := vY m (n := u.c4.length) (by omega)
  simp only [hme]
  have hk8 : kM u mx ≤ 8 := yM
  obtain ⟨gr, hgr, hge⟩ := vY grow (n := 6) (by omega)
  refine c25z ?_
  refine .ch rfl rfl (IA hu wc hmx s hs) ?_
  refine c31z ?_
  refine .c7 [1, 3, 10, 11, 12] ?_
  refine c17z ?_
  refine .aB (fun m st => ∃ (k : Nat) (T : List (List Nat)), (m = gr - k ∧ (Tb (kM u mx) c.insts.length T ∧ k ≤ gr)) ∧ st = ⟨mkS 121 [(1, AV.int .i64 ((mx : Nat) : Int)), (3, AV.int .i64 grow), (10, AV.ptr 1 0 0), (11, AV.ptr 2 0 0), (12, AV.own 5 c.insts.length 0 c.insts.length), (13, AV.int .i64 ((k : Nat) : Int))], [⟨0, false, 27, 3, [.vec p.globals.length (o3 p.globals), .vec p.c4.length (g5 p.c4), .vec p.funcs.length (m6 p.funcs)], 0⟩, ⟨0, false, 30, 4, [.vec u.globals.length (g7 u.globals), .vec u.c4.length (g5 u.c4), .vec u.procs.length (j8 u.procs), .int .i64 u.main], 0⟩, ⟨0, false, 34, 3, [.vec c.insts.length (l6 c.insts), .vec c.calls.length (m7 c.calls), .vec c.roots.length (g7 c.roots)], 0⟩, ⟨0, false, 30, 4, [.vec u.globals.length (g7 u.globals), .vec u.c4.length (g5 u.c4), .vec u.procs.length (j8 u.procs), .int .i64 u.main], 0⟩, ⟨0, false, 34, 3, [.vec c.insts.length (l6 c.insts), .vec c.calls.length (m7 c.calls), .vec c.roots.length (g7 c.roots)], 0⟩, ⟨c.insts.length, false, 22, 1, u6 T, 0⟩]⟩) (.v ⟨0, (IP u c mx s), ⟨rfl, ⟨uH, by omega⟩⟩, rfl⟩) ?_
  rintro m sl h' ⟨k, T, ⟨hm, ⟨hT, hk⟩⟩, hst⟩
  obtain ⟨rfl, rfl⟩ := St.mk.inj hst; clear hst
  have hTl := hT.1
  refine .seq ?_
  refine c30z ?_
  refine .ca rfl rfl (IC hge) ?_
  refine .n ?_
  refine u2z ?_ ?_
  ·intro e1 qe1
   refine c2z ?_
   refine c17z ?_
   refine .aB (fun m st => ∃ (j : Nat) (U : List (List Nat)), (m = c.insts.length - j ∧ (Tb (kM u mx) c.insts.length U ∧ j ≤ c.insts.length)) ∧ st = ⟨mkS 121 [(1, AV.int .i64 ((mx : Nat) : Int)), (3, AV.int .i64 grow), (10, AV.ptr 1 0 0), (11, AV.ptr 2 0 0), (12, AV.own 5 c.insts.length 0 c.insts.length), (13, AV.int .i64 ((k : Nat) : Int)), (14, AV.int .i64 ((j : Nat) : Int))], [⟨0, false, 27, 3, [.vec p.globals.length (o3 p.globals), .vec p.c4.length (g5 p.c4), .vec p.funcs.length (m6 p.funcs)], 0⟩, ⟨0, false, 30, 4, [.vec u.globals.length (g7 u.globals), .vec u.c4.length (g5 u.c4), .vec u.procs.length (j8 u.procs), .int .i64 u.main], 0⟩, ⟨0, false, 34, 3, [.vec c.insts.length (l6 c.insts), .vec c.calls.length (m7 c.calls), .vec c.roots.length (g7 c.roots)], 0⟩, ⟨0, false, 30, 4, [.vec u.globals.length (g7 u.globals), .vec u.c4.length (g5 u.c4), .vec u.procs.length (j8 u.procs), .int .i64 u.main], 0⟩, ⟨0, false, 34, 3, [.vec c.insts.length (l6 c.insts), .vec c.calls.length (m7 c.calls), .vec c.roots.length (g7 c.roots)], 0⟩, ⟨c.insts.length, false, 22, 1, u6 U, 0⟩]⟩) (.v ⟨0, T, ⟨rfl, ⟨hT, by omega⟩⟩, rfl⟩) ?_
   rintro m sl h' ⟨j, U, ⟨hm, ⟨hU, hj⟩⟩, hst⟩
   obtain ⟨rfl, rfl⟩ := St.mk.inj hst; clear hst
   have hUl := hU.1
   refine c0z ?_
   refine u2z ?_ ?_
   ·intro e2 qe2
    refine c2z ?_
    have hj2 : j < c.insts.length := by omega
    have hUj := hU.get (i := j) (by omega)
    have hAj := D3 (u := u) (c := c) (m := mx) U j
    refine .so s3 (mkP 15 [0, 0, 0, 0, 12, 28, 0, 0, 0, 0, 0, 1984, 4092, 8191, 16383] [14]) ?_
    refine .k 8 [] ?_
    refine .k 3 [] ?_
    refine .ca rfl rfl (HY hu wc hmx hU hj2 rfl) ?_
    refine .ca rfl rfl (rR _ _ (hAj.lt hk8) (hUj.lt hk8) (by have := hUj.1; omega) (by have := hUj.1; have := hAj.1; omega)) ?_
    refine c221z ?_
    refine .c7 [1, 3, 10, 11, 12, 13, 14] ?_
    refine .rz ?_
    exact ⟨_, by omega, .v ⟨(j + 1), (U.set j (bY (U.getD j []) (exT u c mx U j))), ⟨rfl, ⟨hU.set (lW hUj hAj), by omega⟩⟩, rfl⟩ (he := by exact (List.append_nil _).symm) (hk := t148)⟩
   intro e2 qe2
   refine c8z ?_
   refine .rz ?_
   exact ⟨_, by omega, .v ⟨(k + 1), U, ⟨rfl, ⟨hU, by omega⟩⟩, rfl⟩ (he := by exact (List.append_nil _).symm) (hk := t148)⟩
  intro e1 qe1
  refine c8z ?_
  refine .seq ?_
  refine c9.seenT (t := 12) (γ := 5) (len := c.insts.length) (by rfl) hT.1 (by omega) (mQ (by decide) rfl) ?_
  rw [bK]; simp only [List.set_cons_succ, List.set_cons_zero]
  generalize (⟨c.insts.length, false, 22, 1, u6 T, c.insts.length⟩ : Blk) = VA
  refine c17z ?_
  refine .cJ (fun m st => ∃ (i : Nat), (m = c.insts.length - i ∧ (i ≤ c.insts.length ∧ ∀ d, d < i → Sub (exT u c mx T d) (T.getD d []))) ∧ st = ⟨mkS 121 [(1, AV.int .i64 ((mx : Nat) : Int)), (10, AV.ptr 1 0 0), (11, AV.ptr 2 0 0), (12, AV.vec c.insts.length (u6 T)), (15, AV.int .i64 ((i : Nat) : Int))], [⟨0, false, 27, 3, [.vec p.globals.length (o3 p.globals), .vec p.c4.length (g5 p.c4), .vec p.funcs.length (m6 p.funcs)], 0⟩, ⟨0, false, 30, 4, [.vec u.globals.length (g7 u.globals), .vec u.c4.length (g5 u.c4), .vec u.procs.length (j8 u.procs), .int .i64 u.main], 0⟩, ⟨0, false, 34, 3, [.vec c.insts.length (l6 c.insts), .vec c.calls.length (m7 c.calls), .vec c.roots.length (g7 c.roots)], 0⟩, ⟨0, false, 30, 4, [.vec u.globals.length (g7 u.globals), .vec u.c4.length (g5 u.c4), .vec u.procs.length (j8 u.procs), .int .i64 u.main], 0⟩, ⟨0, false, 34, 3, [.vec c.insts.length (l6 c.insts), .vec c.calls.length (m7 c.calls), .vec c.roots.length (g7 c.roots)], 0⟩, VA]⟩) _ (.v ⟨0, ⟨rfl, ⟨by omega, fun d hd => by omega⟩⟩, rfl⟩) ?_
  rintro m sl h' ⟨i, ⟨hm, ⟨hi, hS⟩⟩, hst⟩
  obtain ⟨rfl, rfl⟩ := St.mk.inj hst
  refine c0z ?_
  refine u2z ?_ ?_
  ·intro e3 qe3
   refine c2z ?_
   have hi2 : i < c.insts.length := by omega
   have hTi := hT.get (i := i) (by omega)
   have hEi := mU (u := u) (c := c) (m := mx) i (S6 u c mx T i) (fW u c i)
   have hTil := hTi.1
   refine .ss s3 (mkP 17 [0, 0, 0, 0, 0, 0, 0, 0, 0, 496, 1023, 0, 0, 6144, 14336, 32767, 65535] []) ?_
   refine .k 8 [] ?_
   refine .k 1 [] ?_
   refine .ca rfl rfl (HJ hu wc hmx hT hi2 (fun l0 => Z8 hu wc hmx hT hi2 _)) ?_
   refine .ca rfl rfl (c_lexit hu wc hmx hi2 (yN T i)) ?_
   refine .k 4 [] ?_
   refine .ca rfl rfl (ID hk8 hEi hTi) ?_
   refine .n [] ?_
   refine u2z ?_ ?_
   ·intro e4 qe4
    refine .c7 [] ?_
    refine .s ?_
    refine .ca rfl rfl (HX _) ?_
    refine .n ?_
    exact .ret (.ex (hq := by rfl))
   intro e4 qe4
   refine c3z ?_
   refine .c7 [1, 10, 11, 12, 15] ?_
   refine .rz ?_
   exact ⟨_, by omega, .v ⟨(i + 1), ⟨rfl, ⟨by omega, fun d hd => by rcases Nat.lt_succ_iff_lt_or_eq.1 hd with h | rfl; exact hS d h; exact (yI hk8 hEi hTi).1 (by first | assumption | (simp only [Bool.not_eq_false', decide_eq_true_eq] at *; assumption))⟩⟩, rfl⟩⟩
  intro e3 qe3
  refine .exit ?_
  obtain rfl : i = c.insts.length := by omega
  have hfin := D4 hu wc hT hS
  change c9 ..
  have hsl := (fE (u := u) (c := c) (m := mx)).1
  refine c20z ?_
  refine .ca rfl rfl (c_of hu wc hmx) ?_
  refine c31z ?_
  refine .c7 [12, 16] ?_
  refine c9z ?_
  refine .sk ?_
  refine c5z ?_
  refine .cJ (fun m st => ∃ (i : Nat), (m = c.insts.length - i ∧ (i ≤ c.insts.length)) ∧ st = ⟨mkS 121 [(12, AV.vec c.insts.length (u6 T)), (16, AV.vec c.insts.length (u6 (uO u c mx))), (17, AV.int .i64 ((i : Nat) : Int))], [⟨0, false, 27, 3, [.vec p.globals.length (o3 p.globals), .vec p.c4.length (g5 p.c4), .vec p.funcs.length (m6 p.funcs)], 0⟩, ⟨0, false, 30, 4, [.vec u.globals.length (g7 u.globals), .vec u.c4.length (g5 u.c4), .vec u.procs.length (j8 u.procs), .int .i64 u.main], 0⟩, ⟨0, false, 34, 3, [.vec c.insts.length (l6 c.insts), .vec c.calls.length (m7 c.calls), .vec c.roots.length (g7 c.roots)], 0⟩, ⟨0, false, 30, 4, [.vec u.globals.length (g7 u.globals), .vec u.c4.length (g5 u.c4), .vec u.procs.length (j8 u.procs), .int .i64 u.main], 0⟩, ⟨0, false, 34, 3, [.vec c.insts.length (l6 c.insts), .vec c.calls.length (m7 c.calls), .vec c.roots.length (g7 c.roots)], 0⟩, VA]⟩) _ (.v ⟨0, ⟨rfl, by omega⟩, rfl⟩) ?_
  rintro m sl h' ⟨i, ⟨hm, hi⟩, hst⟩
  obtain ⟨rfl, rfl⟩ := St.mk.inj hst
  refine c0z ?_
  refine u2z ?_ ?_
  ·intro e5 qe5
   refine c2z ?_
   have hTi := hT.get (i := i) (by omega)
   have hEi := (fE (u := u) (c := c) (m := mx)).get (i := i) (by omega)
   have hTil := hTi.1
   have hEil := hEi.1
   refine .ss s3 (mkP 23 [0, 0, 3, 7, 15, 0, 0, 96, 224, 480, 1023, 2047, 4095, 4095, 16383, 32767, 4095, 4095, 200703, 462847, 1048575, 2097151, 4194303] []) ?_
   refine .k 8 [] ?_
   refine .k 4 [] ?_
   refine .spl 108 rfl rfl (fun e6 => by exfalso; have q := fact e6; omega) (fun e6 => ?_)
   try simp only [e6]
   have qe6 := fact e6
   refine .k 8 [(11, 108)] ?_
   refine .ca rfl rfl (IB hk8 hk8 (hfin i) hEi hTi) ?_
   refine .n [(11, 108)] ?_
   refine c40z ?_
   refine .c7 [12, 16, 17] ?_
   refine .rz ?_
   exact ⟨_, by omega, .v ⟨(i + 1), ⟨rfl, by omega⟩, rfl⟩⟩
  intro e5 qe5
  refine c8z ?_
  refine .s ?_
  refine .ca rfl rfl (HX _) ?_
  refine .n ?_
  exact .ret (.ex (hq := by rfl))
end Go.Proofs.YtfbjlfhjkojmkaaGreat
end
