/- My own texts, put together by a program of mine. -/
import Derived.Test.YtapdldekgbbomaaGreatMQ6
set_option linter.unusedSimpArgs false
set_option linter.unusedVariables false
set_option maxRecDepth 100000
set_option maxHeartbeats 4000000
section
namespace Go.Proofs.YtapdldekgbbomaaGreat
open Go.Ab Go.Un
theorem sz_v1 : (⟨#[118]⟩ : BA).size = 1 := rfl
theorem sz_v2 {a b : UInt8} : (⟨#[a, b]⟩ : BA).size = 2 := rfl
theorem n26 : ((26 : Int) = 0) = False := by simp
attribute [local go_sem] rd n5 z7 r9 aD aN n6 aY Int.natCast_nonneg Int.natCast_inj List.length_map bQ hB_1 hB_2 hB_5 QJ QK QL QM eB wJ eK C5 wrap64 wrap8 dF I6 KO app_vs KP KQ M7 KR KS pK rW J6 yT B6 J7 pU max2 kK gZ vnm_eq sz_v1 sz_v2 n26 List.flatten_nil List.flatten_cons
theorem M8 {c : Core} (hc : OkC c) (hL : c.L.length < 4611686018427387904) (f : Fu) (hp : f.params.length ≤ 2) (fu : Nat) (hfu : fu ≤ 23) {left : Int} (hl0 : 0 ≤ left) (hlf : left ≤ fu + 1) (ih : zQ c f fu left) {e : Frame} (I : Int) (hI : OkI c.L I) (vars all : List BA) (deep most : Int) (hd : 0 ≤ deep ∧ deep ≤ 100) (hm : 0 ≤ most ∧ most ≤ 100) (hv : ∀ x ∈ vars, x ∈ all) (hfr : Fr left.toNat all) (hN : vars.length + left.toNat ≤ 500) : CH 34 [.ptr 5 0 0, .agg (dF f), .vec vars.length (z5 vars), .int .i64 deep, .int .i64 most] (hB c e I left) (.vec (g7 c f.params (fu + 1) vars deep most I left).1.len (o3 (g7 c f.params (fu + 1) vars deep most I left).1)) (hB c e (g7 c f.params (fu + 1) vars deep most I left).2.1 (g7 c f.params (fu + 1) vars deep most I left).2.2) := by
  have hmx := l6 hI (n := most + 1) (by omega)
  generalize hR : g7 c f.params (fu + 1) vars deep most I left = R
  rw [g7] at hR
  refine .wz Tryz.f34 249 ?_
  refine .z ?_
  refine c125z ?_
  refine raise (β := e.n + 1) (k := vars.length) t61 (Nat.zero_le _) ?_
  simp only [eK, List.set_cons_succ, List.set_cons_zero]
  refine c123z ?_
  refine .ch rfl rfl (eU _ _ _ hI hL (by omega) (by omega)) ?_
  refine c141z ?_
  refine g6.tF 11 rfl ?_
  refine .bX (fun m st => ∃ (mm : Nat) (J : Int) (l : Int) (vs : List BA) (out : Sl) (go : Nat) (gv : Nat), (m = mm ∧ (OkB (R0 c f.params) c.L all left (deep.toNat + 1) (out, J, l) ∧ (∀ x ∈ vs, x ∈ v8 out all) ∧ vs.length + l.toNat ≤ 500 ∧ mm ≤ 200 ∧ fV c f.params (g7 c f.params fu) mm vs deep out J l = R)) ∧ st = ⟨mkS 249 [(0, AV.ptr 5 0 0), (2, AV.own (e.n + 1) gv 0 vs.length), (3, AV.int .i64 deep), (6, AV.ptr e.n 0 0), (11, AV.own (e.n + 2) go 0 out.len), (12, AV.int .i64 ((mm : Nat) : Int))], hB c e J l ++ [⟨0, false, 106, 3, [.str f.name, .vec f.params.length (u3 f.params), .vec f.body.len (o3 f.body)], 0⟩, ⟨gv, false, 9, 1, z5 vs, vs.length⟩, p6 149 11 go (o3 out)]⟩) (.v ⟨(c5 c.L I (most + 1)).1.toNat, (c5 c.L I (most + 1)).2, left, vars, Sl.nil, 0, (gO 0 vars.length), ⟨rfl, ⟨⟨hmx.2.2, ⟨hl0, Int.le_refl _⟩, trivial, hfr, by simp [Sl.wt], t161⟩, hv, hN, by omega, hR⟩⟩, rfl⟩ (hs := t7) (hr := t1)) ?_
  rintro m sl h' ⟨mm, J, l, vs, out, go, gv, ⟨hm, ⟨hO, hV, hvl, hmm, hF⟩⟩, hst⟩
  obtain ⟨rfl, rfl⟩ := St.mk.inj hst; clear hst
  have hz : (o3 out).length = out.len * 11 := by rw [aU]; omega
  have hlw := cL out
  have hw := hO.wt
  have hol := hO.ol
  have hJ := hO.oi
  simp only at hw hol hJ
  have hlen : out.len < 100 := by omega
  have h14 := l6 hJ (n := 14) (by omega)
  have hfl := hc.fl
  refine .seq ?_
  refine c20z ?_
  refine .spl 29 rfl rfl (fun e1 => ?_) (fun e1 => ?_)
  ·try simp only [e1]
   have qe1 := fact e1
   refine .m [(2, 29)] ?_
   refine u2z ?_ ?_
   ·intro e2 qe2
    refine c5z ?_
    refine .c8 [0, 2, 3, 6, 11, 12] ?_
    refine c125z ?_
    refine .c8 [0, 2, 3, 6, 11, 12, 13] ?_
    refine c24z ?_
    refine .ch rfl rfl (eU _ _ 14 hJ hL (by omega) (by omega)) ?_
    refine .n ?_
    refine c94z ?_
    refine u2z ?_ ?_
    ·intro e3 qe3
     refine .c8 [0, 2, 3, 6, 11, 12, 13] ?_
     refine .r ?_
     refine .e 3 ?_
     refine c79z ?_
     change g6 ..
     refine g6.iS (β := e.n + 3) (o3 (row 5 ByteArray.empty l4 (s5 c f.params vs (c5 c.L J 14).2).1 [] .nil .nil)) t61 ?_ ?_; exact aJ t6 t6 t6 t6 t6
     refine c14z ?_
     refine .c8 [0, 2, 3, 6, 11, 12] ?_
     refine .rz ?_
     have hround : p5 c f.params (g7 c f.params fu) vs deep J (l - 1) = ((row 5 ByteArray.empty l4 (s5 c f.params vs (c5 c.L J 14).2).1 [] .nil .nil), vs, (s5 c f.params vs (c5 c.L J 14).2).2, (l - 1)) := r_lock (by omega)
     obtain ⟨hO2, hl2, hV2⟩ := aW hc hfu hlf hd.1 hO hV (by omega) hround
     have hF1 : fV c f.params (g7 c f.params fu) (mm - 1 + 1) vs deep out J l = R := by rw [Nat.sub_add_cancel (by omega)]; exact hF
     have hF2 := cD hF1 (by omega) hround
     have hlq := hO2.ol; simp only at hlq
     have hlo : (out.app (row 5 ByteArray.empty l4 (s5 c f.params vs (c5 c.L J 14).2).1 [] .nil .nil)).len = out.len + 1 := by simp only [Go.Un.Sl.bJ, row, Go.Un.Sl.len]
     exact ⟨_, by omega, .v ⟨(mm - 1), (s5 c f.params vs (c5 c.L J 14).2).2, (l - 1), vs, (out.app (row 5 ByteArray.empty l4 (s5 c f.params vs (c5 c.L J 14).2).1 [] .nil .nil)), (go + 1), gv, ⟨rfl, ⟨hO2, hV2, by omega, by omega, hF2⟩⟩, rfl⟩ (he := t41) (hl := t24) (hk := t20) (hs := t7) (hr := t1)⟩
    intro e3 qe3
    refine c247z ?_
    refine u2z ?_ ?_
    ·intro e4 qe4
     refine .r ?_
     refine .e 3 ?_
     refine c79z ?_
     refine c129z ?_
     refine g6.iS (β := e.n + 3) (o3 (row 6 ByteArray.empty l4 (s5 c f.params vs (c5 c.L J 14).2).1 [] .nil .nil)) t61 ?_ ?_; exact aJ t6 t6 t6 t6 t6
     refine c136z ?_
     have hround : p5 c f.params (g7 c f.params fu) vs deep J (l - 1) = ((row 6 ByteArray.empty l4 (s5 c f.params vs (c5 c.L J 14).2).1 [] .nil .nil), vs, (s5 c f.params vs (c5 c.L J 14).2).2, (l - 1)) := II (by omega) (by omega)
     obtain ⟨hO2, hl2, hV2⟩ := aW hc hfu hlf hd.1 hO hV (by omega) hround
     have hF1 : fV c f.params (g7 c f.params fu) (mm - 1 + 1) vs deep out J l = R := by rw [Nat.sub_add_cancel (by omega)]; exact hF
     have hF2 := cD hF1 (by omega) hround
     have hlq := hO2.ol; simp only at hlq
     have hlo : (out.app (row 6 ByteArray.empty l4 (s5 c f.params vs (c5 c.L J 14).2).1 [] .nil .nil)).len = out.len + 1 := by simp only [Go.Un.Sl.bJ, row, Go.Un.Sl.len]
     exact ⟨_, by omega, .v ⟨(mm - 1), (s5 c f.params vs (c5 c.L J 14).2).2, (l - 1), vs, (out.app (row 6 ByteArray.empty l4 (s5 c f.params vs (c5 c.L J 14).2).1 [] .nil .nil)), (go + 1), gv, ⟨rfl, ⟨hO2, hV2, by omega, by omega, hF2⟩⟩, rfl⟩ (he := t41) (hl := t24) (hk := t20) (hs := t7) (hr := t1)⟩
    intro e4 qe4
    refine .z ?_
    refine u2z ?_ ?_
    ·intro e5 qe5
     have ht := tm26 (l := l - 1) (by omega)
     have htd := td26 (l := l - 1) (by omega) (by omega)
     have ht2 := tm26 (l := (l - 1).tdiv 26) (by omega)
     refine .sg u0 (mkH 27 [0, 0, 3, 0, 8, 24, 56, 120, 248, 504, 0, 1024, 3072, 7168, 15360, 31744, 64512, 130048, 262136, 524280, 1048568, 0, 2097159, 6291463, 14680071, 33554431, 67108863] [2, 18, 22, 24, 26] [(18, 0)] [0, 4, 262144, 262148, 4194308, 4456452, 20971524, 21233668, 88342532] [0, 1, 2, 3, 4, 5, 6, 7, 8, 9, 10, 11, 12, 13, 14, 15, 16, 17, 18, 19, 20]) 1 ?_
     refine u4.w8 t22 ?_
     refine .p 2 ?_
     refine .cm [true] [4, 0] [_] rfl rfl (by simp only [iR, and_true, List.cons_append, List.nil_append]; exact lU (vs := vs) hc h14.2.2 hL (by omega)) ?_
     refine .p 3 ?_
     refine .rm [true, true] ?_
     refine .p 6 ?_
     refine .rm [true, true] ?_
     refine .p 4 ?_
     refine .em [true, true] [262148, 262144, 4, 0] [_, _] ?_
     refine .rm [true, true, false, false] ?_
     refine .p 2 ?_
     refine .en [true, false, true, false] [4456452, 4194308, 262148, 262144, 4, 0] [_, _] ?_
     refine .p 1 ?_
     refine .en [true, true, false, false, false, false] [21233668, 20971524, 4456452, 4194308, 262148, 262144, 4, 0] [_, _] ?_
     refine .p 1 ?_
     refine .en [true, false, false, false, false, false, false, false] [88342532, 21233668, 20971524, 4456452, 4194308, 262148, 262144, 4, 0] [_] ?_
     refine .po [false, true, false, true, false, true, true, false, false] ?_
     refine .po [false, false, true, false, true, false, false, true, true] ?_
     refine .po [false, false, true, false, true, false, false, true, true] ?_
     refine .po [false, false, true, false, true, false, false, true, true] ?_
     refine u4.pop [false, false, false, false, false, false, true, false, true] (by kernel_rfl) (by simp only [oN, and_true, List.cons_append, List.nil_append]; exact ⟨bW.p7 rfl rfl rfl rfl VO (lU (vs := vs) hc h14.2.2 hL (by omega)) rfl, bW.p7 rfl rfl rfl rfl VO (lU (vs := vs) hc h14.2.2 hL (by omega)) rfl⟩) ?_
     refine u4.nil rfl ?_
     refine .c8 [0, 2, 3, 6, 11, 12, 13] ?_
     refine c2z ?_
     refine raise (β := e.n + 1) (k := (vs ++ [vnm (l - 1).toNat]).length) t61 (by simp) ?_
     simp only [eK, List.set_cons_succ, List.set_cons_zero]
     refine g6.iS (β := e.n + 3) (o3 (row 1 (vnm (l - 1).toNat) (j0 c vs (c5 c.L J 14).2).1 l8 [] .nil .nil)) t61 ?_ ?_; exact aJ t6 t6 t6 t6 t6
     refine c14z ?_
     refine .c8 [0, 2, 3, 6, 11, 12] ?_
     refine .rz ?_
     have hround : p5 c f.params (g7 c f.params fu) vs deep J (l - 1) = ((row 1 (vnm (l - 1).toNat) (j0 c vs (c5 c.L J 14).2).1 l8 [] .nil .nil), (vs ++ [vnm (l - 1).toNat]), (j0 c vs (c5 c.L J 14).2).2, (l - 1)) := r_var (by omega)
     obtain ⟨hO2, hl2, hV2⟩ := aW hc hfu hlf hd.1 hO hV (by omega) hround
     have hF1 : fV c f.params (g7 c f.params fu) (mm - 1 + 1) vs deep out J l = R := by rw [Nat.sub_add_cancel (by omega)]; exact hF
     have hF2 := cD hF1 (by omega) hround
     have hlq := hO2.ol; simp only at hlq
     have hlo : (out.app (row 1 (vnm (l - 1).toNat) (j0 c vs (c5 c.L J 14).2).1 l8 [] .nil .nil)).len = out.len + 1 := by simp only [Go.Un.Sl.bJ, row, Go.Un.Sl.len]
     have hvl2 : (vs ++ [vnm (l - 1).toNat]).length = vs.length + 1 := by simp
     exact ⟨_, by omega, .v ⟨(mm - 1), (j0 c vs (c5 c.L J 14).2).2, (l - 1), (vs ++ [vnm (l - 1).toNat]), (out.app (row 1 (vnm (l - 1).toNat) (j0 c vs (c5 c.L J 14).2).1 l8 [] .nil .nil)), (go + 1), (gv + 1), ⟨rfl, ⟨hO2, hV2, by omega, by omega, hF2⟩⟩, rfl⟩ (he := by (rw [jF, iY, hvl2]; simp only [List.append_assoc, List.cons_append, List.nil_append]; rfl)) (hl := t24) (hk := t20) (hs := t7) (hr := t1)⟩
    intro e5 qe5
    refine c20z ?_
    refine .spl 122 rfl rfl (fun e6 => ?_) (fun e6 => ?_)
    ·try simp only [e6]
     have qe6 := fact e6
     refine .m [(2, 122)] ?_
     refine u2z ?_ ?_
     ·intro e7 qe7
      refine .c8 [0, 2, 3, 6, 11, 12, 13] ?_
      have hnv := l6 h14.2.2 (n := (vs.length : Int)) (by omega)
      refine g6.jE u0 (mkP 19 [0, 0, 2, 6, 14, 0, 32, 126, 255, 511, 0, 0, 3326, 0, 15614, 32767, 65535, 131071, 262143] [7, 12, 14, 16, 18]) [0, 8, 9, 10, 11, 13] (by kernel_rfl) (by kernel_rfl) ?_
      refine cA.p (pd := []) 7 ?_
      refine cA.p7 rfl rfl rfl rfl rfl qI (eU _ _ (vs.length : Int) h14.2.2 hL (by omega) (by omega)) ?_
      refine cA.p 4 ?_
      refine cA.p7 rfl rfl rfl rfl rfl VO (lU (vs := vs) hc hnv.2.2 hL (by omega)) ?_
      refine cA.p 6 ?_
      refine cA.nil t5 ?_
      refine c129z ?_
      refine g6.iS (β := e.n + 3) (o3 (row 2 (vs.getD (c5 c.L (c5 c.L J 14).2 vs.length).1.toNat ByteArray.empty) (j0 c vs (c5 c.L (c5 c.L J 14).2 vs.length).2).1 l8 [] .nil .nil)) t61 ?_ ?_; exact aJ t6 t6 t6 t6 t6
      refine c136z ?_
      have hround : p5 c f.params (g7 c f.params fu) vs deep J (l - 1) = ((row 2 (vs.getD (c5 c.L (c5 c.L J 14).2 vs.length).1.toNat ByteArray.empty) (j0 c vs (c5 c.L (c5 c.L J 14).2 vs.length).2).1 l8 [] .nil .nil), vs, (j0 c vs (c5 c.L (c5 c.L J 14).2 vs.length).2).2, (l - 1)) := IJ (by omega) (by omega)
      obtain ⟨hO2, hl2, hV2⟩ := aW hc hfu hlf hd.1 hO hV (by omega) hround
      have hF1 : fV c f.params (g7 c f.params fu) (mm - 1 + 1) vs deep out J l = R := by rw [Nat.sub_add_cancel (by omega)]; exact hF
      have hF2 := cD hF1 (by omega) hround
      have hlq := hO2.ol; simp only at hlq
      have hlo : (out.app (row 2 (vs.getD (c5 c.L (c5 c.L J 14).2 vs.length).1.toNat ByteArray.empty) (j0 c vs (c5 c.L (c5 c.L J 14).2 vs.length).2).1 l8 [] .nil .nil)).len = out.len + 1 := by simp only [Go.Un.Sl.bJ, row, Go.Un.Sl.len]
      exact ⟨_, by omega, .v ⟨(mm - 1), (j0 c vs (c5 c.L (c5 c.L J 14).2 vs.length).2).2, (l - 1), vs, (out.app (row 2 (vs.getD (c5 c.L (c5 c.L J 14).2 vs.length).1.toNat ByteArray.empty) (j0 c vs (c5 c.L (c5 c.L J 14).2 vs.length).2).1 l8 [] .nil .nil)), (go + 1), gv, ⟨rfl, ⟨hO2, hV2, by omega, by omega, hF2⟩⟩, rfl⟩ (he := t41) (hl := t24) (hk := t20) (hs := t7) (hr := t1)⟩
     intro e7 qe7
     refine c122z ?_
     refine .spl 146 rfl rfl (fun e8 => by exfalso; (simp at e8; omega)) (fun e8 => ?_)
     try simp only [e8]
     have qe8 := fact e8
     refine .m [(2, 146)] ?_
     refine uFcz ?_
     intro e9 qe9
     refine c20z ?_
     refine .spl 184 rfl rfl (fun e10 => by exfalso; (simp at e10; omega)) (fun e10 => ?_)
     try simp only [e10]
     have qe10 := fact e10
     refine .m [(2, 184)] ?_
     refine .F ?_
     refine c122z ?_
     refine .spl 216 rfl rfl (fun e11 => by exfalso; (simp at e11; omega)) (fun e11 => ?_)
     try simp only [e11]
     have qe11 := fact e11
     refine .m [(2, 216)] ?_
     refine .F ?_
     have h3 := l6 h14.2.2 (n := 3) (by omega)
     refine c20z ?_
     refine .spl 235 rfl rfl (fun e12 => by exfalso; (simp at e12; omega)) (fun e12 => ?_)
     try simp only [e12]
     have qe12 := fact e12
     refine .m [(2, 235)] ?_
     refine c256z ?_
     have hr9 := nR hc (ps := f.params) (vars := vs) (I := (c5 c.L J 14).2) (h14.2.2)
     refine c20z ?_
     refine c79z ?_
     refine c171z ?_
     refine g6.iS (β := e.n + 3) (o3 (row 5 ByteArray.empty l4 (s5 c f.params vs (c5 c.L J 14).2).1 [] .nil .nil)) t61 ?_ ?_; exact aJ t6 t6 t6 t6 t6
     refine c113z ?_
     have hb1 := gI hc (ps := f.params) fu vs 0 2 (s5 c f.params vs (c5 c.L J 14).2).2 (v8 out all) (l - 1) (by omega) (by omega) hr9.2 (by omega) (by omega) (by omega) hV (hO.fr.mono t79); have hb1l := hb1.ol; have hb1w := hb1.wt; have hb1n := cL (g7 c f.params fu vs 0 2 (s5 c f.params vs (c5 c.L J 14).2).2 (l - 1)).1; have hb1z : (o3 (g7 c f.params fu vs 0 2 (s5 c f.params vs (c5 c.L J 14).2).2 (l - 1)).1).length = (g7 c f.params fu vs 0 2 (s5 c f.params vs (c5 c.L J 14).2).2 (l - 1)).1.len * 11 := by rw [aU]; omega
     refine c28z ?_
     refine .n ?_
     refine c169z ?_
     refine g6.iS (β := e.n + 3) (o3 (row 6 ByteArray.empty l4 (s5 c f.params vs (c5 c.L J 14).2).1 [] .nil .nil)) t61 ?_ ?_; exact aJ t6 t6 t6 t6 t6
     refine c136z ?_
     have hround : p5 c f.params (g7 c f.params fu) vs deep J (l - 1) = (((row 5 ByteArray.empty l4 (s5 c f.params vs (c5 c.L J 14).2).1 [] .nil .nil).app ((g7 c f.params fu vs 0 2 (s5 c f.params vs (c5 c.L J 14).2).2 (l - 1)).1.app (row 6 ByteArray.empty l4 (s5 c f.params vs (c5 c.L J 14).2).1 [] .nil .nil))), vs, (g7 c f.params fu vs 0 2 (s5 c f.params vs (c5 c.L J 14).2).2 (l - 1)).2.1, (g7 c f.params fu vs 0 2 (s5 c f.params vs (c5 c.L J 14).2).2 (l - 1)).2.2) := BF (by omega) (by omega) (fun _ => by first | omega | (rw [‹vs = []›]; rfl)) (by omega) (by omega) (by omega) (by omega) rfl
     obtain ⟨hO2, hl2, hV2⟩ := aW hc hfu hlf hd.1 hO hV (by omega) hround
     have hF1 : fV c f.params (g7 c f.params fu) (mm - 1 + 1) vs deep out J l = R := by rw [Nat.sub_add_cancel (by omega)]; exact hF
     have hF2 := cD hF1 (by omega) hround
     have hlq := hO2.ol; simp only at hlq
     have hlo : (out.app ((row 5 ByteArray.empty l4 (s5 c f.params vs (c5 c.L J 14).2).1 [] .nil .nil).app ((g7 c f.params fu vs 0 2 (s5 c f.params vs (c5 c.L J 14).2).2 (l - 1)).1.app (row 6 ByteArray.empty l4 (s5 c f.params vs (c5 c.L J 14).2).1 [] .nil .nil)))).len = out.len + 1 + (g7 c f.params fu vs 0 2 (s5 c f.params vs (c5 c.L J 14).2).2 (l - 1)).1.len + 1 := by simp only [Go.Un.Sl.bJ, row, Go.Un.Sl.len]; omega
     exact ⟨_, by omega, .v ⟨(mm - 1), (g7 c f.params fu vs 0 2 (s5 c f.params vs (c5 c.L J 14).2).2 (l - 1)).2.1, (g7 c f.params fu vs 0 2 (s5 c f.params vs (c5 c.L J 14).2).2 (l - 1)).2.2, vs, (out.app ((row 5 ByteArray.empty l4 (s5 c f.params vs (c5 c.L J 14).2).1 [] .nil .nil).app ((g7 c f.params fu vs 0 2 (s5 c f.params vs (c5 c.L J 14).2).2 (l - 1)).1.app (row 6 ByteArray.empty l4 (s5 c f.params vs (c5 c.L J 14).2).1 [] .nil .nil)))), (gO (go + 1) (g7 c f.params fu vs 0 2 (s5 c f.params vs (c5 c.L J 14).2).2 (l - 1)).1.len + 1), gv, ⟨rfl, ⟨hO2, hV2, by omega, by omega, hF2⟩⟩, rfl⟩ (he := t67) (hl := t24) (hk := t20) (hs := t7) (hr := t1)⟩
    try simp only [e6]
    have qe6 := fact e6
    refine .m [(2, 122)] ?_
    refine .F ?_
    refine c122z ?_
    refine .spl 146 rfl rfl (fun e13 => ?_) (fun e13 => ?_)
    ·try simp only [e13]
     have qe13 := fact e13
     refine .m [(2, 146)] ?_
     refine .T ?_
     refine c13z ?_
     refine c247z ?_
     refine uFcz ?_
     intro e14 qe14
     refine .sk ?_
     have hnf := l6 h14.2.2 (n := (c.fs.length : Int)) (by omega)
     refine .sg u0 (mkH 20 [0, 1, 3, 7, 15, 0, 32, 96, 224, 0, 512, 1536, 3584, 7680, 15872, 32736, 65535, 131071, 0, 524287] [15, 18, 19] [(18, 0)] [0, 32768, 262144, 294912, 819200] [0, 1, 2, 3, 4, 5, 6, 7, 8, 9, 10, 11, 12, 13, 14, 15, 16, 17]) 1 ?_
     refine u4.w8 t22 ?_
     refine .p 4 ?_
     refine .rm [true] ?_
     refine c200z ?_
     refine .p 4 ?_
     refine c140z ?_
     refine .cm [true] [32768, 0] [_] rfl rfl t117 ?_
     refine .p 1 ?_
     refine .rm [true, false] ?_
     refine .en [true, true] [294912, 262144, 32768, 0] [_, _] ?_
     refine .en [true, false, false, false] [819200, 294912, 262144, 32768, 0] [_] ?_
     refine .po [false, true, false, true, false] ?_
     refine u4.pop [false, false, true, false, true] (by kernel_rfl) t82 ?_
     refine c139z ?_
     refine c212z ?_
     refine .c8 [0, 2, 3, 6, 11, 12, 13, 15] ?_
     refine g6.jE u0 (mkP 11 [0, 1, 0, 0, 0, 0, 60, 3, 255, 511, 1023] [6, 8, 10]) [0, 1, 7] (by kernel_rfl) (by kernel_rfl) ?_
     refine cA.p (pd := []) 6 ?_
     refine cA.p7 rfl rfl rfl rfl rfl hb62 (DO (vs := vs) hc hnf.2.2 hL (by omega) f (c.fs.getD (c5 c.L (c5 c.L J 14).2 c.fs.length).1.toNat j4) hp (hc.ps _ (j8 (by omega)))) ?_
     refine cA.p 4 ?_
     refine cA.nil t5 ?_
     refine c129z ?_
     refine g6.iS (β := e.n + 3) (o3 (row 3 (c.fs.getD (c5 c.L (c5 c.L J 14).2 c.fs.length).1.toNat j4).name l4 l8 (v9 c f.params vs (c.fs.getD (c5 c.L (c5 c.L J 14).2 c.fs.length).1.toNat j4).params (c5 c.L (c5 c.L J 14).2 c.fs.length).2).1 .nil .nil)) t61 ?_ ?_; exact aJ t6 t6 t6 t6 t6
     refine c136z ?_
     have hround : p5 c f.params (g7 c f.params fu) vs deep J (l - 1) = ((row 3 (c.fs.getD (c5 c.L (c5 c.L J 14).2 c.fs.length).1.toNat j4).name l4 l8 (v9 c f.params vs (c.fs.getD (c5 c.L (c5 c.L J 14).2 c.fs.length).1.toNat j4).params (c5 c.L (c5 c.L J 14).2 c.fs.length).2).1 .nil .nil), vs, (v9 c f.params vs (c.fs.getD (c5 c.L (c5 c.L J 14).2 c.fs.length).1.toNat j4).params (c5 c.L (c5 c.L J 14).2 c.fs.length).2).2, (l - 1)) := r_call (by omega)
     obtain ⟨hO2, hl2, hV2⟩ := aW hc hfu hlf hd.1 hO hV (by omega) hround
     have hF1 : fV c f.params (g7 c f.params fu) (mm - 1 + 1) vs deep out J l = R := by rw [Nat.sub_add_cancel (by omega)]; exact hF
     have hF2 := cD hF1 (by omega) hround
     have hlq := hO2.ol; simp only at hlq
     have hlo : (out.app (row 3 (c.fs.getD (c5 c.L (c5 c.L J 14).2 c.fs.length).1.toNat j4).name l4 l8 (v9 c f.params vs (c.fs.getD (c5 c.L (c5 c.L J 14).2 c.fs.length).1.toNat j4).params (c5 c.L (c5 c.L J 14).2 c.fs.length).2).1 .nil .nil)).len = out.len + 1 := by simp only [Go.Un.Sl.bJ, row, Go.Un.Sl.len]
     exact ⟨_, by omega, .v ⟨(mm - 1), (v9 c f.params vs (c.fs.getD (c5 c.L (c5 c.L J 14).2 c.fs.length).1.toNat j4).params (c5 c.L (c5 c.L J 14).2 c.fs.length).2).2, (l - 1), vs, (out.app (row 3 (c.fs.getD (c5 c.L (c5 c.L J 14).2 c.fs.length).1.toNat j4).name l4 l8 (v9 c f.params vs (c.fs.getD (c5 c.L (c5 c.L J 14).2 c.fs.length).1.toNat j4).params (c5 c.L (c5 c.L J 14).2 c.fs.length).2).1 .nil .nil)), (go + 1), gv, ⟨rfl, ⟨hO2, hV2, by omega, by omega, hF2⟩⟩, rfl⟩ (he := t41) (hl := t24) (hk := t20) (hs := t7) (hr := t1)⟩
    try simp only [e13]
    have qe13 := fact e13
    refine .m [(2, 146)] ?_
    refine u2z ?_ ?_
    ·intro e15 qe15
     refine c13z ?_
     refine c247z ?_
     refine uTcz ?_
     intro e16 qe16
     refine c2z ?_
     have hnf := l6 h14.2.2 (n := (c.fs.length : Int)) (by omega)
     refine .sg u0 (mkH 20 [0, 1, 3, 7, 15, 0, 32, 96, 224, 0, 512, 1536, 3584, 7680, 15872, 32736, 65535, 131071, 0, 524287] [15, 18, 19] [(18, 0)] [0, 32768, 262144, 294912, 819200] [0, 1, 2, 3, 4, 5, 6, 7, 8, 9, 10, 11, 12, 13, 14, 15, 16, 17]) 1 ?_
     refine u4.w8 t22 ?_
     refine .p 4 ?_
     refine .rm [true] ?_
     refine c200z ?_
     refine .p 4 ?_
     refine c140z ?_
     refine .cm [true] [32768, 0] [_] rfl rfl t117 ?_
     refine .p 1 ?_
     refine .rm [true, false] ?_
     refine .en [true, true] [294912, 262144, 32768, 0] [_, _] ?_
     refine .en [true, false, false, false] [819200, 294912, 262144, 32768, 0] [_] ?_
     refine .po [false, true, false, true, false] ?_
     refine u4.pop [false, false, true, false, true] (by kernel_rfl) t82 ?_
     refine c139z ?_
     refine c212z ?_
     refine .c8 [0, 2, 3, 6, 11, 12, 13, 15] ?_
     refine g6.jE u0 (mkP 11 [0, 1, 0, 0, 0, 0, 60, 3, 255, 511, 1023] [6, 8, 10]) [0, 1, 7] (by kernel_rfl) (by kernel_rfl) ?_
     refine cA.p (pd := []) 6 ?_
     refine cA.p7 rfl rfl rfl rfl rfl hb62 (DO (vs := vs) hc hnf.2.2 hL (by omega) f (c.fs.getD (c5 c.L (c5 c.L J 14).2 c.fs.length).1.toNat j4) hp (hc.ps _ (j8 (by omega)))) ?_
     refine cA.p 4 ?_
     refine cA.nil t5 ?_
     refine c129z ?_
     refine g6.iS (β := e.n + 3) (o3 (row 4 (c.fs.getD (c5 c.L (c5 c.L J 14).2 c.fs.length).1.toNat j4).name l4 l8 (v9 c f.params vs (c.fs.getD (c5 c.L (c5 c.L J 14).2 c.fs.length).1.toNat j4).params (c5 c.L (c5 c.L J 14).2 c.fs.length).2).1 .nil .nil)) t61 ?_ ?_; exact aJ t6 t6 t6 t6 t6
     refine c136z ?_
     have hround : p5 c f.params (g7 c f.params fu) vs deep J (l - 1) = ((row 4 (c.fs.getD (c5 c.L (c5 c.L J 14).2 c.fs.length).1.toNat j4).name l4 l8 (v9 c f.params vs (c.fs.getD (c5 c.L (c5 c.L J 14).2 c.fs.length).1.toNat j4).params (c5 c.L (c5 c.L J 14).2 c.fs.length).2).1 .nil .nil), vs, (v9 c f.params vs (c.fs.getD (c5 c.L (c5 c.L J 14).2 c.fs.length).1.toNat j4).params (c5 c.L (c5 c.L J 14).2 c.fs.length).2).2, (l - 1)) := r_go (by omega)
     obtain ⟨hO2, hl2, hV2⟩ := aW hc hfu hlf hd.1 hO hV (by omega) hround
     have hF1 : fV c f.params (g7 c f.params fu) (mm - 1 + 1) vs deep out J l = R := by rw [Nat.sub_add_cancel (by omega)]; exact hF
     have hF2 := cD hF1 (by omega) hround
     have hlq := hO2.ol; simp only at hlq
     have hlo : (out.app (row 4 (c.fs.getD (c5 c.L (c5 c.L J 14).2 c.fs.length).1.toNat j4).name l4 l8 (v9 c f.params vs (c.fs.getD (c5 c.L (c5 c.L J 14).2 c.fs.length).1.toNat j4).params (c5 c.L (c5 c.L J 14).2 c.fs.length).2).1 .nil .nil)).len = out.len + 1 := by simp only [Go.Un.Sl.bJ, row, Go.Un.Sl.len]
     exact ⟨_, by omega, .v ⟨(mm - 1), (v9 c f.params vs (c.fs.getD (c5 c.L (c5 c.L J 14).2 c.fs.length).1.toNat j4).params (c5 c.L (c5 c.L J 14).2 c.fs.length).2).2, (l - 1), vs, (out.app (row 4 (c.fs.getD (c5 c.L (c5 c.L J 14).2 c.fs.length).1.toNat j4).name l4 l8 (v9 c f.params vs (c.fs.getD (c5 c.L (c5 c.L J 14).2 c.fs.length).1.toNat j4).params (c5 c.L (c5 c.L J 14).2 c.fs.length).2).1 .nil .nil)), (go + 1), gv, ⟨rfl, ⟨hO2, hV2, by omega, by omega, hF2⟩⟩, rfl⟩ (he := t41) (hl := t24) (hk := t20) (hs := t7) (hr := t1)⟩
    intro e15 qe15
    refine c20z ?_
    refine .spl 184 rfl rfl (fun e17 => ?_) (fun e17 => ?_)
    ·try simp only [e17]
     have qe17 := fact e17
     refine .m [(2, 184)] ?_
     refine u2z ?_ ?_
     ·intro e18 qe18
      refine .c8 [0, 2, 3, 6, 11, 12, 13] ?_
      have he := iC (c := c) (vars := vs) h14.2.2
      have hb1 := gI hc (ps := f.params) fu vs (deep - 1) 3 (j0 c vs (c5 c.L J 14).2).2 (v8 out all) (l - 1) (by omega) (by omega) he.2 (by omega) (by omega) (by omega) hV (hO.fr.mono t79); have hb1l := hb1.ol; have hb1w := hb1.wt
      have hn2 := l6 hb1.oi (n := 2) (by omega)
      refine .sm u0 (mkP 15 [0, 0, 3, 0, 0, 0, 0, 64, 255, 0, 1023, 2047, 4095, 8191, 16383] [2, 8, 10, 12, 14]) [3, 4, 5, 6, 7, 9] ?_
      refine cA.p (pd := []) 2 ?_
      refine cA.p7 rfl rfl rfl rfl rfl VO (lU (vs := vs) hc h14.2.2 hL (by omega)) ?_
      refine cA.p 5 ?_
      refine cA.p7 rfl rfl rfl rfl rfl hb34 (zQ.V (vs := vs) ih (l - 1) (v8 out all) (deep - 1) 3 he.2 (by omega) (by omega) (by omega) (by omega) (by omega) (by omega) hV (hO.fr.mono (by simp only; omega)) (by omega)) ?_
      refine cA.p 6 ?_
      refine cA.nil t5 ?_
      refine .c8 [0, 2, 3, 6, 11, 12, 13] ?_
      refine c24z ?_
      refine .ch rfl rfl (eU _ _ 2 hb1.oi hL (by omega) (by omega)) ?_
      refine .n ?_
      refine u2z ?_ ?_
      ·intro e19 qe19
       refine .r ?_
       refine .e 5 ?_
       refine .ch rfl rfl (zQ.V (vs := vs) ih _ (v8 out all) (deep - 1) 3 hn2.2.2 hb1.ol.1 (by omega) (by omega) (by omega) (by omega) (by omega) hV (hO.fr.mono (by simp only; omega)) (by omega)) ?_
       refine c92z ?_
       refine .c8 [0, 2, 3, 6, 11, 12, 13] ?_
       refine g6.iS (β := e.n + 3) (o3 (row 7 ByteArray.empty (j0 c vs (c5 c.L J 14).2).1 l8 [] (g7 c f.params fu vs (deep - 1) 3 (j0 c vs (c5 c.L J 14).2).2 (l - 1)).1 (g7 c f.params fu vs (deep - 1) 3 (c5 c.L (g7 c f.params fu vs (deep - 1) 3 (j0 c vs (c5 c.L J 14).2).2 (l - 1)).2.1 2).2 (g7 c f.params fu vs (deep - 1) 3 (j0 c vs (c5 c.L J 14).2).2 (l - 1)).2.2).1)) t61 ?_ ?_; exact aJ t6 t6 t6 t6 t6
       refine c136z ?_
       have hround : p5 c f.params (g7 c f.params fu) vs deep J (l - 1) = ((row 7 ByteArray.empty (j0 c vs (c5 c.L J 14).2).1 l8 [] (g7 c f.params fu vs (deep - 1) 3 (j0 c vs (c5 c.L J 14).2).2 (l - 1)).1 (g7 c f.params fu vs (deep - 1) 3 (c5 c.L (g7 c f.params fu vs (deep - 1) 3 (j0 c vs (c5 c.L J 14).2).2 (l - 1)).2.1 2).2 (g7 c f.params fu vs (deep - 1) 3 (j0 c vs (c5 c.L J 14).2).2 (l - 1)).2.2).1), vs, (g7 c f.params fu vs (deep - 1) 3 (c5 c.L (g7 c f.params fu vs (deep - 1) 3 (j0 c vs (c5 c.L J 14).2).2 (l - 1)).2.1 2).2 (g7 c f.params fu vs (deep - 1) 3 (j0 c vs (c5 c.L J 14).2).2 (l - 1)).2.2).2.1, (g7 c f.params fu vs (deep - 1) 3 (c5 c.L (g7 c f.params fu vs (deep - 1) 3 (j0 c vs (c5 c.L J 14).2).2 (l - 1)).2.1 2).2 (g7 c f.params fu vs (deep - 1) 3 (j0 c vs (c5 c.L J 14).2).2 (l - 1)).2.2).2.2) := r_if (by omega) (by omega) rfl (by omega) rfl
       obtain ⟨hO2, hl2, hV2⟩ := aW hc hfu hlf hd.1 hO hV (by omega) hround
       have hF1 : fV c f.params (g7 c f.params fu) (mm - 1 + 1) vs deep out J l = R := by rw [Nat.sub_add_cancel (by omega)]; exact hF
       have hF2 := cD hF1 (by omega) hround
       have hlq := hO2.ol; simp only at hlq
       have hlo : (out.app (row 7 ByteArray.empty (j0 c vs (c5 c.L J 14).2).1 l8 [] (g7 c f.params fu vs (deep - 1) 3 (j0 c vs (c5 c.L J 14).2).2 (l - 1)).1 (g7 c f.params fu vs (deep - 1) 3 (c5 c.L (g7 c f.params fu vs (deep - 1) 3 (j0 c vs (c5 c.L J 14).2).2 (l - 1)).2.1 2).2 (g7 c f.params fu vs (deep - 1) 3 (j0 c vs (c5 c.L J 14).2).2 (l - 1)).2.2).1)).len = out.len + 1 := by simp only [Go.Un.Sl.bJ, row, Go.Un.Sl.len]
       exact ⟨_, by omega, .v ⟨(mm - 1), (g7 c f.params fu vs (deep - 1) 3 (c5 c.L (g7 c f.params fu vs (deep - 1) 3 (j0 c vs (c5 c.L J 14).2).2 (l - 1)).2.1 2).2 (g7 c f.params fu vs (deep - 1) 3 (j0 c vs (c5 c.L J 14).2).2 (l - 1)).2.2).2.1, (g7 c f.params fu vs (deep - 1) 3 (c5 c.L (g7 c f.params fu vs (deep - 1) 3 (j0 c vs (c5 c.L J 14).2).2 (l - 1)).2.1 2).2 (g7 c f.params fu vs (deep - 1) 3 (j0 c vs (c5 c.L J 14).2).2 (l - 1)).2.2).2.2, vs, (out.app (row 7 ByteArray.empty (j0 c vs (c5 c.L J 14).2).1 l8 [] (g7 c f.params fu vs (deep - 1) 3 (j0 c vs (c5 c.L J 14).2).2 (l - 1)).1 (g7 c f.params fu vs (deep - 1) 3 (c5 c.L (g7 c f.params fu vs (deep - 1) 3 (j0 c vs (c5 c.L J 14).2).2 (l - 1)).2.1 2).2 (g7 c f.params fu vs (deep - 1) 3 (j0 c vs (c5 c.L J 14).2).2 (l - 1)).2.2).1)), (go + 1), gv, ⟨rfl, ⟨hO2, hV2, by omega, by omega, hF2⟩⟩, rfl⟩ (he := t41) (hl := t24) (hk := t20) (hs := t7) (hr := t1)⟩
      intro e19 qe19
      refine c3z ?_
      refine g6.iS (β := e.n + 3) (o3 (row 7 ByteArray.empty (j0 c vs (c5 c.L J 14).2).1 l8 [] (g7 c f.params fu vs (deep - 1) 3 (j0 c vs (c5 c.L J 14).2).2 (l - 1)).1 .nil)) t61 ?_ ?_; exact aJ t6 t6 t6 t6 t6
      refine c14z ?_
      refine .c8 [0, 2, 3, 6, 11, 12] ?_
      refine .rz ?_
      have hround : p5 c f.params (g7 c f.params fu) vs deep J (l - 1) = ((row 7 ByteArray.empty (j0 c vs (c5 c.L J 14).2).1 l8 [] (g7 c f.params fu vs (deep - 1) 3 (j0 c vs (c5 c.L J 14).2).2 (l - 1)).1 .nil), vs, (c5 c.L (g7 c f.params fu vs (deep - 1) 3 (j0 c vs (c5 c.L J 14).2).2 (l - 1)).2.1 2).2, (g7 c f.params fu vs (deep - 1) 3 (j0 c vs (c5 c.L J 14).2).2 (l - 1)).2.2) := r_if2 (by omega) (by omega) rfl (by omega)
      obtain ⟨hO2, hl2, hV2⟩ := aW hc hfu hlf hd.1 hO hV (by omega) hround
      have hF1 : fV c f.params (g7 c f.params fu) (mm - 1 + 1) vs deep out J l = R := by rw [Nat.sub_add_cancel (by omega)]; exact hF
      have hF2 := cD hF1 (by omega) hround
      have hlq := hO2.ol; simp only at hlq
      have hlo : (out.app (row 7 ByteArray.empty (j0 c vs (c5 c.L J 14).2).1 l8 [] (g7 c f.params fu vs (deep - 1) 3 (j0 c vs (c5 c.L J 14).2).2 (l - 1)).1 .nil)).len = out.len + 1 := by simp only [Go.Un.Sl.bJ, row, Go.Un.Sl.len]
      exact ⟨_, by omega, .v ⟨(mm - 1), (c5 c.L (g7 c f.params fu vs (deep - 1) 3 (j0 c vs (c5 c.L J 14).2).2 (l - 1)).2.1 2).2, (g7 c f.params fu vs (deep - 1) 3 (j0 c vs (c5 c.L J 14).2).2 (l - 1)).2.2, vs, (out.app (row 7 ByteArray.empty (j0 c vs (c5 c.L J 14).2).1 l8 [] (g7 c f.params fu vs (deep - 1) 3 (j0 c vs (c5 c.L J 14).2).2 (l - 1)).1 .nil)), (go + 1), gv, ⟨rfl, ⟨hO2, hV2, by omega, by omega, hF2⟩⟩, rfl⟩ (he := t41) (hl := t24) (hk := t20) (hs := t7) (hr := t1)⟩
     intro e18 qe18
     refine c122z ?_
     refine .spl 216 rfl rfl (fun e20 => by exfalso; (simp at e20; omega)) (fun e20 => ?_)
     try simp only [e20]
     have qe20 := fact e20
     refine .m [(2, 216)] ?_
     refine .F ?_
     have h3 := l6 h14.2.2 (n := 3) (by omega)
     refine c20z ?_
     refine .spl 235 rfl rfl (fun e21 => by exfalso; (simp at e21; omega)) (fun e21 => ?_)
     try simp only [e21]
     have qe21 := fact e21
     refine .m [(2, 235)] ?_
     refine c256z ?_
     have hr9 := nR hc (ps := f.params) (vars := vs) (I := (c5 c.L J 14).2) (h14.2.2)
     refine c20z ?_
     refine c79z ?_
     refine c171z ?_
     refine g6.iS (β := e.n + 3) (o3 (row 5 ByteArray.empty l4 (s5 c f.params vs (c5 c.L J 14).2).1 [] .nil .nil)) t61 ?_ ?_; exact aJ t6 t6 t6 t6 t6
     refine c113z ?_
     have hb1 := gI hc (ps := f.params) fu vs 0 2 (s5 c f.params vs (c5 c.L J 14).2).2 (v8 out all) (l - 1) (by omega) (by omega) hr9.2 (by omega) (by omega) (by omega) hV (hO.fr.mono t79); have hb1l := hb1.ol; have hb1w := hb1.wt; have hb1n := cL (g7 c f.params fu vs 0 2 (s5 c f.params vs (c5 c.L J 14).2).2 (l - 1)).1; have hb1z : (o3 (g7 c f.params fu vs 0 2 (s5 c f.params vs (c5 c.L J 14).2).2 (l - 1)).1).length = (g7 c f.params fu vs 0 2 (s5 c f.params vs (c5 c.L J 14).2).2 (l - 1)).1.len * 11 := by rw [aU]; omega
     refine c28z ?_
     refine .n ?_
     refine c169z ?_
     refine g6.iS (β := e.n + 3) (o3 (row 6 ByteArray.empty l4 (s5 c f.params vs (c5 c.L J 14).2).1 [] .nil .nil)) t61 ?_ ?_; exact aJ t6 t6 t6 t6 t6
     refine c136z ?_
     have hround : p5 c f.params (g7 c f.params fu) vs deep J (l - 1) = (((row 5 ByteArray.empty l4 (s5 c f.params vs (c5 c.L J 14).2).1 [] .nil .nil).app ((g7 c f.params fu vs 0 2 (s5 c f.params vs (c5 c.L J 14).2).2 (l - 1)).1.app (row 6 ByteArray.empty l4 (s5 c f.params vs (c5 c.L J 14).2).1 [] .nil .nil))), vs, (g7 c f.params fu vs 0 2 (s5 c f.params vs (c5 c.L J 14).2).2 (l - 1)).2.1, (g7 c f.params fu vs 0 2 (s5 c f.params vs (c5 c.L J 14).2).2 (l - 1)).2.2) := BF (by omega) (by omega) (fun _ => by first | omega | (rw [‹vs = []›]; rfl)) (by omega) (by omega) (by omega) (by omega) rfl
     obtain ⟨hO2, hl2, hV2⟩ := aW hc hfu hlf hd.1 hO hV (by omega) hround
     have hF1 : fV c f.params (g7 c f.params fu) (mm - 1 + 1) vs deep out J l = R := by rw [Nat.sub_add_cancel (by omega)]; exact hF
     have hF2 := cD hF1 (by omega) hround
     have hlq := hO2.ol; simp only at hlq
     have hlo : (out.app ((row 5 ByteArray.empty l4 (s5 c f.params vs (c5 c.L J 14).2).1 [] .nil .nil).app ((g7 c f.params fu vs 0 2 (s5 c f.params vs (c5 c.L J 14).2).2 (l - 1)).1.app (row 6 ByteArray.empty l4 (s5 c f.params vs (c5 c.L J 14).2).1 [] .nil .nil)))).len = out.len + 1 + (g7 c f.params fu vs 0 2 (s5 c f.params vs (c5 c.L J 14).2).2 (l - 1)).1.len + 1 := by simp only [Go.Un.Sl.bJ, row, Go.Un.Sl.len]; omega
     exact ⟨_, by omega, .v ⟨(mm - 1), (g7 c f.params fu vs 0 2 (s5 c f.params vs (c5 c.L J 14).2).2 (l - 1)).2.1, (g7 c f.params fu vs 0 2 (s5 c f.params vs (c5 c.L J 14).2).2 (l - 1)).2.2, vs, (out.app ((row 5 ByteArray.empty l4 (s5 c f.params vs (c5 c.L J 14).2).1 [] .nil .nil).app ((g7 c f.params fu vs 0 2 (s5 c f.params vs (c5 c.L J 14).2).2 (l - 1)).1.app (row 6 ByteArray.empty l4 (s5 c f.params vs (c5 c.L J 14).2).1 [] .nil .nil)))), (gO (go + 1) (g7 c f.params fu vs 0 2 (s5 c f.params vs (c5 c.L J 14).2).2 (l - 1)).1.len + 1), gv, ⟨rfl, ⟨hO2, hV2, by omega, by omega, hF2⟩⟩, rfl⟩ (he := t67) (hl := t24) (hk := t20) (hs := t7) (hr := t1)⟩
    try simp only [e17]
    have qe17 := fact e17
    refine .m [(2, 184)] ?_
    refine .F ?_
    refine c122z ?_
    refine .spl 216 rfl rfl (fun e22 => ?_) (fun e22 => ?_)
    ·try simp only [e22]
     have qe22 := fact e22
     refine .m [(2, 216)] ?_
     refine u2z ?_ ?_
     ·intro e23 qe23
      refine .c8 [0, 2, 3, 6, 11, 12, 13] ?_
      have he := iC (c := c) (vars := vs) h14.2.2
      have hb1 := gI hc (ps := f.params) fu vs (deep - 1) 3 (j0 c vs (c5 c.L J 14).2).2 (v8 out all) (l - 1) (by omega) (by omega) he.2 (by omega) (by omega) (by omega) hV (hO.fr.mono t79); have hb1l := hb1.ol; have hb1w := hb1.wt
      refine g6.jE u0 (mkP 15 [0, 0, 3, 0, 0, 0, 0, 64, 255, 0, 1023, 2047, 4095, 8191, 16383] [2, 8, 10, 12, 14]) [3, 4, 5, 6, 7, 9] (by kernel_rfl) (by kernel_rfl) ?_
      refine cA.p (pd := []) 2 ?_
      refine cA.p7 rfl rfl rfl rfl rfl VO (lU (vs := vs) hc h14.2.2 hL (by omega)) ?_
      refine cA.p 5 ?_
      refine cA.p7 rfl rfl rfl rfl rfl hb34 (zQ.V (vs := vs) ih (l - 1) (v8 out all) (deep - 1) 3 he.2 (by omega) (by omega) (by omega) (by omega) (by omega) (by omega) hV (hO.fr.mono (by simp only; omega)) (by omega)) ?_
      refine cA.p 6 ?_
      refine cA.nil t5 ?_
      refine c129z ?_
      refine g6.iS (β := e.n + 3) (o3 (row 8 ByteArray.empty (j0 c vs (c5 c.L J 14).2).1 l8 [] (g7 c f.params fu vs (deep - 1) 3 (j0 c vs (c5 c.L J 14).2).2 (l - 1)).1 .nil)) t61 ?_ ?_; exact aJ t6 t6 t6 t6 t6
      refine c136z ?_
      have hround : p5 c f.params (g7 c f.params fu) vs deep J (l - 1) = ((row 8 ByteArray.empty (j0 c vs (c5 c.L J 14).2).1 l8 [] (g7 c f.params fu vs (deep - 1) 3 (j0 c vs (c5 c.L J 14).2).2 (l - 1)).1 .nil), vs, (g7 c f.params fu vs (deep - 1) 3 (j0 c vs (c5 c.L J 14).2).2 (l - 1)).2.1, (g7 c f.params fu vs (deep - 1) 3 (j0 c vs (c5 c.L J 14).2).2 (l - 1)).2.2) := r_while (by omega) (by omega) rfl
      obtain ⟨hO2, hl2, hV2⟩ := aW hc hfu hlf hd.1 hO hV (by omega) hround
      have hF1 : fV c f.params (g7 c f.params fu) (mm - 1 + 1) vs deep out J l = R := by rw [Nat.sub_add_cancel (by omega)]; exact hF
      have hF2 := cD hF1 (by omega) hround
      have hlq := hO2.ol; simp only at hlq
      have hlo : (out.app (row 8 ByteArray.empty (j0 c vs (c5 c.L J 14).2).1 l8 [] (g7 c f.params fu vs (deep - 1) 3 (j0 c vs (c5 c.L J 14).2).2 (l - 1)).1 .nil)).len = out.len + 1 := by simp only [Go.Un.Sl.bJ, row, Go.Un.Sl.len]
      exact ⟨_, by omega, .v ⟨(mm - 1), (g7 c f.params fu vs (deep - 1) 3 (j0 c vs (c5 c.L J 14).2).2 (l - 1)).2.1, (g7 c f.params fu vs (deep - 1) 3 (j0 c vs (c5 c.L J 14).2).2 (l - 1)).2.2, vs, (out.app (row 8 ByteArray.empty (j0 c vs (c5 c.L J 14).2).1 l8 [] (g7 c f.params fu vs (deep - 1) 3 (j0 c vs (c5 c.L J 14).2).2 (l - 1)).1 .nil)), (go + 1), gv, ⟨rfl, ⟨hO2, hV2, by omega, by omega, hF2⟩⟩, rfl⟩ (he := t41) (hl := t24) (hk := t20) (hs := t7) (hr := t1)⟩
     intro e23 qe23
     have h3 := l6 h14.2.2 (n := 3) (by omega)
     refine c20z ?_
     refine .spl 235 rfl rfl (fun e24 => by exfalso; (simp at e24; omega)) (fun e24 => ?_)
     try simp only [e24]
     have qe24 := fact e24
     refine .m [(2, 235)] ?_
     refine c256z ?_
     have hr9 := nR hc (ps := f.params) (vars := vs) (I := (c5 c.L J 14).2) (h14.2.2)
     refine c20z ?_
     refine c79z ?_
     refine c171z ?_
     refine g6.iS (β := e.n + 3) (o3 (row 5 ByteArray.empty l4 (s5 c f.params vs (c5 c.L J 14).2).1 [] .nil .nil)) t61 ?_ ?_; exact aJ t6 t6 t6 t6 t6
     refine c113z ?_
     have hb1 := gI hc (ps := f.params) fu vs 0 2 (s5 c f.params vs (c5 c.L J 14).2).2 (v8 out all) (l - 1) (by omega) (by omega) hr9.2 (by omega) (by omega) (by omega) hV (hO.fr.mono t79); have hb1l := hb1.ol; have hb1w := hb1.wt; have hb1n := cL (g7 c f.params fu vs 0 2 (s5 c f.params vs (c5 c.L J 14).2).2 (l - 1)).1; have hb1z : (o3 (g7 c f.params fu vs 0 2 (s5 c f.params vs (c5 c.L J 14).2).2 (l - 1)).1).length = (g7 c f.params fu vs 0 2 (s5 c f.params vs (c5 c.L J 14).2).2 (l - 1)).1.len * 11 := by rw [aU]; omega
     refine c28z ?_
     refine .n ?_
     refine c169z ?_
     refine g6.iS (β := e.n + 3) (o3 (row 6 ByteArray.empty l4 (s5 c f.params vs (c5 c.L J 14).2).1 [] .nil .nil)) t61 ?_ ?_; exact aJ t6 t6 t6 t6 t6
     refine c136z ?_
     have hround : p5 c f.params (g7 c f.params fu) vs deep J (l - 1) = (((row 5 ByteArray.empty l4 (s5 c f.params vs (c5 c.L J 14).2).1 [] .nil .nil).app ((g7 c f.params fu vs 0 2 (s5 c f.params vs (c5 c.L J 14).2).2 (l - 1)).1.app (row 6 ByteArray.empty l4 (s5 c f.params vs (c5 c.L J 14).2).1 [] .nil .nil))), vs, (g7 c f.params fu vs 0 2 (s5 c f.params vs (c5 c.L J 14).2).2 (l - 1)).2.1, (g7 c f.params fu vs 0 2 (s5 c f.params vs (c5 c.L J 14).2).2 (l - 1)).2.2) := BF (by omega) (by omega) (fun _ => by first | omega | (rw [‹vs = []›]; rfl)) (by omega) (by omega) (by omega) (by omega) rfl
     obtain ⟨hO2, hl2, hV2⟩ := aW hc hfu hlf hd.1 hO hV (by omega) hround
     have hF1 : fV c f.params (g7 c f.params fu) (mm - 1 + 1) vs deep out J l = R := by rw [Nat.sub_add_cancel (by omega)]; exact hF
     have hF2 := cD hF1 (by omega) hround
     have hlq := hO2.ol; simp only at hlq
     have hlo : (out.app ((row 5 ByteArray.empty l4 (s5 c f.params vs (c5 c.L J 14).2).1 [] .nil .nil).app ((g7 c f.params fu vs 0 2 (s5 c f.params vs (c5 c.L J 14).2).2 (l - 1)).1.app (row 6 ByteArray.empty l4 (s5 c f.params vs (c5 c.L J 14).2).1 [] .nil .nil)))).len = out.len + 1 + (g7 c f.params fu vs 0 2 (s5 c f.params vs (c5 c.L J 14).2).2 (l - 1)).1.len + 1 := by simp only [Go.Un.Sl.bJ, row, Go.Un.Sl.len]; omega
     exact ⟨_, by omega, .v ⟨(mm - 1), (g7 c f.params fu vs 0 2 (s5 c f.params vs (c5 c.L J 14).2).2 (l - 1)).2.1, (g7 c f.params fu vs 0 2 (s5 c f.params vs (c5 c.L J 14).2).2 (l - 1)).2.2, vs, (out.app ((row 5 ByteArray.empty l4 (s5 c f.params vs (c5 c.L J 14).2).1 [] .nil .nil).app ((g7 c f.params fu vs 0 2 (s5 c f.params vs (c5 c.L J 14).2).2 (l - 1)).1.app (row 6 ByteArray.empty l4 (s5 c f.params vs (c5 c.L J 14).2).1 [] .nil .nil)))), (gO (go + 1) (g7 c f.params fu vs 0 2 (s5 c f.params vs (c5 c.L J 14).2).2 (l - 1)).1.len + 1), gv, ⟨rfl, ⟨hO2, hV2, by omega, by omega, hF2⟩⟩, rfl⟩ (he := t67) (hl := t24) (hk := t20) (hs := t7) (hr := t1)⟩
    try simp only [e22]
    have qe22 := fact e22
    refine .m [(2, 216)] ?_
    refine .F ?_
    have h3 := l6 h14.2.2 (n := 3) (by omega)
    refine c20z ?_
    refine .spl 235 rfl rfl (fun e25 => ?_) (fun e25 => by exfalso; (simp at e25; omega))
    try simp only [e25]
    have qe25 := fact e25
    refine .k 4 [(2, 235)] ?_
    refine .ch rfl rfl (eU _ _ 3 h14.2.2 hL (by omega) (by omega)) ?_
    refine .m [(2, 235)] ?_
    refine u2z ?_ ?_
    ·intro e26 qe26
     refine .c8 [0, 2, 3, 6, 11, 12, 13] ?_
     refine c2z ?_
     refine g6.iS (β := e.n + 3) (o3 (row 9 ByteArray.empty l4 l8 [] .nil .nil)) t61 ?_ ?_; exact aJ t6 t6 t6 t6 t6
     refine c136z ?_
     have hround : p5 c f.params (g7 c f.params fu) vs deep J (l - 1) = ((row 9 ByteArray.empty l4 l8 [] .nil .nil), vs, (c5 c.L (c5 c.L J 14).2 3).2, (l - 1)) := r_ret (by omega) (by omega)
     obtain ⟨hO2, hl2, hV2⟩ := aW hc hfu hlf hd.1 hO hV (by omega) hround
     have hF1 : fV c f.params (g7 c f.params fu) (mm - 1 + 1) vs deep out J l = R := by rw [Nat.sub_add_cancel (by omega)]; exact hF
     have hF2 := cD hF1 (by omega) hround
     have hlq := hO2.ol; simp only at hlq
     have hlo : (out.app (row 9 ByteArray.empty l4 l8 [] .nil .nil)).len = out.len + 1 := by simp only [Go.Un.Sl.bJ, row, Go.Un.Sl.len]
     exact ⟨_, by omega, .v ⟨(mm - 1), (c5 c.L (c5 c.L J 14).2 3).2, (l - 1), vs, (out.app (row 9 ByteArray.empty l4 l8 [] .nil .nil)), (go + 1), gv, ⟨rfl, ⟨hO2, hV2, by omega, by omega, hF2⟩⟩, rfl⟩ (he := t41) (hl := t24) (hk := t20) (hs := t7) (hr := t1)⟩
    intro e26 qe26
    refine .c8 [0, 2, 3, 6, 11, 12, 13] ?_
    have hr9 := nR hc (ps := f.params) (vars := vs) (I := (c5 c.L (c5 c.L J 14).2 3).2) (h3.2.2)
    refine c20z ?_
    refine .ch rfl rfl (NJ (vs := vs) hc h3.2.2 hL (by omega) f hp) ?_
    refine .n ?_
    refine c171z ?_
    refine g6.iS (β := e.n + 3) (o3 (row 5 ByteArray.empty l4 (s5 c f.params vs (c5 c.L (c5 c.L J 14).2 3).2).1 [] .nil .nil)) t61 ?_ ?_; exact aJ t6 t6 t6 t6 t6
    refine c113z ?_
    have hb1 := gI hc (ps := f.params) fu vs 0 2 (s5 c f.params vs (c5 c.L (c5 c.L J 14).2 3).2).2 (v8 out all) (l - 1) (by omega) (by omega) hr9.2 (by omega) (by omega) (by omega) hV (hO.fr.mono t79); have hb1l := hb1.ol; have hb1w := hb1.wt; have hb1n := cL (g7 c f.params fu vs 0 2 (s5 c f.params vs (c5 c.L (c5 c.L J 14).2 3).2).2 (l - 1)).1; have hb1z : (o3 (g7 c f.params fu vs 0 2 (s5 c f.params vs (c5 c.L (c5 c.L J 14).2 3).2).2 (l - 1)).1).length = (g7 c f.params fu vs 0 2 (s5 c f.params vs (c5 c.L (c5 c.L J 14).2 3).2).2 (l - 1)).1.len * 11 := by rw [aU]; omega
    refine c28z ?_
    refine .n ?_
    refine c169z ?_
    refine g6.iS (β := e.n + 3) (o3 (row 6 ByteArray.empty l4 (s5 c f.params vs (c5 c.L (c5 c.L J 14).2 3).2).1 [] .nil .nil)) t61 ?_ ?_; exact aJ t6 t6 t6 t6 t6
    refine c136z ?_
    have hround : p5 c f.params (g7 c f.params fu) vs deep J (l - 1) = (((row 5 ByteArray.empty l4 (s5 c f.params vs (c5 c.L (c5 c.L J 14).2 3).2).1 [] .nil .nil).app ((g7 c f.params fu vs 0 2 (s5 c f.params vs (c5 c.L (c5 c.L J 14).2 3).2).2 (l - 1)).1.app (row 6 ByteArray.empty l4 (s5 c f.params vs (c5 c.L (c5 c.L J 14).2 3).2).1 [] .nil .nil))), vs, (g7 c f.params fu vs 0 2 (s5 c f.params vs (c5 c.L (c5 c.L J 14).2 3).2).2 (l - 1)).2.1, (g7 c f.params fu vs 0 2 (s5 c f.params vs (c5 c.L (c5 c.L J 14).2 3).2).2 (l - 1)).2.2) := IK (by omega) (by omega) rfl
    obtain ⟨hO2, hl2, hV2⟩ := aW hc hfu hlf hd.1 hO hV (by omega) hround
    have hF1 : fV c f.params (g7 c f.params fu) (mm - 1 + 1) vs deep out J l = R := by rw [Nat.sub_add_cancel (by omega)]; exact hF
    have hF2 := cD hF1 (by omega) hround
    have hlq := hO2.ol; simp only at hlq
    have hlo : (out.app ((row 5 ByteArray.empty l4 (s5 c f.params vs (c5 c.L (c5 c.L J 14).2 3).2).1 [] .nil .nil).app ((g7 c f.params fu vs 0 2 (s5 c f.params vs (c5 c.L (c5 c.L J 14).2 3).2).2 (l - 1)).1.app (row 6 ByteArray.empty l4 (s5 c f.params vs (c5 c.L (c5 c.L J 14).2 3).2).1 [] .nil .nil)))).len = out.len + 1 + (g7 c f.params fu vs 0 2 (s5 c f.params vs (c5 c.L (c5 c.L J 14).2 3).2).2 (l - 1)).1.len + 1 := by simp only [Go.Un.Sl.bJ, row, Go.Un.Sl.len]; omega
    exact ⟨_, by omega, .v ⟨(mm - 1), (g7 c f.params fu vs 0 2 (s5 c f.params vs (c5 c.L (c5 c.L J 14).2 3).2).2 (l - 1)).2.1, (g7 c f.params fu vs 0 2 (s5 c f.params vs (c5 c.L (c5 c.L J 14).2 3).2).2 (l - 1)).2.2, vs, (out.app ((row 5 ByteArray.empty l4 (s5 c f.params vs (c5 c.L (c5 c.L J 14).2 3).2).1 [] .nil .nil).app ((g7 c f.params fu vs 0 2 (s5 c f.params vs (c5 c.L (c5 c.L J 14).2 3).2).2 (l - 1)).1.app (row 6 ByteArray.empty l4 (s5 c f.params vs (c5 c.L (c5 c.L J 14).2 3).2).1 [] .nil .nil)))), (gO (go + 1) (g7 c f.params fu vs 0 2 (s5 c f.params vs (c5 c.L (c5 c.L J 14).2 3).2).2 (l - 1)).1.len + 1), gv, ⟨rfl, ⟨hO2, hV2, by omega, by omega, hF2⟩⟩, rfl⟩ (he := t67) (hl := t24) (hk := t20) (hs := t7) (hr := t1)⟩
   intro e2 qe2
   refine c8z ?_
   refine .c8 [11] ?_
   refine c43z ?_
   exact ⟨hB _ _ _ _, _, .vec out.len (o3 out), rfl, t65, fW, t105, by rw [K5 hF (by omega)]; exact ⟨rfl, rfl⟩⟩
  try simp only [e1]
  have qe1 := fact e1
  refine .m [(2, 29)] ?_
  refine c32z ?_
  refine .c8 [11] ?_
  refine c43z ?_
  exact ⟨hB _ _ _ _, _, .vec out.len (o3 out), rfl, t65, fW, t105, by rw [K5 hF (by omega)]; exact ⟨rfl, rfl⟩⟩
theorem DQ {c : Core} (hc : OkC c) (hL : c.L.length < 4611686018427387904) (f : Fu) (hp : f.params.length ≤ 2) : ∀ (n fu : Nat) (left : Int), fu ≤ 24 → left.toNat ≤ n → 0 ≤ left → left ≤ fu → zQ c f fu (left + 1)
  | n, fu, left, h24, hn, h0, hf => by
    intro I l' vs all d m hI a1 a2 a3 a4 a5 a6 a7 a8 a9
    cases fu with
    | zero =>
      have e0 : g7 c f.params 0 vs d m I l' = g7 c f.params 1 vs d m I l' := by
        obtain rfl : l' = 0 := by omega
        rw [g7, g7]
        cases (c5 c.L I (m + 1)).1.toNat with
        | zero => rfl
        | succ k => rw [fV, if_pos (Int.le_refl _)]
      rw [e0]
      exact M8 hc hL f hp 0 (by omega) a1 (by omega) (fun I l'' vs all d m b1 b2 b3 => by omega) I hI vs all d m ⟨a3, a4⟩ ⟨a5, a6⟩ a7 a8 a9
    | succ g =>
      refine M8 hc hL f hp g (by omega) a1 (by omega) ?_ I hI vs all d m ⟨a3, a4⟩ ⟨a5, a6⟩ a7 a8 a9
      intro e I2 l2 vs2 all2 d2 m2 b1 b2 b3
      cases n with
      | zero => omega
      | succ n => exact DQ hc hL f hp n g (l' - 1) (by omega) (by omega) (by omega) (by omega) I2 l2 vs2 all2 d2 m2 b1 b2 (by omega)
termination_by n => n
end Go.Proofs.YtapdldekgbbomaaGreat
end
