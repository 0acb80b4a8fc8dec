/- My own texts, put together by a program of mine. -/
import Derived.Test.YtfbjlfhjkojmkaaGreatH27
set_option linter.unusedSimpArgs false
set_option linter.unusedVariables false
set_option maxRecDepth 100000
set_option maxHeartbeats 4000000
section
namespace Go.Proofs.YtfbjlfhjkojmkaaGreat
open Go.Ab Go.Un
theorem sz_v1 : (⟨#[118]⟩ : BA).size = 1 := rfl
theorem sz_v2 {a b : UInt8} : (⟨#[a, b]⟩ : BA).size = 2 := rfl
theorem n26 : ((26 : Int) = 0) = False := by simp
attribute [local go_sem] rd l9 w9 n5 aA aJ m8 aT Int.natCast_nonneg Int.natCast_inj List.length_map bK hB_1 hB_2 hB_5 UH UI UJ UK dX xY eC I6 wrap64 wrap8 dA O6 OZ app_vs PA PB U2 PC PD qD sT P6 B8 G9 P7 xO max2 kJ gL vnm_eq sz_v1 sz_v2 n26 List.flatten_nil List.flatten_cons
theorem U3 {c : Core} (hc : OkC c) (hL : c.L.length < 4611686018427387904) (f : Fu) (hp : f.params.length ≤ 2) (fu : Nat) (hfu : fu ≤ 23) {left : Int} (hl0 : 0 ≤ left) (hlf : left ≤ fu + 1) (ih : E4 c f fu left) {e : Frame} (I : Int) (hI : OkI c.L I) (vars all : List BA) (deep most : Int) (hd : 0 ≤ deep ∧ deep ≤ 100) (hm : 0 ≤ most ∧ most ≤ 100) (hv : ∀ x ∈ vars, x ∈ all) (hfr : Fr left.toNat all) (hN : vars.length + left.toNat ≤ 500) : CH 48 [.ptr 5 0 0, .agg (dA f), .vec vars.length (w5 vars), .int .i64 deep, .int .i64 most] (hB c e I left) (.vec (g0 c f.params (fu + 1) vars deep most I left).1.len (n8 (g0 c f.params (fu + 1) vars deep most I left).1)) (hB c e (g0 c f.params (fu + 1) vars deep most I left).2.1 (g0 c f.params (fu + 1) vars deep most I left).2.2) := by
  have hmx := l6 hI (n := most + 1) (by omega)
  generalize hR : g0 c f.params (fu + 1) vars deep most I left = R
  rw [g0] at hR
  refine .wz Tryz.f48 249 ?_
  refine c19z ?_
  refine c26z ?_
  refine raise (β := e.n + 1) (k := vars.length) t64 (Nat.zero_le _) ?_
  simp only [eC, List.set_cons_succ, List.set_cons_zero]
  refine c125z ?_
  refine .ch rfl rfl (eK _ _ _ hI hL (by omega) (by omega)) ?_
  refine c122z ?_
  refine c9.A5 11 rfl ?_
  refine .z7 (fun m st => ∃ (mm : Nat) (J : Int) (l : Int) (vs : List BA) (out : Sl) (go : Nat) (gv : Nat), (m = mm ∧ (OkB (Y0 c f.params) c.L all left (deep.toNat + 1) (out, J, l) ∧ (∀ x ∈ vs, x ∈ u6 out all) ∧ vs.length + l.toNat ≤ 500 ∧ mm ≤ 200 ∧ eZ c f.params (g0 c f.params fu) mm vs deep out J l = R)) ∧ st = ⟨mkS 249 [(0, AV.ptr 5 0 0), (2, AV.own (e.n + 1) gv 0 vs.length), (3, AV.int .i64 deep), (6, AV.ptr e.n 0 0), (11, AV.own (e.n + 2) go 0 out.len), (12, AV.int .i64 ((mm : Nat) : Int))], hB c e J l ++ [⟨0, false, 101, 3, [.str f.name, .vec f.params.length (s4 f.params), .vec f.body.len (n8 f.body)], 0⟩, ⟨gv, false, 9, 1, w5 vs, vs.length⟩, p4 140 11 go (n8 out)]⟩) (.v ⟨(c5 c.L I (most + 1)).1.toNat, (c5 c.L I (most + 1)).2, left, vars, Sl.nil, 0, (gO 0 vars.length), ⟨rfl, ⟨⟨hmx.2.2, ⟨hl0, Int.le_refl _⟩, trivial, hfr, by simp [Sl.wt], t174⟩, hv, hN, by omega, hR⟩⟩, rfl⟩ (hs := t6) (hr := t1)) ?_
  rintro m sl h' ⟨mm, J, l, vs, out, go, gv, ⟨hm, ⟨hO, hV, hvl, hmm, hF⟩⟩, hst⟩
  obtain ⟨rfl, rfl⟩ := St.mk.inj hst; clear hst
  have hz : (n8 out).length = out.len * 11 := by rw [aP]; omega
  have hlw := cC out
  have hw := hO.wt
  have hol := hO.ol
  have hJ := hO.oi
  simp only at hw hol hJ
  have hlen : out.len < 100 := by omega
  have h14 := l6 hJ (n := 14) (by omega)
  have hfl := hc.fl
  refine .seq ?_
  refine c18z ?_
  refine .spl 29 rfl rfl (fun e1 => ?_) (fun e1 => ?_)
  ·try simp only [e1]
   have qe1 := fact e1
   refine .m [(2, 29)] ?_
   refine u2z ?_ ?_
   ·intro e2 qe2
    refine c2z ?_
    refine .c7 [0, 2, 3, 6, 11, 12] ?_
    refine c154z ?_
    refine .c7 [0, 2, 3, 6, 11, 12, 13] ?_
    refine c31z ?_
    refine .ch rfl rfl (eK _ _ 14 hJ hL (by omega) (by omega)) ?_
    refine c122z ?_
    refine .z ?_
    refine u2z ?_ ?_
    ·intro e3 qe3
     refine .c7 [0, 2, 3, 6, 11, 12, 13] ?_
     refine .r ?_
     refine .e 3 ?_
     refine .ch rfl rfl (U1 (vs := vs) hc h14.2.2 hL (by omega) f hp) ?_
     refine c25z ?_
     refine c9.iJ (β := e.n + 3) (n8 (row 5 ByteArray.empty j9 (r6 c f.params vs (c5 c.L J 14).2).1 [] .nil .nil)) t64 ?_ ?_; exact aF t5 t5 t5 t5 t5
     refine c12z ?_
     refine .c7 [0, 2, 3, 6, 11, 12] ?_
     refine .rz ?_
     have hround : o5 c f.params (g0 c f.params fu) vs deep J (l - 1) = ((row 5 ByteArray.empty j9 (r6 c f.params vs (c5 c.L J 14).2).1 [] .nil .nil), vs, (r6 c f.params vs (c5 c.L J 14).2).2, (l - 1)) := r_lock (by omega)
     obtain ⟨hO2, hl2, hV2⟩ := aR hc hfu hlf hd.1 hO hV (by omega) hround
     have hF1 : eZ c f.params (g0 c f.params fu) (mm - 1 + 1) vs deep out J l = R := by rw [Nat.sub_add_cancel (by omega)]; exact hF
     have hF2 := bV hF1 (by omega) hround
     have hlq := hO2.ol; simp only at hlq
     have hlo : (out.app (row 5 ByteArray.empty j9 (r6 c f.params vs (c5 c.L J 14).2).1 [] .nil .nil)).len = out.len + 1 := by simp only [Go.Un.Sl.bD, row, Go.Un.Sl.len]
     exact ⟨_, by omega, .v ⟨(mm - 1), (r6 c f.params vs (c5 c.L J 14).2).2, (l - 1), vs, (out.app (row 5 ByteArray.empty j9 (r6 c f.params vs (c5 c.L J 14).2).1 [] .nil .nil)), (go + 1), gv, ⟨rfl, ⟨hO2, hV2, by omega, by omega, hF2⟩⟩, rfl⟩ (he := t42) (hl := t25) (hk := t20) (hs := t6) (hr := t1)⟩
    intro e3 qe3
    refine c232z ?_
    refine u2z ?_ ?_
    ·intro e4 qe4
     refine .r ?_
     refine .e 3 ?_
     refine .ch rfl rfl (U1 (vs := vs) hc h14.2.2 hL (by omega) f hp) ?_
     refine c25z ?_
     refine .c7 [0, 2, 3, 6, 11, 12, 13] ?_
     refine c9.iJ (β := e.n + 3) (n8 (row 6 ByteArray.empty j9 (r6 c f.params vs (c5 c.L J 14).2).1 [] .nil .nil)) t64 ?_ ?_; exact aF t5 t5 t5 t5 t5
     refine c131z ?_
     have hround : o5 c f.params (g0 c f.params fu) vs deep J (l - 1) = ((row 6 ByteArray.empty j9 (r6 c f.params vs (c5 c.L J 14).2).1 [] .nil .nil), vs, (r6 c f.params vs (c5 c.L J 14).2).2, (l - 1)) := MA (by omega) (by omega)
     obtain ⟨hO2, hl2, hV2⟩ := aR hc hfu hlf hd.1 hO hV (by omega) hround
     have hF1 : eZ c f.params (g0 c f.params fu) (mm - 1 + 1) vs deep out J l = R := by rw [Nat.sub_add_cancel (by omega)]; exact hF
     have hF2 := bV hF1 (by omega) hround
     have hlq := hO2.ol; simp only at hlq
     have hlo : (out.app (row 6 ByteArray.empty j9 (r6 c f.params vs (c5 c.L J 14).2).1 [] .nil .nil)).len = out.len + 1 := by simp only [Go.Un.Sl.bD, row, Go.Un.Sl.len]
     exact ⟨_, by omega, .v ⟨(mm - 1), (r6 c f.params vs (c5 c.L J 14).2).2, (l - 1), vs, (out.app (row 6 ByteArray.empty j9 (r6 c f.params vs (c5 c.L J 14).2).1 [] .nil .nil)), (go + 1), gv, ⟨rfl, ⟨hO2, hV2, by omega, by omega, hF2⟩⟩, rfl⟩ (he := t42) (hl := t25) (hk := t20) (hs := t6) (hr := t1)⟩
    intro e4 qe4
    refine .z ?_
    refine u2z ?_ ?_
    ·intro e5 qe5
     have ht := tm26 (l := l - 1) (by omega)
     have htd := td26 (l := l - 1) (by omega) (by omega)
     have ht2 := tm26 (l := (l - 1).tdiv 26) (by omega)
     refine .sg s9 (mkH 27 [0, 0, 3, 0, 8, 24, 56, 120, 248, 504, 0, 1024, 3072, 7168, 15360, 31744, 64512, 130048, 262136, 524280, 1048568, 0, 2097159, 6291463, 14680071, 33554431, 67108863] [2, 18, 22, 24, 26] [(18, 0)] [0, 4, 262144, 262148, 4194308, 4456452, 20971524, 21233668, 88342532] [0, 1, 2, 3, 4, 5, 6, 7, 8, 9, 10, 11, 12, 13, 14, 15, 16, 17, 18, 19, 20]) 1 ?_
     refine s8.w7 t23 ?_
     refine .p 2 ?_
     refine .cm [true] [4, 0] [_] rfl rfl (by simp only [iV, and_true, List.cons_append, List.nil_append]; exact lY (vs := vs) hc h14.2.2 hL (by omega)) ?_
     refine .p 3 ?_
     refine .rm [true, true] ?_
     refine .p 6 ?_
     refine .rm [true, true] ?_
     refine .p 4 ?_
     refine .em [true, true] [262148, 262144, 4, 0] [_, _] ?_
     refine .rm [true, true, false, false] ?_
     refine .p 2 ?_
     refine .en [true, false, true, false] [4456452, 4194308, 262148, 262144, 4, 0] [_, _] ?_
     refine .p 1 ?_
     refine .en [true, true, false, false, false, false] [21233668, 20971524, 4456452, 4194308, 262148, 262144, 4, 0] [_, _] ?_
     refine .p 1 ?_
     refine .en [true, false, false, false, false, false, false, false] [88342532, 21233668, 20971524, 4456452, 4194308, 262148, 262144, 4, 0] [_] ?_
     refine .po [false, true, false, true, false, true, true, false, false] ?_
     refine .po [false, false, true, false, true, false, false, true, true] ?_
     refine .po [false, false, true, false, true, false, false, true, true] ?_
     refine .po [false, false, true, false, true, false, false, true, true] ?_
     refine s8.pop [false, false, false, false, false, false, true, false, true] (by kernel_rfl) (by simp only [pZ, and_true, List.cons_append, List.nil_append]; exact ⟨bX.p5 rfl rfl rfl rfl ZN (lY (vs := vs) hc h14.2.2 hL (by omega)) rfl, bX.p5 rfl rfl rfl rfl ZN (lY (vs := vs) hc h14.2.2 hL (by omega)) rfl⟩) ?_
     refine s8.nil rfl ?_
     refine .c7 [0, 2, 3, 6, 11, 12, 13] ?_
     refine c1z ?_
     refine raise (β := e.n + 1) (k := (vs ++ [vnm (l - 1).toNat]).length) t64 (by simp) ?_
     simp only [eC, List.set_cons_succ, List.set_cons_zero]
     refine c9.iJ (β := e.n + 3) (n8 (row 1 (vnm (l - 1).toNat) (g8 c vs (c5 c.L J 14).2).1 l7 [] .nil .nil)) t64 ?_ ?_; exact aF t5 t5 t5 t5 t5
     refine c12z ?_
     refine .c7 [0, 2, 3, 6, 11, 12] ?_
     refine .rz ?_
     have hround : o5 c f.params (g0 c f.params fu) vs deep J (l - 1) = ((row 1 (vnm (l - 1).toNat) (g8 c vs (c5 c.L J 14).2).1 l7 [] .nil .nil), (vs ++ [vnm (l - 1).toNat]), (g8 c vs (c5 c.L J 14).2).2, (l - 1)) := r_var (by omega)
     obtain ⟨hO2, hl2, hV2⟩ := aR hc hfu hlf hd.1 hO hV (by omega) hround
     have hF1 : eZ c f.params (g0 c f.params fu) (mm - 1 + 1) vs deep out J l = R := by rw [Nat.sub_add_cancel (by omega)]; exact hF
     have hF2 := bV hF1 (by omega) hround
     have hlq := hO2.ol; simp only at hlq
     have hlo : (out.app (row 1 (vnm (l - 1).toNat) (g8 c vs (c5 c.L J 14).2).1 l7 [] .nil .nil)).len = out.len + 1 := by simp only [Go.Un.Sl.bD, row, Go.Un.Sl.len]
     have hvl2 : (vs ++ [vnm (l - 1).toNat]).length = vs.length + 1 := by simp
     exact ⟨_, by omega, .v ⟨(mm - 1), (g8 c vs (c5 c.L J 14).2).2, (l - 1), (vs ++ [vnm (l - 1).toNat]), (out.app (row 1 (vnm (l - 1).toNat) (g8 c vs (c5 c.L J 14).2).1 l7 [] .nil .nil)), (go + 1), (gv + 1), ⟨rfl, ⟨hO2, hV2, by omega, by omega, hF2⟩⟩, rfl⟩ (he := by (rw [jC, iR, hvl2]; simp only [List.append_assoc, List.cons_append, List.nil_append]; rfl)) (hl := t25) (hk := t20) (hs := t6) (hr := t1)⟩
    intro e5 qe5
    refine c18z ?_
    refine .spl 122 rfl rfl (fun e6 => ?_) (fun e6 => ?_)
    ·try simp only [e6]
     have qe6 := fact e6
     refine .m [(2, 122)] ?_
     refine u2z ?_ ?_
     ·intro e7 qe7
      refine .c7 [0, 2, 3, 6, 11, 12, 13] ?_
      have hnv := l6 h14.2.2 (n := (vs.length : Int)) (by omega)
      refine c9.iZ s9 (mkP 19 [0, 0, 2, 6, 14, 0, 32, 126, 255, 511, 0, 0, 3326, 0, 15614, 32767, 65535, 131071, 262143] [7, 12, 14, 16, 18]) [0, 8, 9, 10, 11, 13] (by kernel_rfl) (by kernel_rfl) ?_
      refine dS.p (pd := []) 7 ?_
      refine dS.p5 rfl rfl rfl rfl rfl uP (eK _ _ (vs.length : Int) h14.2.2 hL (by omega) (by omega)) ?_
      refine dS.p 4 ?_
      refine dS.p5 rfl rfl rfl rfl rfl ZN (lY (vs := vs) hc hnv.2.2 hL (by omega)) ?_
      refine dS.p 6 ?_
      refine dS.nil t10 ?_
      refine c170z ?_
      refine c9.iJ (β := e.n + 3) (n8 (row 2 (vs.getD (c5 c.L (c5 c.L J 14).2 vs.length).1.toNat ByteArray.empty) (g8 c vs (c5 c.L (c5 c.L J 14).2 vs.length).2).1 l7 [] .nil .nil)) t64 ?_ ?_; exact aF t5 t5 t5 t5 t5
      refine c131z ?_
      have hround : o5 c f.params (g0 c f.params fu) vs deep J (l - 1) = ((row 2 (vs.getD (c5 c.L (c5 c.L J 14).2 vs.length).1.toNat ByteArray.empty) (g8 c vs (c5 c.L (c5 c.L J 14).2 vs.length).2).1 l7 [] .nil .nil), vs, (g8 c vs (c5 c.L (c5 c.L J 14).2 vs.length).2).2, (l - 1)) := MB (by omega) (by omega)
      obtain ⟨hO2, hl2, hV2⟩ := aR hc hfu hlf hd.1 hO hV (by omega) hround
      have hF1 : eZ c f.params (g0 c f.params fu) (mm - 1 + 1) vs deep out J l = R := by rw [Nat.sub_add_cancel (by omega)]; exact hF
      have hF2 := bV hF1 (by omega) hround
      have hlq := hO2.ol; simp only at hlq
      have hlo : (out.app (row 2 (vs.getD (c5 c.L (c5 c.L J 14).2 vs.length).1.toNat ByteArray.empty) (g8 c vs (c5 c.L (c5 c.L J 14).2 vs.length).2).1 l7 [] .nil .nil)).len = out.len + 1 := by simp only [Go.Un.Sl.bD, row, Go.Un.Sl.len]
      exact ⟨_, by omega, .v ⟨(mm - 1), (g8 c vs (c5 c.L (c5 c.L J 14).2 vs.length).2).2, (l - 1), vs, (out.app (row 2 (vs.getD (c5 c.L (c5 c.L J 14).2 vs.length).1.toNat ByteArray.empty) (g8 c vs (c5 c.L (c5 c.L J 14).2 vs.length).2).1 l7 [] .nil .nil)), (go + 1), gv, ⟨rfl, ⟨hO2, hV2, by omega, by omega, hF2⟩⟩, rfl⟩ (he := t42) (hl := t25) (hk := t20) (hs := t6) (hr := t1)⟩
     intro e7 qe7
     refine c119z ?_
     refine .spl 146 rfl rfl (fun e8 => by exfalso; (simp at e8; omega)) (fun e8 => ?_)
     try simp only [e8]
     have qe8 := fact e8
     refine .m [(2, 146)] ?_
     refine uFcz ?_
     intro e9 qe9
     refine c18z ?_
     refine .spl 184 rfl rfl (fun e10 => by exfalso; (simp at e10; omega)) (fun e10 => ?_)
     try simp only [e10]
     have qe10 := fact e10
     refine .m [(2, 184)] ?_
     refine .F ?_
     refine c119z ?_
     refine .spl 216 rfl rfl (fun e11 => by exfalso; (simp at e11; omega)) (fun e11 => ?_)
     try simp only [e11]
     have qe11 := fact e11
     refine .m [(2, 216)] ?_
     refine .F ?_
     have h3 := l6 h14.2.2 (n := 3) (by omega)
     refine c18z ?_
     refine .spl 235 rfl rfl (fun e12 => by exfalso; (simp at e12; omega)) (fun e12 => ?_)
     try simp only [e12]
     have qe12 := fact e12
     refine .m [(2, 235)] ?_
     refine c241z ?_
     have hr9 := nT hc (ps := f.params) (vars := vs) (I := (c5 c.L J 14).2) (h14.2.2)
     refine c152z ?_
     refine .n ?_
     refine c163z ?_
     refine c9.iJ (β := e.n + 3) (n8 (row 5 ByteArray.empty j9 (r6 c f.params vs (c5 c.L J 14).2).1 [] .nil .nil)) t64 ?_ ?_; exact aF t5 t5 t5 t5 t5
     refine c110z ?_
     have hb1 := fV hc (ps := f.params) fu vs 0 2 (r6 c f.params vs (c5 c.L J 14).2).2 (u6 out all) (l - 1) (by omega) (by omega) hr9.2 (by omega) (by omega) (by omega) hV (hO.fr.mono t83); have hb1l := hb1.ol; have hb1w := hb1.wt; have hb1n := cC (g0 c f.params fu vs 0 2 (r6 c f.params vs (c5 c.L J 14).2).2 (l - 1)).1; have hb1z : (n8 (g0 c f.params fu vs 0 2 (r6 c f.params vs (c5 c.L J 14).2).2 (l - 1)).1).length = (g0 c f.params fu vs 0 2 (r6 c f.params vs (c5 c.L J 14).2).2 (l - 1)).1.len * 11 := by rw [aP]; omega
     refine .s ?_
     refine c28z ?_
     refine .n ?_
     refine c162z ?_
     refine c9.iJ (β := e.n + 3) (n8 (row 6 ByteArray.empty j9 (r6 c f.params vs (c5 c.L J 14).2).1 [] .nil .nil)) t64 ?_ ?_; exact aF t5 t5 t5 t5 t5
     refine c131z ?_
     have hround : o5 c f.params (g0 c f.params fu) vs deep J (l - 1) = (((row 5 ByteArray.empty j9 (r6 c f.params vs (c5 c.L J 14).2).1 [] .nil .nil).app ((g0 c f.params fu vs 0 2 (r6 c f.params vs (c5 c.L J 14).2).2 (l - 1)).1.app (row 6 ByteArray.empty j9 (r6 c f.params vs (c5 c.L J 14).2).1 [] .nil .nil))), vs, (g0 c f.params fu vs 0 2 (r6 c f.params vs (c5 c.L J 14).2).2 (l - 1)).2.1, (g0 c f.params fu vs 0 2 (r6 c f.params vs (c5 c.L J 14).2).2 (l - 1)).2.2) := EK (by omega) (by omega) (fun _ => by first | omega | (rw [‹vs = []›]; rfl)) (by omega) (by omega) (by omega) (by omega) rfl
     obtain ⟨hO2, hl2, hV2⟩ := aR hc hfu hlf hd.1 hO hV (by omega) hround
     have hF1 : eZ c f.params (g0 c f.params fu) (mm - 1 + 1) vs deep out J l = R := by rw [Nat.sub_add_cancel (by omega)]; exact hF
     have hF2 := bV hF1 (by omega) hround
     have hlq := hO2.ol; simp only at hlq
     have hlo : (out.app ((row 5 ByteArray.empty j9 (r6 c f.params vs (c5 c.L J 14).2).1 [] .nil .nil).app ((g0 c f.params fu vs 0 2 (r6 c f.params vs (c5 c.L J 14).2).2 (l - 1)).1.app (row 6 ByteArray.empty j9 (r6 c f.params vs (c5 c.L J 14).2).1 [] .nil .nil)))).len = out.len + 1 + (g0 c f.params fu vs 0 2 (r6 c f.params vs (c5 c.L J 14).2).2 (l - 1)).1.len + 1 := by simp only [Go.Un.Sl.bD, row, Go.Un.Sl.len]; omega
     exact ⟨_, by omega, .v ⟨(mm - 1), (g0 c f.params fu vs 0 2 (r6 c f.params vs (c5 c.L J 14).2).2 (l - 1)).2.1, (g0 c f.params fu vs 0 2 (r6 c f.params vs (c5 c.L J 14).2).2 (l - 1)).2.2, vs, (out.app ((row 5 ByteArray.empty j9 (r6 c f.params vs (c5 c.L J 14).2).1 [] .nil .nil).app ((g0 c f.params fu vs 0 2 (r6 c f.params vs (c5 c.L J 14).2).2 (l - 1)).1.app (row 6 ByteArray.empty j9 (r6 c f.params vs (c5 c.L J 14).2).1 [] .nil .nil)))), (gO (go + 1) (g0 c f.params fu vs 0 2 (r6 c f.params vs (c5 c.L J 14).2).2 (l - 1)).1.len + 1), gv, ⟨rfl, ⟨hO2, hV2, by omega, by omega, hF2⟩⟩, rfl⟩ (he := t70) (hl := t25) (hk := t20) (hs := t6) (hr := t1)⟩
    try simp only [e6]
    have qe6 := fact e6
    refine .m [(2, 122)] ?_
    refine .F ?_
    refine c119z ?_
    refine .spl 146 rfl rfl (fun e13 => ?_) (fun e13 => ?_)
    ·try simp only [e13]
     have qe13 := fact e13
     refine .m [(2, 146)] ?_
     refine .T ?_
     refine c26z ?_
     refine c232z ?_
     refine uFcz ?_
     intro e14 qe14
     refine .sk ?_
     have hnf := l6 h14.2.2 (n := (c.fs.length : Int)) (by omega)
     refine .sg s9 (mkH 20 [0, 1, 3, 7, 15, 0, 32, 96, 224, 0, 512, 1536, 3584, 7680, 15872, 32736, 65535, 131071, 0, 524287] [15, 18, 19] [(18, 0)] [0, 32768, 262144, 294912, 819200] [0, 1, 2, 3, 4, 5, 6, 7, 8, 9, 10, 11, 12, 13, 14, 15, 16, 17]) 1 ?_
     refine s8.w7 t23 ?_
     refine c187z ?_
     refine c160z ?_
     refine c187z ?_
     refine .p 1 ?_
     refine .cm [true] [32768, 0] [_] rfl rfl t123 ?_
     refine .p 1 ?_
     refine .rm [true, false] ?_
     refine .en [true, true] [294912, 262144, 32768, 0] [_, _] ?_
     refine .en [true, false, false, false] [819200, 294912, 262144, 32768, 0] [_] ?_
     refine .po [false, true, false, true, false] ?_
     refine s8.pop [false, false, true, false, true] (by kernel_rfl) t84 ?_
     refine c134z ?_
     refine .po [false, true, true, true, true] ?_
     refine s8.nil rfl ?_
     refine .c7 [0, 2, 3, 6, 11, 12, 13, 15] ?_
     refine c9.iZ s9 (mkP 11 [0, 1, 0, 0, 0, 0, 60, 3, 255, 511, 1023] [6, 8, 10]) [0, 1, 7] (by kernel_rfl) (by kernel_rfl) ?_
     refine dS.p (pd := []) 6 ?_
     refine dS.p5 rfl rfl rfl rfl rfl hb77 (IB (vs := vs) hc hnf.2.2 hL (by omega) f (c.fs.getD (c5 c.L (c5 c.L J 14).2 c.fs.length).1.toNat g9) hp (hc.ps _ (l3 (by omega)))) ?_
     refine dS.p 4 ?_
     refine dS.nil t10 ?_
     refine c170z ?_
     refine c9.iJ (β := e.n + 3) (n8 (row 3 (c.fs.getD (c5 c.L (c5 c.L J 14).2 c.fs.length).1.toNat g9).name j9 l7 (u9 c f.params vs (c.fs.getD (c5 c.L (c5 c.L J 14).2 c.fs.length).1.toNat g9).params (c5 c.L (c5 c.L J 14).2 c.fs.length).2).1 .nil .nil)) t64 ?_ ?_; exact aF t5 t5 t5 t5 t5
     refine c131z ?_
     have hround : o5 c f.params (g0 c f.params fu) vs deep J (l - 1) = ((row 3 (c.fs.getD (c5 c.L (c5 c.L J 14).2 c.fs.length).1.toNat g9).name j9 l7 (u9 c f.params vs (c.fs.getD (c5 c.L (c5 c.L J 14).2 c.fs.length).1.toNat g9).params (c5 c.L (c5 c.L J 14).2 c.fs.length).2).1 .nil .nil), vs, (u9 c f.params vs (c.fs.getD (c5 c.L (c5 c.L J 14).2 c.fs.length).1.toNat g9).params (c5 c.L (c5 c.L J 14).2 c.fs.length).2).2, (l - 1)) := r_call (by omega)
     obtain ⟨hO2, hl2, hV2⟩ := aR hc hfu hlf hd.1 hO hV (by omega) hround
     have hF1 : eZ c f.params (g0 c f.params fu) (mm - 1 + 1) vs deep out J l = R := by rw [Nat.sub_add_cancel (by omega)]; exact hF
     have hF2 := bV hF1 (by omega) hround
     have hlq := hO2.ol; simp only at hlq
     have hlo : (out.app (row 3 (c.fs.getD (c5 c.L (c5 c.L J 14).2 c.fs.length).1.toNat g9).name j9 l7 (u9 c f.params vs (c.fs.getD (c5 c.L (c5 c.L J 14).2 c.fs.length).1.toNat g9).params (c5 c.L (c5 c.L J 14).2 c.fs.length).2).1 .nil .nil)).len = out.len + 1 := by simp only [Go.Un.Sl.bD, row, Go.Un.Sl.len]
     exact ⟨_, by omega, .v ⟨(mm - 1), (u9 c f.params vs (c.fs.getD (c5 c.L (c5 c.L J 14).2 c.fs.length).1.toNat g9).params (c5 c.L (c5 c.L J 14).2 c.fs.length).2).2, (l - 1), vs, (out.app (row 3 (c.fs.getD (c5 c.L (c5 c.L J 14).2 c.fs.length).1.toNat g9).name j9 l7 (u9 c f.params vs (c.fs.getD (c5 c.L (c5 c.L J 14).2 c.fs.length).1.toNat g9).params (c5 c.L (c5 c.L J 14).2 c.fs.length).2).1 .nil .nil)), (go + 1), gv, ⟨rfl, ⟨hO2, hV2, by omega, by omega, hF2⟩⟩, rfl⟩ (he := t42) (hl := t25) (hk := t20) (hs := t6) (hr := t1)⟩
    try simp only [e13]
    have qe13 := fact e13
    refine .m [(2, 146)] ?_
    refine u2z ?_ ?_
    ·intro e15 qe15
     refine c26z ?_
     refine c232z ?_
     refine uTcz ?_
     intro e16 qe16
     refine c1z ?_
     have hnf := l6 h14.2.2 (n := (c.fs.length : Int)) (by omega)
     refine .sg s9 (mkH 20 [0, 1, 3, 7, 15, 0, 32, 96, 224, 0, 512, 1536, 3584, 7680, 15872, 32736, 65535, 131071, 0, 524287] [15, 18, 19] [(18, 0)] [0, 32768, 262144, 294912, 819200] [0, 1, 2, 3, 4, 5, 6, 7, 8, 9, 10, 11, 12, 13, 14, 15, 16, 17]) 1 ?_
     refine s8.w7 t23 ?_
     refine c187z ?_
     refine c160z ?_
     refine c187z ?_
     refine .p 1 ?_
     refine .cm [true] [32768, 0] [_] rfl rfl t123 ?_
     refine .p 1 ?_
     refine .rm [true, false] ?_
     refine .en [true, true] [294912, 262144, 32768, 0] [_, _] ?_
     refine .en [true, false, false, false] [819200, 294912, 262144, 32768, 0] [_] ?_
     refine .po [false, true, false, true, false] ?_
     refine s8.pop [false, false, true, false, true] (by kernel_rfl) t84 ?_
     refine c134z ?_
     refine .po [false, true, true, true, true] ?_
     refine s8.nil rfl ?_
     refine .c7 [0, 2, 3, 6, 11, 12, 13, 15] ?_
     refine c9.iZ s9 (mkP 11 [0, 1, 0, 0, 0, 0, 60, 3, 255, 511, 1023] [6, 8, 10]) [0, 1, 7] (by kernel_rfl) (by kernel_rfl) ?_
     refine dS.p (pd := []) 6 ?_
     refine dS.p5 rfl rfl rfl rfl rfl hb77 (IB (vs := vs) hc hnf.2.2 hL (by omega) f (c.fs.getD (c5 c.L (c5 c.L J 14).2 c.fs.length).1.toNat g9) hp (hc.ps _ (l3 (by omega)))) ?_
     refine dS.p 4 ?_
     refine dS.nil t10 ?_
     refine c170z ?_
     refine c9.iJ (β := e.n + 3) (n8 (row 4 (c.fs.getD (c5 c.L (c5 c.L J 14).2 c.fs.length).1.toNat g9).name j9 l7 (u9 c f.params vs (c.fs.getD (c5 c.L (c5 c.L J 14).2 c.fs.length).1.toNat g9).params (c5 c.L (c5 c.L J 14).2 c.fs.length).2).1 .nil .nil)) t64 ?_ ?_; exact aF t5 t5 t5 t5 t5
     refine c131z ?_
     have hround : o5 c f.params (g0 c f.params fu) vs deep J (l - 1) = ((row 4 (c.fs.getD (c5 c.L (c5 c.L J 14).2 c.fs.length).1.toNat g9).name j9 l7 (u9 c f.params vs (c.fs.getD (c5 c.L (c5 c.L J 14).2 c.fs.length).1.toNat g9).params (c5 c.L (c5 c.L J 14).2 c.fs.length).2).1 .nil .nil), vs, (u9 c f.params vs (c.fs.getD (c5 c.L (c5 c.L J 14).2 c.fs.length).1.toNat g9).params (c5 c.L (c5 c.L J 14).2 c.fs.length).2).2, (l - 1)) := r_go (by omega)
     obtain ⟨hO2, hl2, hV2⟩ := aR hc hfu hlf hd.1 hO hV (by omega) hround
     have hF1 : eZ c f.params (g0 c f.params fu) (mm - 1 + 1) vs deep out J l = R := by rw [Nat.sub_add_cancel (by omega)]; exact hF
     have hF2 := bV hF1 (by omega) hround
     have hlq := hO2.ol; simp only at hlq
     have hlo : (out.app (row 4 (c.fs.getD (c5 c.L (c5 c.L J 14).2 c.fs.length).1.toNat g9).name j9 l7 (u9 c f.params vs (c.fs.getD (c5 c.L (c5 c.L J 14).2 c.fs.length).1.toNat g9).params (c5 c.L (c5 c.L J 14).2 c.fs.length).2).1 .nil .nil)).len = out.len + 1 := by simp only [Go.Un.Sl.bD, row, Go.Un.Sl.len]
     exact ⟨_, by omega, .v ⟨(mm - 1), (u9 c f.params vs (c.fs.getD (c5 c.L (c5 c.L J 14).2 c.fs.length).1.toNat g9).params (c5 c.L (c5 c.L J 14).2 c.fs.length).2).2, (l - 1), vs, (out.app (row 4 (c.fs.getD (c5 c.L (c5 c.L J 14).2 c.fs.length).1.toNat g9).name j9 l7 (u9 c f.params vs (c.fs.getD (c5 c.L (c5 c.L J 14).2 c.fs.length).1.toNat g9).params (c5 c.L (c5 c.L J 14).2 c.fs.length).2).1 .nil .nil)), (go + 1), gv, ⟨rfl, ⟨hO2, hV2, by omega, by omega, hF2⟩⟩, rfl⟩ (he := t42) (hl := t25) (hk := t20) (hs := t6) (hr := t1)⟩
    intro e15 qe15
    refine c18z ?_
    refine .spl 184 rfl rfl (fun e17 => ?_) (fun e17 => ?_)
    ·try simp only [e17]
     have qe17 := fact e17
     refine .m [(2, 184)] ?_
     refine u2z ?_ ?_
     ·intro e18 qe18
      refine .c7 [0, 2, 3, 6, 11, 12, 13] ?_
      have he := gT (c := c) (vars := vs) h14.2.2
      have hb1 := fV hc (ps := f.params) fu vs (deep - 1) 3 (g8 c vs (c5 c.L J 14).2).2 (u6 out all) (l - 1) (by omega) (by omega) he.2 (by omega) (by omega) (by omega) hV (hO.fr.mono t83); have hb1l := hb1.ol; have hb1w := hb1.wt
      have hn2 := l6 hb1.oi (n := 2) (by omega)
      refine .sm s9 (mkP 15 [0, 0, 3, 0, 0, 0, 0, 64, 255, 0, 1023, 2047, 4095, 8191, 16383] [2, 8, 10, 12, 14]) [3, 4, 5, 6, 7, 9] ?_
      refine dS.p (pd := []) 2 ?_
      refine dS.p5 rfl rfl rfl rfl rfl ZN (lY (vs := vs) hc h14.2.2 hL (by omega)) ?_
      refine dS.p 5 ?_
      refine dS.p5 rfl rfl rfl rfl rfl hb48 (E4.V (vs := vs) ih (l - 1) (u6 out all) (deep - 1) 3 he.2 (by omega) (by omega) (by omega) (by omega) (by omega) (by omega) hV (hO.fr.mono (by simp only; omega)) (by omega)) ?_
      refine dS.p 6 ?_
      refine dS.nil t10 ?_
      refine .c7 [0, 2, 3, 6, 11, 12, 13] ?_
      refine c31z ?_
      refine .ch rfl rfl (eK _ _ 2 hb1.oi hL (by omega) (by omega)) ?_
      refine .n ?_
      refine u2z ?_ ?_
      ·intro e19 qe19
       refine .r ?_
       refine .e 5 ?_
       refine .ch rfl rfl (E4.V (vs := vs) ih _ (u6 out all) (deep - 1) 3 hn2.2.2 hb1.ol.1 (by omega) (by omega) (by omega) (by omega) (by omega) hV (hO.fr.mono (by simp only; omega)) (by omega)) ?_
       refine c25z ?_
       refine .c7 [0, 2, 3, 6, 11, 12, 13] ?_
       refine c9.iJ (β := e.n + 3) (n8 (row 7 ByteArray.empty (g8 c vs (c5 c.L J 14).2).1 l7 [] (g0 c f.params fu vs (deep - 1) 3 (g8 c vs (c5 c.L J 14).2).2 (l - 1)).1 (g0 c f.params fu vs (deep - 1) 3 (c5 c.L (g0 c f.params fu vs (deep - 1) 3 (g8 c vs (c5 c.L J 14).2).2 (l - 1)).2.1 2).2 (g0 c f.params fu vs (deep - 1) 3 (g8 c vs (c5 c.L J 14).2).2 (l - 1)).2.2).1)) t64 ?_ ?_; exact aF t5 t5 t5 t5 t5
       refine c131z ?_
       have hround : o5 c f.params (g0 c f.params fu) vs deep J (l - 1) = ((row 7 ByteArray.empty (g8 c vs (c5 c.L J 14).2).1 l7 [] (g0 c f.params fu vs (deep - 1) 3 (g8 c vs (c5 c.L J 14).2).2 (l - 1)).1 (g0 c f.params fu vs (deep - 1) 3 (c5 c.L (g0 c f.params fu vs (deep - 1) 3 (g8 c vs (c5 c.L J 14).2).2 (l - 1)).2.1 2).2 (g0 c f.params fu vs (deep - 1) 3 (g8 c vs (c5 c.L J 14).2).2 (l - 1)).2.2).1), vs, (g0 c f.params fu vs (deep - 1) 3 (c5 c.L (g0 c f.params fu vs (deep - 1) 3 (g8 c vs (c5 c.L J 14).2).2 (l - 1)).2.1 2).2 (g0 c f.params fu vs (deep - 1) 3 (g8 c vs (c5 c.L J 14).2).2 (l - 1)).2.2).2.1, (g0 c f.params fu vs (deep - 1) 3 (c5 c.L (g0 c f.params fu vs (deep - 1) 3 (g8 c vs (c5 c.L J 14).2).2 (l - 1)).2.1 2).2 (g0 c f.params fu vs (deep - 1) 3 (g8 c vs (c5 c.L J 14).2).2 (l - 1)).2.2).2.2) := r_if (by omega) (by omega) rfl (by omega) rfl
       obtain ⟨hO2, hl2, hV2⟩ := aR hc hfu hlf hd.1 hO hV (by omega) hround
       have hF1 : eZ c f.params (g0 c f.params fu) (mm - 1 + 1) vs deep out J l = R := by rw [Nat.sub_add_cancel (by omega)]; exact hF
       have hF2 := bV hF1 (by omega) hround
       have hlq := hO2.ol; simp only at hlq
       have hlo : (out.app (row 7 ByteArray.empty (g8 c vs (c5 c.L J 14).2).1 l7 [] (g0 c f.params fu vs (deep - 1) 3 (g8 c vs (c5 c.L J 14).2).2 (l - 1)).1 (g0 c f.params fu vs (deep - 1) 3 (c5 c.L (g0 c f.params fu vs (deep - 1) 3 (g8 c vs (c5 c.L J 14).2).2 (l - 1)).2.1 2).2 (g0 c f.params fu vs (deep - 1) 3 (g8 c vs (c5 c.L J 14).2).2 (l - 1)).2.2).1)).len = out.len + 1 := by simp only [Go.Un.Sl.bD, row, Go.Un.Sl.len]
       exact ⟨_, by omega, .v ⟨(mm - 1), (g0 c f.params fu vs (deep - 1) 3 (c5 c.L (g0 c f.params fu vs (deep - 1) 3 (g8 c vs (c5 c.L J 14).2).2 (l - 1)).2.1 2).2 (g0 c f.params fu vs (deep - 1) 3 (g8 c vs (c5 c.L J 14).2).2 (l - 1)).2.2).2.1, (g0 c f.params fu vs (deep - 1) 3 (c5 c.L (g0 c f.params fu vs (deep - 1) 3 (g8 c vs (c5 c.L J 14).2).2 (l - 1)).2.1 2).2 (g0 c f.params fu vs (deep - 1) 3 (g8 c vs (c5 c.L J 14).2).2 (l - 1)).2.2).2.2, vs, (out.app (row 7 ByteArray.empty (g8 c vs (c5 c.L J 14).2).1 l7 [] (g0 c f.params fu vs (deep - 1) 3 (g8 c vs (c5 c.L J 14).2).2 (l - 1)).1 (g0 c f.params fu vs (deep - 1) 3 (c5 c.L (g0 c f.params fu vs (deep - 1) 3 (g8 c vs (c5 c.L J 14).2).2 (l - 1)).2.1 2).2 (g0 c f.params fu vs (deep - 1) 3 (g8 c vs (c5 c.L J 14).2).2 (l - 1)).2.2).1)), (go + 1), gv, ⟨rfl, ⟨hO2, hV2, by omega, by omega, hF2⟩⟩, rfl⟩ (he := t42) (hl := t25) (hk := t20) (hs := t6) (hr := t1)⟩
      intro e19 qe19
      refine c5z ?_
      refine c9.iJ (β := e.n + 3) (n8 (row 7 ByteArray.empty (g8 c vs (c5 c.L J 14).2).1 l7 [] (g0 c f.params fu vs (deep - 1) 3 (g8 c vs (c5 c.L J 14).2).2 (l - 1)).1 .nil)) t64 ?_ ?_; exact aF t5 t5 t5 t5 t5
      refine c12z ?_
      refine .c7 [0, 2, 3, 6, 11, 12] ?_
      refine .rz ?_
      have hround : o5 c f.params (g0 c f.params fu) vs deep J (l - 1) = ((row 7 ByteArray.empty (g8 c vs (c5 c.L J 14).2).1 l7 [] (g0 c f.params fu vs (deep - 1) 3 (g8 c vs (c5 c.L J 14).2).2 (l - 1)).1 .nil), vs, (c5 c.L (g0 c f.params fu vs (deep - 1) 3 (g8 c vs (c5 c.L J 14).2).2 (l - 1)).2.1 2).2, (g0 c f.params fu vs (deep - 1) 3 (g8 c vs (c5 c.L J 14).2).2 (l - 1)).2.2) := r_if2 (by omega) (by omega) rfl (by omega)
      obtain ⟨hO2, hl2, hV2⟩ := aR hc hfu hlf hd.1 hO hV (by omega) hround
      have hF1 : eZ c f.params (g0 c f.params fu) (mm - 1 + 1) vs deep out J l = R := by rw [Nat.sub_add_cancel (by omega)]; exact hF
      have hF2 := bV hF1 (by omega) hround
      have hlq := hO2.ol; simp only at hlq
      have hlo : (out.app (row 7 ByteArray.empty (g8 c vs (c5 c.L J 14).2).1 l7 [] (g0 c f.params fu vs (deep - 1) 3 (g8 c vs (c5 c.L J 14).2).2 (l - 1)).1 .nil)).len = out.len + 1 := by simp only [Go.Un.Sl.bD, row, Go.Un.Sl.len]
      exact ⟨_, by omega, .v ⟨(mm - 1), (c5 c.L (g0 c f.params fu vs (deep - 1) 3 (g8 c vs (c5 c.L J 14).2).2 (l - 1)).2.1 2).2, (g0 c f.params fu vs (deep - 1) 3 (g8 c vs (c5 c.L J 14).2).2 (l - 1)).2.2, vs, (out.app (row 7 ByteArray.empty (g8 c vs (c5 c.L J 14).2).1 l7 [] (g0 c f.params fu vs (deep - 1) 3 (g8 c vs (c5 c.L J 14).2).2 (l - 1)).1 .nil)), (go + 1), gv, ⟨rfl, ⟨hO2, hV2, by omega, by omega, hF2⟩⟩, rfl⟩ (he := t42) (hl := t25) (hk := t20) (hs := t6) (hr := t1)⟩
     intro e18 qe18
     refine c119z ?_
     refine .spl 216 rfl rfl (fun e20 => by exfalso; (simp at e20; omega)) (fun e20 => ?_)
     try simp only [e20]
     have qe20 := fact e20
     refine .m [(2, 216)] ?_
     refine .F ?_
     have h3 := l6 h14.2.2 (n := 3) (by omega)
     refine c18z ?_
     refine .spl 235 rfl rfl (fun e21 => by exfalso; (simp at e21; omega)) (fun e21 => ?_)
     try simp only [e21]
     have qe21 := fact e21
     refine .m [(2, 235)] ?_
     refine c241z ?_
     have hr9 := nT hc (ps := f.params) (vars := vs) (I := (c5 c.L J 14).2) (h14.2.2)
     refine c152z ?_
     refine .n ?_
     refine c163z ?_
     refine c9.iJ (β := e.n + 3) (n8 (row 5 ByteArray.empty j9 (r6 c f.params vs (c5 c.L J 14).2).1 [] .nil .nil)) t64 ?_ ?_; exact aF t5 t5 t5 t5 t5
     refine c110z ?_
     have hb1 := fV hc (ps := f.params) fu vs 0 2 (r6 c f.params vs (c5 c.L J 14).2).2 (u6 out all) (l - 1) (by omega) (by omega) hr9.2 (by omega) (by omega) (by omega) hV (hO.fr.mono t83); have hb1l := hb1.ol; have hb1w := hb1.wt; have hb1n := cC (g0 c f.params fu vs 0 2 (r6 c f.params vs (c5 c.L J 14).2).2 (l - 1)).1; have hb1z : (n8 (g0 c f.params fu vs 0 2 (r6 c f.params vs (c5 c.L J 14).2).2 (l - 1)).1).length = (g0 c f.params fu vs 0 2 (r6 c f.params vs (c5 c.L J 14).2).2 (l - 1)).1.len * 11 := by rw [aP]; omega
     refine .s ?_
     refine c28z ?_
     refine .n ?_
     refine c162z ?_
     refine c9.iJ (β := e.n + 3) (n8 (row 6 ByteArray.empty j9 (r6 c f.params vs (c5 c.L J 14).2).1 [] .nil .nil)) t64 ?_ ?_; exact aF t5 t5 t5 t5 t5
     refine c131z ?_
     have hround : o5 c f.params (g0 c f.params fu) vs deep J (l - 1) = (((row 5 ByteArray.empty j9 (r6 c f.params vs (c5 c.L J 14).2).1 [] .nil .nil).app ((g0 c f.params fu vs 0 2 (r6 c f.params vs (c5 c.L J 14).2).2 (l - 1)).1.app (row 6 ByteArray.empty j9 (r6 c f.params vs (c5 c.L J 14).2).1 [] .nil .nil))), vs, (g0 c f.params fu vs 0 2 (r6 c f.params vs (c5 c.L J 14).2).2 (l - 1)).2.1, (g0 c f.params fu vs 0 2 (r6 c f.params vs (c5 c.L J 14).2).2 (l - 1)).2.2) := EK (by omega) (by omega) (fun _ => by first | omega | (rw [‹vs = []›]; rfl)) (by omega) (by omega) (by omega) (by omega) rfl
     obtain ⟨hO2, hl2, hV2⟩ := aR hc hfu hlf hd.1 hO hV (by omega) hround
     have hF1 : eZ c f.params (g0 c f.params fu) (mm - 1 + 1) vs deep out J l = R := by rw [Nat.sub_add_cancel (by omega)]; exact hF
     have hF2 := bV hF1 (by omega) hround
     have hlq := hO2.ol; simp only at hlq
     have hlo : (out.app ((row 5 ByteArray.empty j9 (r6 c f.params vs (c5 c.L J 14).2).1 [] .nil .nil).app ((g0 c f.params fu vs 0 2 (r6 c f.params vs (c5 c.L J 14).2).2 (l - 1)).1.app (row 6 ByteArray.empty j9 (r6 c f.params vs (c5 c.L J 14).2).1 [] .nil .nil)))).len = out.len + 1 + (g0 c f.params fu vs 0 2 (r6 c f.params vs (c5 c.L J 14).2).2 (l - 1)).1.len + 1 := by simp only [Go.Un.Sl.bD, row, Go.Un.Sl.len]; omega
     exact ⟨_, by omega, .v ⟨(mm - 1), (g0 c f.params fu vs 0 2 (r6 c f.params vs (c5 c.L J 14).2).2 (l - 1)).2.1, (g0 c f.params fu vs 0 2 (r6 c f.params vs (c5 c.L J 14).2).2 (l - 1)).2.2, vs, (out.app ((row 5 ByteArray.empty j9 (r6 c f.params vs (c5 c.L J 14).2).1 [] .nil .nil).app ((g0 c f.params fu vs 0 2 (r6 c f.params vs (c5 c.L J 14).2).2 (l - 1)).1.app (row 6 ByteArray.empty j9 (r6 c f.params vs (c5 c.L J 14).2).1 [] .nil .nil)))), (gO (go + 1) (g0 c f.params fu vs 0 2 (r6 c f.params vs (c5 c.L J 14).2).2 (l - 1)).1.len + 1), gv, ⟨rfl, ⟨hO2, hV2, by omega, by omega, hF2⟩⟩, rfl⟩ (he := t70) (hl := t25) (hk := t20) (hs := t6) (hr := t1)⟩
    try simp only [e17]
    have qe17 := fact e17
    refine .m [(2, 184)] ?_
    refine .F ?_
    refine c119z ?_
    refine .spl 216 rfl rfl (fun e22 => ?_) (fun e22 => ?_)
    ·try simp only [e22]
     have qe22 := fact e22
     refine .m [(2, 216)] ?_
     refine u2z ?_ ?_
     ·intro e23 qe23
      refine .c7 [0, 2, 3, 6, 11, 12, 13] ?_
      have he := gT (c := c) (vars := vs) h14.2.2
      have hb1 := fV hc (ps := f.params) fu vs (deep - 1) 3 (g8 c vs (c5 c.L J 14).2).2 (u6 out all) (l - 1) (by omega) (by omega) he.2 (by omega) (by omega) (by omega) hV (hO.fr.mono t83); have hb1l := hb1.ol; have hb1w := hb1.wt
      refine c9.iZ s9 (mkP 15 [0, 0, 3, 0, 0, 0, 0, 64, 255, 0, 1023, 2047, 4095, 8191, 16383] [2, 8, 10, 12, 14]) [3, 4, 5, 6, 7, 9] (by kernel_rfl) (by kernel_rfl) ?_
      refine dS.p (pd := []) 2 ?_
      refine dS.p5 rfl rfl rfl rfl rfl ZN (lY (vs := vs) hc h14.2.2 hL (by omega)) ?_
      refine dS.p 5 ?_
      refine dS.p5 rfl rfl rfl rfl rfl hb48 (E4.V (vs := vs) ih (l - 1) (u6 out all) (deep - 1) 3 he.2 (by omega) (by omega) (by omega) (by omega) (by omega) (by omega) hV (hO.fr.mono (by simp only; omega)) (by omega)) ?_
      refine dS.p 6 ?_
      refine dS.nil t10 ?_
      refine c170z ?_
      refine c9.iJ (β := e.n + 3) (n8 (row 8 ByteArray.empty (g8 c vs (c5 c.L J 14).2).1 l7 [] (g0 c f.params fu vs (deep - 1) 3 (g8 c vs (c5 c.L J 14).2).2 (l - 1)).1 .nil)) t64 ?_ ?_; exact aF t5 t5 t5 t5 t5
      refine c131z ?_
      have hround : o5 c f.params (g0 c f.params fu) vs deep J (l - 1) = ((row 8 ByteArray.empty (g8 c vs (c5 c.L J 14).2).1 l7 [] (g0 c f.params fu vs (deep - 1) 3 (g8 c vs (c5 c.L J 14).2).2 (l - 1)).1 .nil), vs, (g0 c f.params fu vs (deep - 1) 3 (g8 c vs (c5 c.L J 14).2).2 (l - 1)).2.1, (g0 c f.params fu vs (deep - 1) 3 (g8 c vs (c5 c.L J 14).2).2 (l - 1)).2.2) := r_while (by omega) (by omega) rfl
      obtain ⟨hO2, hl2, hV2⟩ := aR hc hfu hlf hd.1 hO hV (by omega) hround
      have hF1 : eZ c f.params (g0 c f.params fu) (mm - 1 + 1) vs deep out J l = R := by rw [Nat.sub_add_cancel (by omega)]; exact hF
      have hF2 := bV hF1 (by omega) hround
      have hlq := hO2.ol; simp only at hlq
      have hlo : (out.app (row 8 ByteArray.empty (g8 c vs (c5 c.L J 14).2).1 l7 [] (g0 c f.params fu vs (deep - 1) 3 (g8 c vs (c5 c.L J 14).2).2 (l - 1)).1 .nil)).len = out.len + 1 := by simp only [Go.Un.Sl.bD, row, Go.Un.Sl.len]
      exact ⟨_, by omega, .v ⟨(mm - 1), (g0 c f.params fu vs (deep - 1) 3 (g8 c vs (c5 c.L J 14).2).2 (l - 1)).2.1, (g0 c f.params fu vs (deep - 1) 3 (g8 c vs (c5 c.L J 14).2).2 (l - 1)).2.2, vs, (out.app (row 8 ByteArray.empty (g8 c vs (c5 c.L J 14).2).1 l7 [] (g0 c f.params fu vs (deep - 1) 3 (g8 c vs (c5 c.L J 14).2).2 (l - 1)).1 .nil)), (go + 1), gv, ⟨rfl, ⟨hO2, hV2, by omega, by omega, hF2⟩⟩, rfl⟩ (he := t42) (hl := t25) (hk := t20) (hs := t6) (hr := t1)⟩
     intro e23 qe23
     have h3 := l6 h14.2.2 (n := 3) (by omega)
     refine c18z ?_
     refine .spl 235 rfl rfl (fun e24 => by exfalso; (simp at e24; omega)) (fun e24 => ?_)
     try simp only [e24]
     have qe24 := fact e24
     refine .m [(2, 235)] ?_
     refine c241z ?_
     have hr9 := nT hc (ps := f.params) (vars := vs) (I := (c5 c.L J 14).2) (h14.2.2)
     refine c152z ?_
     refine .n ?_
     refine c163z ?_
     refine c9.iJ (β := e.n + 3) (n8 (row 5 ByteArray.empty j9 (r6 c f.params vs (c5 c.L J 14).2).1 [] .nil .nil)) t64 ?_ ?_; exact aF t5 t5 t5 t5 t5
     refine c110z ?_
     have hb1 := fV hc (ps := f.params) fu vs 0 2 (r6 c f.params vs (c5 c.L J 14).2).2 (u6 out all) (l - 1) (by omega) (by omega) hr9.2 (by omega) (by omega) (by omega) hV (hO.fr.mono t83); have hb1l := hb1.ol; have hb1w := hb1.wt; have hb1n := cC (g0 c f.params fu vs 0 2 (r6 c f.params vs (c5 c.L J 14).2).2 (l - 1)).1; have hb1z : (n8 (g0 c f.params fu vs 0 2 (r6 c f.params vs (c5 c.L J 14).2).2 (l - 1)).1).length = (g0 c f.params fu vs 0 2 (r6 c f.params vs (c5 c.L J 14).2).2 (l - 1)).1.len * 11 := by rw [aP]; omega
     refine .s ?_
     refine c28z ?_
     refine .n ?_
     refine c162z ?_
     refine c9.iJ (β := e.n + 3) (n8 (row 6 ByteArray.empty j9 (r6 c f.params vs (c5 c.L J 14).2).1 [] .nil .nil)) t64 ?_ ?_; exact aF t5 t5 t5 t5 t5
     refine c131z ?_
     have hround : o5 c f.params (g0 c f.params fu) vs deep J (l - 1) = (((row 5 ByteArray.empty j9 (r6 c f.params vs (c5 c.L J 14).2).1 [] .nil .nil).app ((g0 c f.params fu vs 0 2 (r6 c f.params vs (c5 c.L J 14).2).2 (l - 1)).1.app (row 6 ByteArray.empty j9 (r6 c f.params vs (c5 c.L J 14).2).1 [] .nil .nil))), vs, (g0 c f.params fu vs 0 2 (r6 c f.params vs (c5 c.L J 14).2).2 (l - 1)).2.1, (g0 c f.params fu vs 0 2 (r6 c f.params vs (c5 c.L J 14).2).2 (l - 1)).2.2) := EK (by omega) (by omega) (fun _ => by first | omega | (rw [‹vs = []›]; rfl)) (by omega) (by omega) (by omega) (by omega) rfl
     obtain ⟨hO2, hl2, hV2⟩ := aR hc hfu hlf hd.1 hO hV (by omega) hround
     have hF1 : eZ c f.params (g0 c f.params fu) (mm - 1 + 1) vs deep out J l = R := by rw [Nat.sub_add_cancel (by omega)]; exact hF
     have hF2 := bV hF1 (by omega) hround
     have hlq := hO2.ol; simp only at hlq
     have hlo : (out.app ((row 5 ByteArray.empty j9 (r6 c f.params vs (c5 c.L J 14).2).1 [] .nil .nil).app ((g0 c f.params fu vs 0 2 (r6 c f.params vs (c5 c.L J 14).2).2 (l - 1)).1.app (row 6 ByteArray.empty j9 (r6 c f.params vs (c5 c.L J 14).2).1 [] .nil .nil)))).len = out.len + 1 + (g0 c f.params fu vs 0 2 (r6 c f.params vs (c5 c.L J 14).2).2 (l - 1)).1.len + 1 := by simp only [Go.Un.Sl.bD, row, Go.Un.Sl.len]; omega
     exact ⟨_, by omega, .v ⟨(mm - 1), (g0 c f.params fu vs 0 2 (r6 c f.params vs (c5 c.L J 14).2).2 (l - 1)).2.1, (g0 c f.params fu vs 0 2 (r6 c f.params vs (c5 c.L J 14).2).2 (l - 1)).2.2, vs, (out.app ((row 5 ByteArray.empty j9 (r6 c f.params vs (c5 c.L J 14).2).1 [] .nil .nil).app ((g0 c f.params fu vs 0 2 (r6 c f.params vs (c5 c.L J 14).2).2 (l - 1)).1.app (row 6 ByteArray.empty j9 (r6 c f.params vs (c5 c.L J 14).2).1 [] .nil .nil)))), (gO (go + 1) (g0 c f.params fu vs 0 2 (r6 c f.params vs (c5 c.L J 14).2).2 (l - 1)).1.len + 1), gv, ⟨rfl, ⟨hO2, hV2, by omega, by omega, hF2⟩⟩, rfl⟩ (he := t70) (hl := t25) (hk := t20) (hs := t6) (hr := t1)⟩
    try simp only [e22]
    have qe22 := fact e22
    refine .m [(2, 216)] ?_
    refine .F ?_
    have h3 := l6 h14.2.2 (n := 3) (by omega)
    refine c18z ?_
    refine .spl 235 rfl rfl (fun e25 => ?_) (fun e25 => by exfalso; (simp at e25; omega))
    try simp only [e25]
    have qe25 := fact e25
    refine .k 4 [(2, 235)] ?_
    refine .ch rfl rfl (eK _ _ 3 h14.2.2 hL (by omega) (by omega)) ?_
    refine .m [(2, 235)] ?_
    refine u2z ?_ ?_
    ·intro e26 qe26
     refine .c7 [0, 2, 3, 6, 11, 12, 13] ?_
     refine c1z ?_
     refine c9.iJ (β := e.n + 3) (n8 (row 9 ByteArray.empty j9 l7 [] .nil .nil)) t64 ?_ ?_; exact aF t5 t5 t5 t5 t5
     refine c131z ?_
     have hround : o5 c f.params (g0 c f.params fu) vs deep J (l - 1) = ((row 9 ByteArray.empty j9 l7 [] .nil .nil), vs, (c5 c.L (c5 c.L J 14).2 3).2, (l - 1)) := r_ret (by omega) (by omega)
     obtain ⟨hO2, hl2, hV2⟩ := aR hc hfu hlf hd.1 hO hV (by omega) hround
     have hF1 : eZ c f.params (g0 c f.params fu) (mm - 1 + 1) vs deep out J l = R := by rw [Nat.sub_add_cancel (by omega)]; exact hF
     have hF2 := bV hF1 (by omega) hround
     have hlq := hO2.ol; simp only at hlq
     have hlo : (out.app (row 9 ByteArray.empty j9 l7 [] .nil .nil)).len = out.len + 1 := by simp only [Go.Un.Sl.bD, row, Go.Un.Sl.len]
     exact ⟨_, by omega, .v ⟨(mm - 1), (c5 c.L (c5 c.L J 14).2 3).2, (l - 1), vs, (out.app (row 9 ByteArray.empty j9 l7 [] .nil .nil)), (go + 1), gv, ⟨rfl, ⟨hO2, hV2, by omega, by omega, hF2⟩⟩, rfl⟩ (he := t42) (hl := t25) (hk := t20) (hs := t6) (hr := t1)⟩
    intro e26 qe26
    refine .c7 [0, 2, 3, 6, 11, 12, 13] ?_
    have hr9 := nT hc (ps := f.params) (vars := vs) (I := (c5 c.L (c5 c.L J 14).2 3).2) (h3.2.2)
    refine c18z ?_
    refine .ch rfl rfl (U1 (vs := vs) hc h3.2.2 hL (by omega) f hp) ?_
    refine .n ?_
    refine c163z ?_
    refine c9.iJ (β := e.n + 3) (n8 (row 5 ByteArray.empty j9 (r6 c f.params vs (c5 c.L (c5 c.L J 14).2 3).2).1 [] .nil .nil)) t64 ?_ ?_; exact aF t5 t5 t5 t5 t5
    refine c110z ?_
    have hb1 := fV hc (ps := f.params) fu vs 0 2 (r6 c f.params vs (c5 c.L (c5 c.L J 14).2 3).2).2 (u6 out all) (l - 1) (by omega) (by omega) hr9.2 (by omega) (by omega) (by omega) hV (hO.fr.mono t83); have hb1l := hb1.ol; have hb1w := hb1.wt; have hb1n := cC (g0 c f.params fu vs 0 2 (r6 c f.params vs (c5 c.L (c5 c.L J 14).2 3).2).2 (l - 1)).1; have hb1z : (n8 (g0 c f.params fu vs 0 2 (r6 c f.params vs (c5 c.L (c5 c.L J 14).2 3).2).2 (l - 1)).1).length = (g0 c f.params fu vs 0 2 (r6 c f.params vs (c5 c.L (c5 c.L J 14).2 3).2).2 (l - 1)).1.len * 11 := by rw [aP]; omega
    refine .s ?_
    refine c28z ?_
    refine .n ?_
    refine c162z ?_
    refine c9.iJ (β := e.n + 3) (n8 (row 6 ByteArray.empty j9 (r6 c f.params vs (c5 c.L (c5 c.L J 14).2 3).2).1 [] .nil .nil)) t64 ?_ ?_; exact aF t5 t5 t5 t5 t5
    refine c131z ?_
    have hround : o5 c f.params (g0 c f.params fu) vs deep J (l - 1) = (((row 5 ByteArray.empty j9 (r6 c f.params vs (c5 c.L (c5 c.L J 14).2 3).2).1 [] .nil .nil).app ((g0 c f.params fu vs 0 2 (r6 c f.params vs (c5 c.L (c5 c.L J 14).2 3).2).2 (l - 1)).1.app (row 6 ByteArray.empty j9 (r6 c f.params vs (c5 c.L (c5 c.L J 14).2 3).2).1 [] .nil .nil))), vs, (g0 c f.params fu vs 0 2 (r6 c f.params vs (c5 c.L (c5 c.L J 14).2 3).2).2 (l - 1)).2.1, (g0 c f.params fu vs 0 2 (r6 c f.params vs (c5 c.L (c5 c.L J 14).2 3).2).2 (l - 1)).2.2) := MC (by omega) (by omega) rfl
    obtain ⟨hO2, hl2, hV2⟩ := aR hc hfu hlf hd.1 hO hV (by omega) hround
    have hF1 : eZ c f.params (g0 c f.params fu) (mm - 1 + 1) vs deep out J l = R := by rw [Nat.sub_add_cancel (by omega)]; exact hF
    have hF2 := bV hF1 (by omega) hround
    have hlq := hO2.ol; simp only at hlq
    have hlo : (out.app ((row 5 ByteArray.empty j9 (r6 c f.params vs (c5 c.L (c5 c.L J 14).2 3).2).1 [] .nil .nil).app ((g0 c f.params fu vs 0 2 (r6 c f.params vs (c5 c.L (c5 c.L J 14).2 3).2).2 (l - 1)).1.app (row 6 ByteArray.empty j9 (r6 c f.params vs (c5 c.L (c5 c.L J 14).2 3).2).1 [] .nil .nil)))).len = out.len + 1 + (g0 c f.params fu vs 0 2 (r6 c f.params vs (c5 c.L (c5 c.L J 14).2 3).2).2 (l - 1)).1.len + 1 := by simp only [Go.Un.Sl.bD, row, Go.Un.Sl.len]; omega
    exact ⟨_, by omega, .v ⟨(mm - 1), (g0 c f.params fu vs 0 2 (r6 c f.params vs (c5 c.L (c5 c.L J 14).2 3).2).2 (l - 1)).2.1, (g0 c f.params fu vs 0 2 (r6 c f.params vs (c5 c.L (c5 c.L J 14).2 3).2).2 (l - 1)).2.2, vs, (out.app ((row 5 ByteArray.empty j9 (r6 c f.params vs (c5 c.L (c5 c.L J 14).2 3).2).1 [] .nil .nil).app ((g0 c f.params fu vs 0 2 (r6 c f.params vs (c5 c.L (c5 c.L J 14).2 3).2).2 (l - 1)).1.app (row 6 ByteArray.empty j9 (r6 c f.params vs (c5 c.L (c5 c.L J 14).2 3).2).1 [] .nil .nil)))), (gO (go + 1) (g0 c f.params fu vs 0 2 (r6 c f.params vs (c5 c.L (c5 c.L J 14).2 3).2).2 (l - 1)).1.len + 1), gv, ⟨rfl, ⟨hO2, hV2, by omega, by omega, hF2⟩⟩, rfl⟩ (he := t70) (hl := t25) (hk := t20) (hs := t6) (hr := t1)⟩
   intro e2 qe2
   refine c9z ?_
   refine .c7 [11] ?_
   refine c32z ?_
   exact ⟨hB _ _ _ _, _, .vec out.len (n8 out), rfl, t68, fA, t113, by rw [Q5 hF (by omega)]; exact ⟨rfl, rfl⟩⟩
  try simp only [e1]
  have qe1 := fact e1
  refine .m [(2, 29)] ?_
  refine .F ?_
  refine c9z ?_
  refine .c7 [11] ?_
  refine c32z ?_
  exact ⟨hB _ _ _ _, _, .vec out.len (n8 out), rfl, t68, fA, t113, by rw [Q5 hF (by omega)]; exact ⟨rfl, rfl⟩⟩
theorem ID {c : Core} (hc : OkC c) (hL : c.L.length < 4611686018427387904) (f : Fu) (hp : f.params.length ≤ 2) : ∀ (n fu : Nat) (left : Int), fu ≤ 24 → left.toNat ≤ n → 0 ≤ left → left ≤ fu → E4 c f fu (left + 1)
  | n, fu, left, h24, hn, h0, hf => by
    intro I l' vs all d m hI a1 a2 a3 a4 a5 a6 a7 a8 a9
    cases fu with
    | zero =>
      have e0 : g0 c f.params 0 vs d m I l' = g0 c f.params 1 vs d m I l' := by
        obtain rfl : l' = 0 := by omega
        rw [g0, g0]
        cases (c5 c.L I (m + 1)).1.toNat with
        | zero => rfl
        | succ k => rw [eZ, if_pos (Int.le_refl _)]
      rw [e0]
      exact U3 hc hL f hp 0 (by omega) a1 (by omega) (fun I l'' vs all d m b1 b2 b3 => by omega) I hI vs all d m ⟨a3, a4⟩ ⟨a5, a6⟩ a7 a8 a9
    | succ g =>
      refine U3 hc hL f hp g (by omega) a1 (by omega) ?_ I hI vs all d m ⟨a3, a4⟩ ⟨a5, a6⟩ a7 a8 a9
      intro e I2 l2 vs2 all2 d2 m2 b1 b2 b3
      cases n with
      | zero => omega
      | succ n => exact ID hc hL f hp n g (l' - 1) (by omega) (by omega) (by omega) (by omega) I2 l2 vs2 all2 d2 m2 b1 b2 (by omega)
termination_by n => n
end Go.Proofs.YtfbjlfhjkojmkaaGreat
end
