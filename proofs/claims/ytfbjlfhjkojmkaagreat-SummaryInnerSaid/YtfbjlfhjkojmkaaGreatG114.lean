/- My own texts, put together by a program of mine. -/
import Derived.Test.YtfbjlfhjkojmkaaGreatG113
set_option linter.unusedSimpArgs false
set_option linter.unusedVariables false
set_option maxRecDepth 100000
set_option maxHeartbeats 4000000
section
namespace Go.Proofs.YtfbjlfhjkojmkaaGreat
open Go.Ab
set_option maxRecDepth 1000000
noncomputable def GX : Cfg := { ti := tiT.at default 211, cV := fun _ => .any, fns := fnT.at none 150, W9 := fun t n => yK C8 t n, iT := fun f => Nat.beq f 30, bG := fun _ => [] }
theorem tisOkK : (List.range 211).all (fun t => yG Tryz.prog GX t && yH Tryz.prog GX t) = true := by kernel_rfl
theorem goodK : Ab.Good Tryz.prog GX := yL tisOkK rfl rfl fnsOk (fun t name f h v w => Y8 NM t name f h v w) AX
open Go.PlB in
def Q4 : List (Nat × List (Nat × p6)) := (40, [(14, G 10 [0, 0, 3, 7, 0, 16, 0, 112, 255, 511] 384 [0, 0, 0, 0, 0, 0, 0, 0, 128, 384] [256, 256, 256, 256, 384, 384, 384, 256, 0, 0] [] [0, 128, 384] [0, 1, 2, 3])]) :: (38, [(2, E 12 [0, 0, 2, 0, 14, 30, 0, 126, 254, 511, 1023, 2047])]) :: xN
def GG : gQ := fun f => lE Q4 f
theorem xP : mV GX Q4 = true := by kernel_rfl
theorem tN : oL GX GG := oM xP
noncomputable def evalK : cP := IC PL (o7 GX GG 100)
theorem NB : evalK.ok Tryz.prog GX := J7 (qE goodK tN 100)
theorem NC : gB Tryz.prog GX VQ := NA
theorem ND : B7 GX GG (vW VQ evalK) 15 [] [] = some (.bool true, []) := by kernel_rfl
theorem awake15 (h : c6) : CallA Tryz.prog cfg 15 [] h fun y h' => y = .bool true ∧ h' = h := CallA.frame0 (C := GX) rfl (eB goodK tN (iX NC NB) _ _ _ _ _ ND) h
end Go.Proofs.YtfbjlfhjkojmkaaGreat
end
section
namespace Go.Proofs.YtfbjlfhjkojmkaaGreat
open Go.Ab Go.Un
variable {n : Nat}
theorem vB (x : Int) (h0 : 0 < n) : ∃ k : Nat, k < n ∧ within x n = (k : Int) := by
  have h1 := @nI x n (by omega)
  have h2 := @sJ x n (by omega)
  exact ⟨(within x n).toNat, by omega, by omega⟩
variable {h : c6} {k : Nat}
theorem NF {m : Nat} {a b : List (List Nat)} (hab : a = b) (ha : Tb k n a) (hb : Tb k m b) (hk : k ≤ 8) (hl : n < 1000000) : CB 12 [.vec n (cU a), .vec m (cU b)] h (.bool true) := by
  have := MR (h := h) ha.1 hb.1 hl (fun r hr => by have := (ha.2 r hr).1; omega)
  rw [decide_eq_true hab] at this
  exact this
attribute [local go_sem] rd cR u3 aH r8 m9 l7 dM bN Int.natCast_nonneg Int.natCast_inj dB jM gV jN kX pC G0 uX jQ uY W4 lO tD tE pD List.length_set List.length_replicate Int.toNat_natCast_add_one kQ wrap64 W3 List.length_map jP xM G2 jQ beq_self_eq_true m9 bne_self_eq_false
theorem NG {u : Un} (hu : WU u) (m : Int) : CB 11 [.agg [.vec u.globals.length (j4 u.globals), .vec u.c4.length (g9 u.c4), .vec u.procs.length (m7 u.procs), .int .i64 u.main], .int .i64 m] h (.int .i64 (within m u.c4.length)) := by
  refine .bz Tryz.f11 10 ?_
  have hml := hu.ml
  refine .z ?_
  refine c27z ?_
  refine .ca rfl rfl (qU _ _ (by omega) (by omega)) ?_
  refine .n ?_
  exact .ret (.ex (hq := by rfl))
theorem GI {i : Nat} (hi : i ≤ 64) (hk : k ≤ 8) : i * (k + 1) ≤ 576 := Nat.mul_le_mul hi (show k + 1 ≤ 9 from by omega)
theorem wrap_mul {i : Nat} (hi : i ≤ 64) (hk : k ≤ 8) : IntKind.wrap .i64 ((i : Int) * ((k : Int) + 1)) = ((i * (k + 1) : Nat) : Int) := by
  have h := GI hi hk
  rw [show (i : Int) * ((k : Int) + 1) = ((i * (k + 1) : Nat) : Int) from by push_cast; rfl]
  exact wrap64 (by omega) (by omega)
theorem min_nat {a b : Nat} : (if (b : Int) < (a : Int) then (b : Int) else (a : Int)) = ((min a b : Nat) : Int) := by split <;> omega
attribute [local go_sem] wrap_mul min_nat Option.bind_eq_bind
theorem c_madeV {l : List Int} (hn : l.length = n) (hk : k ≤ 8) (hl : n < 9223372036854775808) : CB 37 [.vec n (j4 l), .int .i64 ((k : Nat) : Int)] h (cR (X3 l k)) := by
  subst hn
  exact c_made l k hk hl
theorem GJ {u : Un} {c : Clo} (hu : WU u) (wc : WC u c) {mx : Nat} (hmx : mx < u.c4.length) (l : List Int) (hl : l.length < 4611686018427387904) : CB 17 [.agg [.vec u.globals.length (j4 u.globals), .vec u.c4.length (g9 u.c4), .vec u.procs.length (m7 u.procs), .int .i64 u.main], .agg [.vec c.insts.length (q9 c.insts), .vec c.calls.length (w4 c.calls), .vec c.roots.length (j4 c.roots)], .int .i64 ((mx : Nat) : Int), .vec l.length (j4 l)] h (.vec c.insts.length (cU (MO u c mx l))) := by
  refine .bz Tryz.f17 42 ?_
  have hwl := wc.len
  have hk8 : kM u mx ≤ 8 := UZ
  have hk9 : V4 (u.c4.getD mx z6) ≤ 8 := hk8
  have hml := hu.ml
  refine c18z ?_
  refine c24z ?_
  refine .ca rfl rfl (FU u mx) ?_
  refine c41z ?_
  refine .c7 [3, 5, 9, 10] ?_
  refine c22z ?_
  refine c9.C5 9 rfl ?_
  refine .aW (fun m st => ∃ (i : Nat), (m = c.insts.length - i ∧ (i ≤ c.insts.length)) ∧ st = ⟨mkS 42 [(3, AV.vec l.length (j4 l)), (5, AV.ptr (h.length + 1) 0 0), (9, AV.own (h.length + 2) i 0 i), (10, AV.int .i64 ((kM u mx : Nat) : Int)), (11, AV.int .i64 ((i : Nat) : Int))], h ++ [⟨0, false, 30, 4, [.vec u.globals.length (j4 u.globals), .vec u.c4.length (g9 u.c4), .vec u.procs.length (m7 u.procs), .int .i64 u.main], 0⟩, ⟨0, false, 34, 3, [.vec c.insts.length (q9 c.insts), .vec c.calls.length (w4 c.calls), .vec c.roots.length (j4 c.roots)], 0⟩, o8 22 1 i (cU ((MO u c mx l).take i))]⟩) (.v ⟨0, ⟨rfl, by omega⟩, rfl⟩ (hs := t85)) ?_
  rintro m sl h' ⟨i, ⟨hm, hi⟩, hst⟩
  obtain ⟨rfl, rfl⟩ := St.mk.inj hst; clear hst
  have hrl : ((MO u c mx l).take i).length = i := by rw [List.length_take, mI.1]; omega
  have hmul := GI (i := i) (k := kM u mx) (by omega) hk8
  refine c0z ?_
  refine u2z ?_ ?_
  ·intro e1 qe1
   refine c7z ?_
   refine c170z ?_
   refine .c7 [3, 5, 9, 10, 11, 12] ?_
   refine .r ?_
   refine .e 3 ?_
   refine .ca rfl rfl (c_madeV (List.length_drop) hk8 (by omega)) ?_
   refine c34z ?_
   refine .rz ?_
   exact ⟨_, by omega, .v ⟨(i + 1), ⟨rfl, by omega⟩, rfl⟩ (he := by (rw [MP (by omega)]; simp only [List.append_assoc, List.cons_append, List.nil_append]; rfl)) (hk := by exact (aK.refl _).app rfl ⟨.inl rfl, .inl rfl, .inr (by rw [o4]; exact (Ei _).refs _), trivial⟩) (hs := t85)⟩
  intro e1 qe1
  refine .exit ?_
  obtain rfl : i = c.insts.length := by omega
  rw [MQ mI.1]
  change c9 ..
  refine .c7 [9] ?_
  refine c35z ?_
  exact ⟨_, _, rfl, frz_O t36 (by omega) mI.1 (by omega), by rfl⟩
end Go.Proofs.YtfbjlfhjkojmkaaGreat
end
section
namespace Go.Proofs.YtfbjlfhjkojmkaaGreat
open Go.Ab Go.Un
attribute [local go_sem] rd cR u3 aH r8 m9 l7 dM bN Int.natCast_nonneg Int.natCast_inj dB jM gV jN kX pC G0 uX jQ uY W4 lO tD tE pD List.length_set List.length_replicate Int.toNat_natCast_add_one kQ wrap64 W3 List.length_map jP xM G2 jQ beq_self_eq_true m9 bne_self_eq_false
theorem c_lawInner (L : List Int) (hL : L.length < 4611686018427387904) (m : Int) (s : List Int) (hs : s.length < 4611686018427387904) (ix : Int) : CB 4 [.vec L.length (j4 L), .int .i64 m, .vec s.length (j4 s), .int .i64 ix] [] (.bool true) := by
 refine .bz Tryz.f4 48 ?_
 refine c216z ?_
 refine l8.cx rfl rfl hb10 (c_unit L hL) (fun y1 h1 hq1 => ?_)
 obtain ⟨⟨p, u, c, gp, hu, wc, rfl⟩, rfl⟩ := hq1
 have hml := hu.ml
 have hwl := wc.len
 simp only [IK]
 refine .e 8 ?_
 refine .n ?_
 refine .c7 [1, 2, 3, 10, 11] ?_
 refine .ss s7 (mkP 10 [0, 0, 3, 0, 0, 16, 48, 127, 255, 511] []) ?_
 refine .k 2 [] ?_
 refine .ca rfl rfl (NG hu m) ?_
 refine .k 4 [] ?_
 refine .ca rfl rfl (qU ix _ (by omega) (by omega)) ?_
 refine .n [] ?_
 refine .c7 [1, 2, 3, 10, 11] ?_
 obtain ⟨mx, hmx, hme⟩ := vB m (n := u.c4.length) (by omega)
 simp only [hme]
 have hk8 : kM u mx ≤ 8 := UZ
 obtain ⟨i, hi, hie⟩ := vB ix (n := c.insts.length) (by omega)
 simp only [hie]
 have hli : W2 u c i ≤ 1664 := v7 hu (pQ wc hi)
 refine c27z ?_
 refine .ca rfl rfl (GJ hu wc hmx s hs) ?_
 refine .n ?_
 refine .ss s7 (mkP 17 [0, 0, 0, 0, 0, 31, 0, 0, 0, 0, 0, 2047, 4095, 8191, 16383, 32767, 65535] []) ?_
 refine .k 5 [] ?_
 refine .ca rfl rfl (FT hu wc hmx mI hi (fun l0 => W7 hu wc hmx mI hi _)) ?_
 refine .k 5 [] ?_
 refine .ca rfl rfl (FV hu wc hmx mI hi) ?_
 refine .ca rfl rfl (NF rfl (FF _ _) (FF _ _) hk8 (by omega)) ?_
 refine .k 1 [] ?_
 refine .ca rfl rfl (awake15 _) ?_
 refine .n [] ?_
 exact .ret (.ex (hq := by rfl))
end Go.Proofs.YtfbjlfhjkojmkaaGreat
end
