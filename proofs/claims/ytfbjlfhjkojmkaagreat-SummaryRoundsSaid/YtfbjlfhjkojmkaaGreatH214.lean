/- My own texts, put together by a program of mine. -/
import Derived.Test.YtfbjlfhjkojmkaaGreatH213
set_option linter.unusedSimpArgs false
set_option linter.unusedVariables false
set_option maxRecDepth 100000
set_option maxHeartbeats 4000000
section
namespace Go.Proofs.YtfbjlfhjkojmkaaGreat
open Go.Ab
set_option maxRecDepth 1000000
noncomputable def IV : Cfg := { ti := tiT.at default 211, cX := fun _ => .any, fns := fnT.at none 150, AM := fun t n => zP G2 t n, iW := fun f => Nat.beq f 30, bH := fun _ => [] }
theorem tisOkK : (List.range 211).all (fun t => zL Tryz.prog IV t && zM Tryz.prog IV t) = true := by kernel_rfl
theorem goodK : Ab.Good Tryz.prog IV := zQ tisOkK rfl rfl fnsOk (fun t name f h v w => BG PS t name f h v w) CP
open Go.PlB in
def V0 : List (Nat × List (Nat × p8)) := (40, [(14, G 10 [0, 0, 3, 7, 0, 16, 0, 112, 255, 511] 384 [0, 0, 0, 0, 0, 0, 0, 0, 128, 384] [256, 256, 256, 256, 384, 384, 384, 256, 0, 0] [] [0, 128, 384] [0, 1, 2, 3])]) :: (38, [(2, E 12 [0, 0, 2, 0, 14, 30, 0, 126, 254, 511, 1023, 2047])]) :: yT
def IJ : gS := fun f => lL V0 f
theorem yV : nG IV V0 = true := by kernel_rfl
theorem uN : oY IV IJ := oZ yV
noncomputable def evalK : cS := KA RU (p5 IV IJ 100)
theorem PH : evalK.ok Tryz.prog IV := N7 (qU goodK uN 100)
theorem PJ : gD Tryz.prog IV YE := PG
theorem PK : F4 IV IJ (wW YE evalK) 15 [] [] = some (.bool true, []) := by kernel_rfl
theorem awake15 (h : c6) : CallA Tryz.prog cfg 15 [] h fun y h' => y = .bool true ∧ h' = h := CallA.frame0 (C := IV) rfl (eD goodK uN (jA PJ PH) _ _ _ _ _ PK) h
end Go.Proofs.YtfbjlfhjkojmkaaGreat
end
section
namespace Go.Proofs.YtfbjlfhjkojmkaaGreat
open Go.Ab Go.Un
theorem wB (x : Int) {n : Nat} (h0 : 0 < n) : ∃ k : Nat, k < n ∧ within x n = (k : Int) := by
 have h1 := @B6 x n (by omega)
 have h2 := @B7 x n (by omega)
 exact ⟨(within x n).toNat, by omega, by omega⟩
theorem V1 {h : c6} {n m k : Nat} {a b : List (List Nat)} (hab : a = b) (ha : Tb k n a) (hb : Tb k m b) (hk : k ≤ 8) (hl : n < 1000000) : CB 12 [.vec n (s3 a), .vec m (s3 b)] h (.bool true) := by
 have := T9 (h := h) ha.1 hb.1 hl (fun r hr => by have := (ha.2 r hr).1; omega)
 rw [decide_eq_true hab] at this
 exact this
attribute [local go_sem] rd bR u7 aK s5 n5 l9 dO z8 Int.natCast_nonneg Int.natCast_inj dD jP gY jQ lC pS K2 vV jT vW AE lX tW tX pT List.length_set List.length_replicate Int.toNat_natCast_add_one kV wrap64 K5 List.length_map lE jS yR yS jT beq_self_eq_true n5 bne_self_eq_false
theorem V2 {h : c6} {u : Un} (hu : WU u) (m : Int) : CB 11 [.agg [.vec u.globals.length (g7 u.globals), .vec u.c4.length (g5 u.c4), .vec u.procs.length (j7 u.procs), .int .i64 u.main], .int .i64 m] h (.int .i64 (within m u.c4.length)) := by
 refine .bz Tryz.f11 10 ?_
 have hml := hu.ml
 refine .z ?_
 refine c31z ?_
 refine .ca rfl rfl (rK _ _ (by omega) (by omega)) ?_
 refine .n ?_
 exact .ret (.ex (hq := by rfl))
attribute [local go_sem] Option.bind_eq_bind
end Go.Proofs.YtfbjlfhjkojmkaaGreat
end
section
namespace Go.Proofs.YtfbjlfhjkojmkaaGreat
open Go.Ab Go.Un
attribute [local go_sem] rd bR u7 aK s5 n5 l9 dO z8 Int.natCast_nonneg Int.natCast_inj dD jP gY jQ lC pS K2 vV jT vW AE lX tW tX pT List.length_set List.length_replicate Int.toNat_natCast_add_one kV wrap64 K5 List.length_map lE jS yR yS jT beq_self_eq_true n5 bne_self_eq_false
theorem c_lawOf (L : List Int) (hL : L.length < 4611686018427387904) (m : Int) : CB 3 [.vec L.length (g7 L), .int .i64 m] [] (.bool true) := by
  refine .bz Tryz.f3 29 ?_
  refine c200z ?_
  refine m7.cx rfl rfl hb10 (RT L hL) (fun y1 h1 hq1 => ?_)
  obtain ⟨⟨p, u, c, gp, hu, wc, rfl⟩, rfl⟩ := hq1
  have hml := hu.ml
  have hwl := wc.len
  simp only [CU]
  refine .e 8 ?_
  refine .n ?_
  refine .c7 [1, 6, 7] ?_
  refine c30z ?_
  refine .ca rfl rfl (V2 hu m) ?_
  refine .n ?_
  obtain ⟨mx, hmx, hme⟩ := wB m (n := u.c4.length) (by omega)
  simp only [hme]
  have hk8 : kM u mx ≤ 8 := mD
  refine .ss s9 (mkP 13 [0, 0, 0, 7, 0, 0, 0, 127, 255, 511, 1023, 2047, 4095] []) ?_
  refine .k 3 [] ?_
  refine .ca rfl rfl (c_of hu wc hmx) ?_
  refine .k 3 [] ?_
  refine .ca rfl rfl (c_ofR hu wc hmx) ?_
  refine .ca rfl rfl (V1 rfl fE fE hk8 (by omega)) ?_
  refine c188z ?_
  refine .n [] ?_
  exact .ret (.ex (hq := by rfl))
theorem c_lawRounds (L : List Int) (hL : L.length < 4611686018427387904) (m n : Int) (raw : Bool) : CB 8 [.vec L.length (g7 L), .int .i64 m, .int .i64 n, .bool raw] [] (.bool true) := by
  refine .bz Tryz.f8 44 ?_
  refine c200z ?_
  refine m7.cx rfl rfl hb10 (RT L hL) (fun y1 h1 hq1 => ?_)
  obtain ⟨⟨p, u, c, gp, hu, wc, rfl⟩, rfl⟩ := hq1
  have hml := hu.ml
  have hwl := wc.len
  simp only [CU]
  refine .e 8 ?_
  refine .n ?_
  refine .c7 [1, 2, 3, 10, 11] ?_
  refine c30z ?_
  refine .ca rfl rfl (V2 hu m) ?_
  refine c38z ?_
  obtain ⟨mx, hmx, hme⟩ := wB m (n := u.c4.length) (by omega)
  simp only [hme]
  have hk8 : kM u mx ≤ 8 := mD
  refine c18z ?_
  refine .spl 23 rfl rfl (fun e1 => ?_) (fun e1 => ?_)
  ·try simp only [e1]
   have qe1 := fact e1
   refine .m [(2, 23)] ?_
   refine .T ?_
   refine .c7 [1, 2, 10, 11] ?_
   refine .r ?_
   refine .e 1 ?_
   refine .ca rfl rfl (rK n 30 (by omega) (by omega)) ?_
   refine c25z ?_
   refine c116z ?_
   refine c216z ?_
   refine c102z ?_
   refine c188z ?_
   refine .n [] ?_
   exact .ret (.ex (hq := by rfl))
  try simp only [e1]
  have qe1 := fact e1
  refine .m [(2, 23)] ?_
  refine u2z ?_ ?_
  ·intro e2 qe2
   refine .c7 [1, 2, 10, 11] ?_
   refine .r ?_
   refine .e 1 ?_
   refine .ca rfl rfl (rK n 30 (by omega) (by omega)) ?_
   refine c25z ?_
   refine c116z ?_
   refine c216z ?_
   refine c102z ?_
   refine c188z ?_
   refine .n [] ?_
   exact .ret (.ex (hq := by rfl))
  intro e2 qe2
  refine .sk ?_
  refine .c7 [1, 2, 10, 11] ?_
  refine c116z ?_
  refine c216z ?_
  refine c102z ?_
  refine c188z ?_
  refine .n [] ?_
  exact .ret (.ex (hq := by rfl))
end Go.Proofs.YtfbjlfhjkojmkaaGreat
end
