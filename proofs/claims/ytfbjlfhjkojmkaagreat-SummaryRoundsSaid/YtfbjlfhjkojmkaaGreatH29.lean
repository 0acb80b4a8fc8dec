/- My own texts, put together by a program of mine. -/
import Derived.Test.YtfbjlfhjkojmkaaGreatH28
set_option linter.unusedSimpArgs false
set_option linter.unusedVariables false
set_option maxRecDepth 100000
set_option maxHeartbeats 4000000
section
namespace Go.Proofs.YtfbjlfhjkojmkaaGreat
open Go.Ab Go.Un
set_option maxHeartbeats 40000000
theorem RQ (l : List Mx) : w6 (g5 l) := w6.flat fun _ => w6.cons .str (w6.cons .bool (w6.cons .int .nil))
theorem RR (l : List Gl) : w6 (o8 l) := w6.flat fun _ => w6.cons .str (w6.cons .int .nil)
theorem RS (l : List Pm) : w6 (s4 l) := w6.flat fun _ => w6.cons .str (w6.cons .bool .nil)
theorem IE (l : List Fu) : w6 (n6 l) := w6.flat fun _ => w6.cons .str (w6.cons .vec (w6.cons .vec .nil))
theorem XY (l : List BA) : w6 (w5 l) := w6.map fun _ => .str
theorem mT {l : List Mx} {m : Mx} : g5 (l ++ [m]) = g5 l ++ [.str m.name, .bool m.re, .int .i64 m.size] := by simp [g5, KH]
theorem K7 {l : List Gl} {m : Gl} : o8 (l ++ [m]) = o8 l ++ [.str m.name, .int .i64 m.init] := by simp [o8, X2]
theorem uM {l : List Pm} {m : Pm} : s4 (l ++ [m]) = s4 l ++ [.str m.name, .bool m.mu] := by simp [s4, X1]
theorem K8 {l : List Fu} {m : Fu} : n6 (l ++ [m]) = n6 l ++ [.str m.name, .vec m.params.length (s4 m.params), .vec m.body.len (n8 m.body)] := by simp [n6, dA]
variable {L : List Int}
theorem famL (a b c d : Blk) (rest : c6) : bE 4 L (rest.length + 5) fun I => a :: b :: c :: d :: ⟨0, false, 91, 2, [.vec L.length (g7 L), .int .i64 I], 0⟩ :: rest := ⟨fun _ => rfl, fun _ _ => rfl, fun _ => by simp⟩
theorem bG {a b c d : Blk} {rest : c6} (I n : Int) (hI : OkI L I) (hL : L.length < 4611686018427387904) (hn : 0 < n) (hm : n ≤ 4611686018427387904) : CH 47 [.ptr 4 0 0, .int .i64 n] (a :: b :: c :: d :: ⟨0, false, 91, 2, [.vec L.length (g7 L), .int .i64 I], 0⟩ :: rest) (.int .i64 (c5 L I n).1) (a :: b :: c :: d :: ⟨0, false, 91, 2, [.vec L.length (g7 L), .int .i64 (c5 L I n).2], 0⟩ :: rest) := C0 (famL a b c d rest) I n hI hL hn hm
variable {i : Nat}
theorem mnm_eq : (⟨#[UInt8.ofNat (97 + (i : Int)).toNat]⟩ : BA) = mnm i := by
  rw [show (97 + (i : Int)).toNat = 97 + i from by omega]
  rfl
theorem IF {a b : UInt8} : (⟨#[a]⟩ : BA) ++ (⟨#[b]⟩ : BA) = ⟨#[a, b]⟩ := by
  apply ByteArray.ext
  simp [ByteArray.data_append]
def fnr (i : Nat) : BA := ⟨#[102, UInt8.ofNat (48 + i)]⟩
theorem gnm_eq : (⟨#[103]⟩ : BA) ++ (⟨#[UInt8.ofNat (48 + (i : Int)).toNat]⟩ : BA) = gnm i := by
  rw [IF, show (48 + (i : Int)).toNat = 48 + i from by omega]
  rfl
theorem pnm_eq : (⟨#[112]⟩ : BA) ++ (⟨#[UInt8.ofNat (48 + (i : Int)).toNat]⟩ : BA) = pnm i := by
  rw [IF, show (48 + (i : Int)).toNat = 48 + i from by omega]
  rfl
theorem fnr_eq : (⟨#[102]⟩ : BA) ++ (⟨#[UInt8.ofNat (48 + (i : Int)).toNat]⟩ : BA) = fnr i := by
  rw [IF, show (48 + (i : Int)).toNat = 48 + i from by omega]
  rfl
theorem sz_one {a : UInt8} : (⟨#[a]⟩ : BA).size = 1 := rfl
variable {n : Nat}
theorem oO {I : Int} : ∀ x ∈ [AV.vec L.length (g7 L), .int .i64 I], Refs n x := eX.get ⟨.vec _ _, .int _ _, trivial⟩
variable {a0 a1 a2 a3 a4 a5 a7 a8 a9 a10 : Blk} {l : c6} {g q : Nat} {zs : List AV} {x y : AV}
theorem app_mx {z : AV} (hz : zs.length = n * 3) (hn : n < 1000) : j5 cfg 66 (a0 :: a1 :: a2 :: a3 :: a4 :: a5 :: p4 66 3 g zs :: a7 :: a8 :: a9 :: a10 :: ⟨q, false, 66, 3, [x, y, z], 0⟩ :: l) (.own 6 g 0 n) (.own 11 q 0 1) = some (.own 6 (g + 1) 0 (n + 1), a0 :: a1 :: a2 :: a3 :: a4 :: a5 :: p4 66 3 (g + 1) (zs ++ [x, y, z]) :: a7 :: a8 :: a9 :: a10 :: ⟨q, false, 66, 3, [x, y, z], 0⟩ :: l) := by
  rw [z1 (C := cfg) (K := 3) (m := 1) (new := [x, y, z]) (zs := zs) rfl rfl (by omega) hz rfl (by omega) t99 rfl (by decide) (by omega)]
  rfl
variable {a6 a11 : Blk}
theorem app_gl (hz : zs.length = n * 2) (hn : n < 1000) : j5 cfg 97 (a0 :: a1 :: a2 :: a3 :: a4 :: a5 :: a6 :: p4 97 2 g zs :: a8 :: a9 :: a10 :: a11 :: ⟨q, false, 97, 2, [x, y], 0⟩ :: l) (.own 7 g 0 n) (.own 12 q 0 1) = some (.own 7 (g + 1) 0 (n + 1), a0 :: a1 :: a2 :: a3 :: a4 :: a5 :: a6 :: p4 97 2 (g + 1) (zs ++ [x, y]) :: a8 :: a9 :: a10 :: a11 :: ⟨q, false, 97, 2, [x, y], 0⟩ :: l) := by
  rw [z1 (C := cfg) (K := 2) (m := 1) (new := [x, y]) (zs := zs) rfl rfl (by omega) hz rfl (by omega) t99 rfl (by decide) (by omega)]
  rfl
variable {a12 : Blk}
theorem app_vr (hz : zs.length = n * 1) (hn : n < 1000) : j5 cfg 9 (a0 :: a1 :: a2 :: a3 :: a4 :: a5 :: a6 :: a7 :: a8 :: p4 9 1 g zs :: a10 :: a11 :: a12 :: ⟨q, false, 9, 1, [x], 0⟩ :: l) (.own 9 g 0 n) (.own 13 q 0 1) = some (.own 9 (g + 1) 0 (n + 1), a0 :: a1 :: a2 :: a3 :: a4 :: a5 :: a6 :: a7 :: a8 :: p4 9 1 (g + 1) (zs ++ [x]) :: a10 :: a11 :: a12 :: ⟨q, false, 9, 1, [x], 0⟩ :: l) := by
  rw [z1 (C := cfg) (K := 1) (m := 1) (new := [x]) (zs := zs) rfl rfl (by omega) hz rfl (by omega) t99 rfl (by decide) (by omega)]
  rfl
theorem app_pm {a13 a14 : Blk} (hz : zs.length = n * 2) (hn : n < 1000) : j5 cfg 103 (a0 :: a1 :: a2 :: a3 :: a4 :: a5 :: a6 :: a7 :: a8 :: a9 :: a10 :: a11 :: p4 103 2 g zs :: a13 :: a14 :: ⟨q, false, 103, 2, [x, y], 0⟩ :: l) (.own 12 g 0 n) (.own 15 q 0 1) = some (.own 12 (g + 1) 0 (n + 1), a0 :: a1 :: a2 :: a3 :: a4 :: a5 :: a6 :: a7 :: a8 :: a9 :: a10 :: a11 :: p4 103 2 (g + 1) (zs ++ [x, y]) :: a13 :: a14 :: ⟨q, false, 103, 2, [x, y], 0⟩ :: l) := by
  rw [z1 (C := cfg) (K := 2) (m := 1) (new := [x, y]) (zs := zs) rfl rfl (by omega) hz rfl (by omega) t99 rfl (by decide) (by omega)]
  rfl
theorem app_fu {z : AV} (hz : zs.length = n * 3) (hn : n < 1000) : j5 cfg 101 (a0 :: a1 :: a2 :: a3 :: a4 :: a5 :: a6 :: a7 :: p4 101 3 g zs :: a9 :: a10 :: a11 :: a12 :: ⟨q, false, 101, 3, [x, y, z], 0⟩ :: l) (.own 8 g 0 n) (.own 13 q 0 1) = some (.own 8 (g + 1) 0 (n + 1), a0 :: a1 :: a2 :: a3 :: a4 :: a5 :: a6 :: a7 :: p4 101 3 (g + 1) (zs ++ [x, y, z]) :: a9 :: a10 :: a11 :: a12 :: ⟨q, false, 101, 3, [x, y, z], 0⟩ :: l) := by
  rw [z1 (C := cfg) (K := 3) (m := 1) (new := [x, y, z]) (zs := zs) rfl rfl (by omega) hz rfl (by omega) t99 rfl (by decide) (by omega)]
  rfl
variable {vs : List BA}
theorem app_cp (hz : vs.length = n) (hn : n < 1000) : j5 cfg 9 (a0 :: a1 :: a2 :: a3 :: a4 :: a5 :: a6 :: a7 :: a8 :: a9 :: [⟨0, false, 9, 1, [], 0⟩]) (.own 10 0 0 0) (.vec n (w5 vs)) = some (.own 10 (gO 0 n) 0 n, a0 :: a1 :: a2 :: a3 :: a4 :: a5 :: a6 :: a7 :: a8 :: a9 :: [⟨gO 0 n, false, 9, 1, w5 vs, 0⟩]) := by
  subst hz
  have e1 : cfg.sz 9 = 1 := rfl
  have e2 : (cfg.ti 9).bytes = 16 := rfl
  have hm : vs.length ≤ maxLen := by
    have : (1000 : Nat) ≤ maxLen := by decide
    omega
  have hb : vs.length * 16 ≤ 140737488355328 := by omega
  cases vs with
  | nil => simp [j5, rd, lenOf, e1, e2, gO, w5]
  | cons x vs =>
    have h0 : (w5 (x :: vs)).length = vs.length + 1 := by simp [w5]
    simp only [List.length_cons] at hm hb
    simp [j5, rd, lenOf, e1, e2, gO, h0, hm, hb]
theorem app_on {x : BA} (hz : vs.length = n) (hn : n < 1000) : j5 cfg 9 (a0 :: a1 :: a2 :: a3 :: a4 :: a5 :: a6 :: a7 :: a8 :: a9 :: ⟨g, false, 9, 1, w5 vs, 0⟩ :: ⟨q, false, 9, 1, [.str x], 0⟩ :: l) (.own 10 g 0 n) (.own 11 q 0 1) = some (.own 10 (g + 1) 0 (n + 1), a0 :: a1 :: a2 :: a3 :: a4 :: a5 :: a6 :: a7 :: a8 :: a9 :: ⟨g + 1, false, 9, 1, w5 (vs ++ [x]), 0⟩ :: ⟨q, false, 9, 1, [.str x], 0⟩ :: l) := by
  subst hz
  have e1 : cfg.sz 9 = 1 := rfl
  have e2 : (cfg.ti 9).bytes = 16 := rfl
  have hm : vs.length + 1 ≤ maxLen := by
    have : (1001 : Nat) ≤ maxLen := by decide
    omega
  have hb : (vs.length + 1) * 16 ≤ 140737488355328 := by omega
  have ht : List.take vs.length (w5 vs) = w5 vs := List.take_of_length_le t150
  have hnl : ¬ vs.length + 1 ≤ vs.length := by omega
  simp [j5, rd, lenOf, e1, e2, w9, hm, hb, ht, hnl, iL]
theorem PE {l : List Fu} (h : i < l.length) : List.take 1 (List.drop (i * 3 + 1) (n6 l)) = [AV.vec (l.getD i g9).params.length (s4 (l.getD i g9).params)] := by
  have := congrArg (fun x => (x.drop 1).take 1) (sT h)
  simp only [List.drop_take, List.drop_drop, List.take_take] at this
  simpa [dA] using this
theorem IG : ∀ {l : List Fu} {i : Nat} {B : Sl}, i < l.length → List.take (i * 3 + 2) (n6 l) ++ AV.vec B.len (n8 B) :: List.drop (i * 3 + 2 + 1) (n6 l) = n6 (setBody l i B)
  | f :: l, 0, B, _ => by
    simp only [n6, List.flatMap_cons, dA, setBody]
    rfl
  | f :: l, i + 1, B, h => by
    have ih := IG (l := l) (i := i) (B := B) (by simpa using h)
    have e1 : n6 (f :: l) = .str f.name :: .vec f.params.length (s4 f.params) :: .vec f.body.len (n8 f.body) :: n6 l := rfl
    have e2 : setBody (f :: l) (i + 1) B = f :: setBody l i B := by simp [setBody, List.getD]
    have e3 : n6 (f :: setBody l i B) = .str f.name :: .vec f.params.length (s4 f.params) :: .vec f.body.len (n8 f.body) :: n6 (setBody l i B) := rfl
    rw [e1, e2, e3, ← ih, show (i + 1) * 3 + 2 = i * 3 + 2 + 1 + 1 + 1 from by omega]
    rfl
attribute [local go_sem] rd l9 w9 n5 cK aA aJ Int.natCast_nonneg Int.natCast_inj List.length_map wrap64 wrap8 mnm_eq gnm_eq pnm_eq fnr_eq sz_one kJ gL app_mx app_gl app_vr app_pm app_fu app_cp app_on PE Q6 jM sT IG P6 B8 G9 P7 xO max2 List.flatten_nil List.flatten_cons hB
theorem U4 (l : List Pm) : (bW l).length ≤ l.length := by
  simp only [bW, List.length_map]
  exact List.length_filter_le _ _
theorem c_top {c : Core} (hc : OkC c) (hL : c.L.length < 4611686018427387904) {f : Fu} (hp : f.params.length ≤ 2) {I lf : Int} (hI : OkI c.L I) (hn : vs.length = n) {R : BR} (hR : g0 c f.params 24 vs 2 6 I lf = R) (h0 : 0 ≤ lf) (h1 : lf ≤ 24) (hfr : Fr 24 vs) (hN : vs.length ≤ 100) {b0 b1 b2 z mb gb vb : Blk} {gw : Nat} :
    CallA Tryz.prog cfg 48 [.ptr 5 0 0, .agg (dA f), .own 10 gw 0 n, .int .i64 2, .int .i64 6] (hB c ⟨b0, b1, b2, z, mb, gb, [vb, ⟨gw, false, 9, 1, w5 vs, n⟩]⟩ I lf) (fun y' h' => y' = .vec R.1.len (n8 R.1) ∧ h' = hB c ⟨b0, b1, b2, z, mb, gb, [vb, ⟨gw, false, 9, 1, w5 vs, n⟩]⟩ R.2.1 R.2.2) := by
  subst hn
  subst hR
  refine F9 (args' := [.ptr 5 0 0, .agg (dA f), .vec vs.length (w5 vs), .int .i64 2, .int .i64 6]) (β := 10) (g := gw) (vs := vs) rfl ⟨.inl rfl, .inl rfl, .inr ⟨rfl, rfl⟩, .inl rfl, .inl rfl, trivial⟩ ?_
  exact ID hc hL f hp 24 24 lf (Nat.le_refl _) (by omega) h0 h1 I lf vs vs 2 6 hI h0 (by omega) (by omega) (by omega) (by omega) (by omega) (fun x hx => hx) (hfr.mono (by omega)) (by omega)
theorem IH {b0 b1 b2 : Blk} (L : List Int) (hL : L.length < 4611686018427387904) : CallA Tryz.prog cfg 27 [.vec L.length (g7 L)] [b0, b1, b2] (fun y' h' => (∃ p, GP p ∧ y' = .agg (CU p)) ∧ h' = [b0, b1, b2]) := by
  refine .bz Tryz.f27 264 ?_
  refine c200z ?_
  refine .ca rfl rfl (c_cut L 400 (by omega)) ?_
  refine .n ?_
  have hK1 : (L.take 400).length ≤ 400 := by rw [List.length_take]; exact Nat.min_le_left _ _
  generalize L.take 400 = K at *
  have hK : K.length < 4611686018427387904 := by omega
  have hKI : OkI K 0 := ⟨Int.le_refl _, by omega⟩
  have h3 := l6 hKI (n := 3) (by omega)
  refine c23z ?_
  refine .ch rfl rfl (bG (L := K) 0 3 hKI hK (by omega) (by omega)) ?_
  refine c38z ?_
  refine .c7 [2, 3, 27] ?_
  generalize ((c5 K 0 3).1 == 1) = ar
  generalize (c5 K 0 3).2 = I1 at *
  have h4 := l6 h3.2.2 (n := 4) (by omega)
  obtain ⟨Nn, hNn, hN1, hN4⟩ : ∃ n : Nat, 1 + (c5 K I1 4).1 = (n : Int) ∧ 1 ≤ n ∧ n ≤ 4 := ⟨(1 + (c5 K I1 4).1).toNat, by omega, by omega, by omega⟩
  refine c31z ?_
  refine .ch rfl rfl (bG (L := K) I1 4 h3.2.2 hK (by omega) (by omega)) ?_
  refine c122z ?_
  refine c9.mA (β := 5) (k := 2) rfl rfl ?_
  simp only [List.cons_append, List.nil_append, List.set_cons_succ, List.set_cons_zero, List.length_cons, List.length_nil, Nat.reduceAdd, Nat.zero_add, bI]
  refine c9.mA (β := 5) (k := 1) rfl rfl ?_
  simp only [List.cons_append, List.nil_append, List.set_cons_succ, List.set_cons_zero, List.length_cons, List.length_nil, Nat.reduceAdd, Nat.zero_add, bI]
  refine c9.mA (β := 5) (k := 3) rfl rfl ?_
  simp only [List.cons_append, List.nil_append, List.set_cons_succ, List.set_cons_zero, List.length_cons, List.length_nil, Nat.reduceAdd, Nat.zero_add, bI]
  refine .z7 (fun m st => ∃ (i : Nat) (I : Int) (ms : List Mx) (g : Nat), (m = Nn - i ∧ (OkI K I ∧ i ≤ Nn ∧ ms.length = i ∧ YL ms)) ∧ st = ⟨mkS 264 [(2, AV.ptr 3 0 0), (3, AV.ptr 5 0 0), (4, AV.int .i64 ((i : Nat) : Int)), (5, AV.int .i64 ((Nn : Nat) : Int))], [b0, b1, b2, ⟨0, false, 27, 3, [.j6, .j6, .j6], 0⟩, ⟨0, false, 91, 2, [.vec K.length (g7 K), .int .i64 I], 0⟩, ⟨0, false, 93, 6, [.ptr 4 0 0, .own 7 0 0 0, .own 6 g 0 i, .own 8 0 0 0, .int .i64 24, .bool ar], 0⟩, p4 66 3 g (g5 ms), ⟨0, true, 0, 0, [], 0⟩, ⟨0, true, 0, 0, [], 0⟩]⟩) (.v ⟨0, (c5 K I1 4).2, [], 0, ⟨rfl, ⟨h4.2.2, by omega, rfl, fun j hj => by simp at hj⟩⟩, rfl⟩) ?_
  rintro m sl h' ⟨i, I, ms, g, ⟨hm, ⟨hI, hi, hml, hms⟩⟩, hst⟩
  obtain ⟨rfl, rfl⟩ := St.mk.inj hst; clear hst
  have hz : (g5 ms).length = i * 3 := by rw [n5, hml]; omega
  have h5 := l6 hI (n := 5) (by omega)
  have h33 := l6 h5.2.2 (n := 3) (by omega)
  refine c0z ?_
  refine u2z ?_ ?_
  ·intro e1 qe1
   refine c2z ?_
   refine c26z ?_
   refine .c7 [2, 3, 4, 5, 6] ?_
   refine c31z ?_
   refine .ch rfl rfl (bG (L := K) I 5 hI hK (by omega) (by omega)) ?_
   refine c218z ?_
   refine .z ?_
   refine u2z ?_ ?_
   ·intro e2 qe2
    refine c1z ?_
    refine .c7 [2, 3, 4, 5, 6] ?_
    refine c199z ?_
    refine c137z ?_
    refine .c7 [2, 3, 4, 5] ?_
    refine .rz ?_
    exact ⟨_, by omega, .v ⟨(i + 1), (c5 K I 5).2, (ms ++ [⟨mnm i, true, 0⟩]), (g + 1), ⟨rfl, ⟨h5.2.2, by omega, by simp [hml], hms.snoc (by rw [hml]) t152 (by simp)⟩⟩, rfl⟩ (he := by (rw [mT]; rfl)) (hk := t76)⟩
   intro e2 qe2
   refine .z ?_
   refine u2z ?_ ?_
   ·intro e3 qe3
    refine .c7 [2, 3, 4, 5, 6] ?_
    refine c138z ?_
    refine .ch rfl rfl (bG (L := K) (c5 K I 5).2 3 h5.2.2 hK (by omega) (by omega)) ?_
    refine c25z ?_
    refine c199z ?_
    refine c137z ?_
    refine .c7 [2, 3, 4, 5] ?_
    refine .rz ?_
    exact ⟨_, by omega, .v ⟨(i + 1), (c5 K (c5 K I 5).2 3).2, (ms ++ [⟨mnm i, false, 1 + (c5 K (c5 K I 5).2 3).1⟩]), (g + 1), ⟨rfl, ⟨h33.2.2, by omega, by simp [hml], hms.snoc (by rw [hml]) t152 (by simp)⟩⟩, rfl⟩ (he := by (rw [mT]; rfl)) (hk := t76)⟩
   intro e3 qe3
   refine c5z ?_
   refine .c7 [2, 3, 4, 5, 6] ?_
   refine c199z ?_
   refine c137z ?_
   refine .c7 [2, 3, 4, 5] ?_
   refine .rz ?_
   exact ⟨_, by omega, .v ⟨(i + 1), (c5 K I 5).2, (ms ++ [⟨mnm i, false, 0⟩]), (g + 1), ⟨rfl, ⟨h5.2.2, by omega, by simp [hml], hms.snoc (by rw [hml]) t152 (by simp)⟩⟩, rfl⟩ (he := by (rw [mT]; rfl)) (hk := t76)⟩
  intro e1 qe1
  refine .exit ?_
  have hiN : i = Nn := by omega
  refine c9.nP (γ := 6) (β := 5) (k := 2) (len := i) rfl hz (by omega) (RQ _) rfl (by decide) rfl ?_
  simp only [List.cons_append, List.nil_append, List.set_cons_succ, List.set_cons_zero, List.length_cons, List.length_nil, Nat.reduceAdd, Nat.zero_add, bI]
  generalize fQ 66 3 g (g5 ms) (i * 3) = Mb
  subst hiN
  subst hml
  change c9 ..
  refine c26z ?_
  have hg3 := l6 hI (n := 3) (by omega)
  obtain ⟨Ng, hNg, hNg2⟩ : ∃ n : Nat, (c5 K I 3).1 = (n : Int) ∧ n ≤ 2 := ⟨(c5 K I 3).1.toNat, by omega, by omega⟩
  refine c31z ?_
  refine .ch rfl rfl (bG (L := K) I 3 hI hK (by omega) (by omega)) ?_
  refine c122z ?_
  refine c9.A5 7 rfl ?_
  refine .z7 (fun m st => ∃ (q : Nat) (I2 : Int) (gs : List Gl) (g2 : Nat) (gv : Nat), (m = Ng - q ∧ (OkI K I2 ∧ q ≤ Ng ∧ gs.length = q ∧ YM gs)) ∧ st = ⟨mkS 264 [(2, AV.ptr 3 0 0), (3, AV.ptr 5 0 0), (7, AV.own 9 gv 0 q), (8, AV.int .i64 ((q : Nat) : Int)), (9, AV.int .i64 ((Ng : Nat) : Int))], [b0, b1, b2, ⟨0, false, 27, 3, [.j6, .j6, .j6], 0⟩, ⟨0, false, 91, 2, [.vec K.length (g7 K), .int .i64 I2], 0⟩, ⟨0, false, 93, 6, [.ptr 4 0 0, .own 7 g2 0 q, .vec ms.length (g5 ms), .own 8 0 0 0, .int .i64 24, .bool ar], 0⟩, Mb, p4 97 2 g2 (o8 gs), ⟨0, true, 0, 0, [], 0⟩, p4 9 1 gv (w5 (gs.map (·.name)))]⟩) (.v ⟨0, (c5 K I 3).2, ([] : List Gl), 0, 0, ⟨rfl, ⟨hg3.2.2, by omega, rfl, fun j hj => by simp at hj⟩⟩, rfl⟩) ?_
  rintro m sl h' ⟨q, I2, gs, g2, gv, ⟨hm, ⟨hI2, hq, hgl, hgs⟩⟩, hst⟩
  obtain ⟨rfl, rfl⟩ := St.mk.inj hst; clear hst
  have hz : (o8 gs).length = q * 2 := by rw [cK, hgl]; omega
  have hzv : (w5 (gs.map (·.name))).length = q * 1 := by rw [w9, List.length_map, hgl]; omega
  have h52 := l6 hI2 (n := 5) (by omega)
  refine c0z ?_
  refine u2z ?_ ?_
  ·intro e4 qe4
   refine c2z ?_
   refine c40z ?_
   refine .p 3 ?_
   refine c225z ?_
   refine .p 4 ?_
   refine .rm [true, true] ?_
   refine .cm [true, true] [1032, 1024, 8, 0] [_, _] rfl rfl (by simp only [iV, and_true, List.cons_append, List.nil_append]; exact ⟨bG (L := K) I2 5 hI2 hK (by omega) (by omega), bG (L := K) I2 5 hI2 hK (by omega) (by omega)⟩) ?_
   refine .p 2 ?_
   refine c47z ?_
   refine s8.pop [false, false, false, true, true, false, false, true, true] (by kernel_rfl) (by simp only [pZ, and_true, List.cons_append, List.nil_append]; exact ⟨bX.p5 rfl rfl rfl rfl uP (bG (L := K) I2 5 hI2 hK (by omega) (by omega)) rfl, bX.p5 rfl rfl rfl rfl uP (bG (L := K) I2 5 hI2 hK (by omega) (by omega)) rfl, bX.p5 rfl rfl rfl rfl uP (bG (L := K) I2 5 hI2 hK (by omega) (by omega)) rfl, bX.p5 rfl rfl rfl rfl uP (bG (L := K) I2 5 hI2 hK (by omega) (by omega)) rfl⟩) ?_
   refine c82z ?_
   refine c132z ?_
   refine .c7 [2, 3, 7, 8, 9, 10] ?_
   refine .og s9 (mkH 19 [0, 0, 2, 6, 14, 30, 0, 64, 254, 0, 0, 1024, 3072, 8190, 16383, 32767, 65535, 131071, 262143] [7, 8, 12, 13, 17] [(7, 0), (12, 1)] [0, 128, 384, 4096, 4224, 4480, 12672, 143744] [0, 1, 2, 3, 4, 5, 6, 7, 8, 9]) 2 ?_
   refine .p 5 ?_
   refine .rm [true] ?_
   refine .rm [true] ?_
   refine .em [true] [128, 0] [_] ?_
   refine .em [true, false] [384, 128, 0] [_] ?_
   refine .p 2 ?_
   refine .rn [true, true, true] ?_
   refine .en [true, true, true] [4480, 4224, 4096, 384, 128, 0] [_, _, _] ?_
   refine .en [true, false, false, false, false, false] [12672, 4480, 4224, 4096, 384, 128, 0] [_] ?_
   refine .p 3 ?_
   refine .en [true, false, false, false, false, false, false] [143744, 12672, 4480, 4224, 4096, 384, 128, 0] [_] ?_
   refine .p 1 ?_
   refine c88z ?_
   refine .po [false, false, false, false, true, false, false, true] ?_
   refine .po [false, false, false, true, true, false, true, true] ?_
   refine s8.nil rfl ?_
   change c9 ..
   refine .c7 [2, 3, 7, 8, 9] ?_
   refine .rz ?_
   exact ⟨_, by omega, .v ⟨(q + 1), (c5 K I2 5).2, (gs ++ [(⟨gnm q, (c5 K I2 5).1 - 2⟩ : Gl)]), (g2 + 1), (gv + 1), ⟨rfl, ⟨h52.2.2, by omega, by simp [hgl], hgs.snoc (by rw [hgl]) t152⟩⟩, rfl⟩ (he := by (rw [K7, List.map_append, List.map_cons, List.map_nil, iL]; rfl)) (hk := by exact z5.of ⟨.inl rfl, .inl rfl, .inl rfl, .inl rfl, .inr oO, .inr (eX.get t28), .inl rfl, .inr (by rw [o6]; exact w6.refs (RR _) _), .inl rfl, .inr (by rw [o6]; exact w6.refs (XY _) _), trivial⟩)⟩
  intro e4 qe4
  refine .exit ?_
  refine c9.nP (γ := 7) (β := 5) (k := 1) (len := q) rfl hz (by omega) (RR _) rfl (by decide) rfl ?_
  simp only [List.cons_append, List.nil_append, List.set_cons_succ, List.set_cons_zero, List.length_cons, List.length_nil, Nat.reduceAdd, Nat.zero_add, bI]
  generalize fQ 97 2 g2 (o8 gs) (q * 2) = Gb
  refine c9.A1 (t := 7) (γ := 9) (len := q) rfl hzv (by omega) (XY _) (mP (by decide) rfl) ?_
  rw [bI]
  simp only [List.cons_append, List.nil_append, List.set_cons_succ, List.set_cons_zero, List.length_cons, List.length_nil, Nat.reduceAdd, Nat.zero_add, bI]
  generalize fQ 9 1 gv (w5 (gs.map (·.name))) (q * 1) = Vb
  have hgl2 : gs.length ≤ 2 := by omega
  subst hgl
  change c9 ..
  have hk4 := l6 hI2 (n := 4) (by omega)
  obtain ⟨Nk, hNk, hNk3⟩ : ∃ n : Nat, (c5 K I2 4).1 = (n : Int) ∧ n ≤ 3 := ⟨(c5 K I2 4).1.toNat, by omega, by omega⟩
  refine c31z ?_
  refine .ch rfl rfl (bG (L := K) I2 4 hI2 hK (by omega) (by omega)) ?_
  refine c38z ?_
  refine .c7 [2, 3, 7, 11] ?_
  refine c24z ?_
  refine .z7 (fun m st => ∃ (r : Nat) (I3 : Int) (fs : List Fu) (gF : Nat), (m = (Nk + 1) - r ∧ (OkI K I3 ∧ r ≤ Nk + 1 ∧ fs.length = r ∧ ME fs)) ∧ st = ⟨mkS 264 [(2, AV.ptr 3 0 0), (3, AV.ptr 5 0 0), (7, AV.vec gs.length (w5 (gs.map (·.name)))), (11, AV.int .i64 ((Nk : Nat) : Int)), (12, AV.int .i64 ((r : Nat) : Int))], [b0, b1, b2, ⟨0, false, 27, 3, [.j6, .j6, .j6], 0⟩, ⟨0, false, 91, 2, [.vec K.length (g7 K), .int .i64 I3], 0⟩, ⟨0, false, 93, 6, [.ptr 4 0 0, .vec gs.length (o8 gs), .vec ms.length (g5 ms), .own 8 gF 0 r, .int .i64 24, .bool ar], 0⟩, Mb, Gb, p4 101 3 gF (n6 fs), Vb]⟩) (.v ⟨0, (c5 K I2 4).2, [], 0, ⟨rfl, ⟨hk4.2.2, by omega, rfl, fun j hj => by simp at hj⟩⟩, rfl⟩) ?_
  rintro m sl h' ⟨r, I3, fs, gF, ⟨hm, ⟨hI3, hr, hfl, hfs⟩⟩, hst⟩
  obtain ⟨rfl, rfl⟩ := St.mk.inj hst; clear hst
  have hz : (n6 fs).length = r * 3 := by rw [aJ, hfl]; omega
  have h63 := l6 hI3 (n := 3) (by omega)
  refine c0z ?_
  refine u2z ?_ ?_
  ·intro e5 qe5
   refine c2z ?_
   refine c72z ?_
   refine c38z ?_
   refine .c7 [2, 3, 7, 11, 12, 13] ?_
   refine .z ?_
   refine u2z ?_ ?_
   ·intro e6 qe6
    refine c1z ?_
    refine .seq ?_
    have hnm2 : (⟨#[109, 97, 105, 110]⟩ : BA) = fnm r := by rw [show r = 0 from by omega]; rfl
    generalize hnm : (⟨#[109, 97, 105, 110]⟩ : BA) = nm at hnm2 ⊢
    replace hnm2 : nm = fnm r := hnm2
    replace hnm : nm = nm := rfl
    obtain ⟨N3, hN3, hN32⟩ : ∃ n : Nat, (c5 K I3 3).1 = (n : Int) ∧ n ≤ 2 := ⟨(c5 K I3 3).1.toNat, by omega, by omega⟩
    refine c31z ?_
    refine .ch rfl rfl (bG (L := K) I3 3 hI3 hK (by omega) (by omega)) ?_
    refine c122z ?_
    refine c9.mA (β := 11) (k := 1) rfl rfl ?_
    simp only [List.cons_append, List.nil_append, List.set_cons_succ, List.set_cons_zero, List.length_cons, List.length_nil, Nat.reduceAdd, Nat.zero_add, bI]
    refine .z7 (fun m st => ∃ (n : Nat) (I4 : Int) (ps : List Pm) (gp : Nat), (m = n ∧ (OkI K I4 ∧ n ≤ N3 ∧ MD N3 n ps ∧ (r = 0 → ps = []))) ∧ st = ⟨mkS 264 [(2, AV.ptr 3 0 0), (3, AV.ptr 5 0 0), (7, AV.vec gs.length (w5 (gs.map (·.name)))), (11, AV.int .i64 ((Nk : Nat) : Int)), (12, AV.int .i64 ((r : Nat) : Int)), (13, AV.ptr 11 0 0), (14, AV.int .i64 ((n : Nat) : Int))], [b0, b1, b2, ⟨0, false, 27, 3, [.j6, .j6, .j6], 0⟩, ⟨0, false, 91, 2, [.vec K.length (g7 K), .int .i64 I4], 0⟩, ⟨0, false, 93, 6, [.ptr 4 0 0, .vec gs.length (o8 gs), .vec ms.length (g5 ms), .own 8 gF 0 r, .int .i64 24, .bool ar], 0⟩, Mb, Gb, p4 101 3 gF (n6 fs), Vb, ⟨0, false, 5, 1, [.int .u8 (48 + ((r : Nat) : Int))], 0⟩, ⟨0, false, 101, 3, [.str nm, .own 12 gp 0 ps.length, .j6], 0⟩, p4 103 2 gp (s4 ps)]⟩) (.v ⟨N3, (c5 K I3 3).2, ([] : List Pm), 0, ⟨rfl, ⟨h63.2.2, by omega, .inl ⟨rfl, rfl⟩, fun _ => rfl⟩⟩, rfl⟩ (hs := t48)) ?_
    rintro m sl h' ⟨n, I4, ps, gp, ⟨hm, ⟨hI4, hn, hps, hp0⟩⟩, hst⟩
    obtain ⟨rfl, rfl⟩ := St.mk.inj hst; clear hst
    have hzp : (s4 ps).length = ps.length * 2 := by rw [aA]; omega
    have h73 := l6 hI4 (n := 3) (by omega)
    have hpl := hps.len
    refine .seq ?_
    refine c18z ?_
    refine .spl 147 rfl rfl (fun e7 => ?_) (fun e7 => ?_)
    ·try simp only [e7]
     have qe7 := fact e7
     refine .m [(2, 147)] ?_
     refine u2z ?_ ?_
     ·intro e8 qe8
      refine c2z ?_
      refine c40z ?_
      refine .p 3 ?_
      refine c225z ?_
      refine .p 4 ?_
      refine .rm [true, true] ?_
      refine .cm [true, true] [1032, 1024, 8, 0] [_, _] rfl rfl t111 ?_
      refine .p 2 ?_
      refine c47z ?_
      refine s8.pop [false, false, false, true, true, false, false, true, true] (by kernel_rfl) t66 ?_
      refine c82z ?_
      refine c132z ?_
      refine .c7 [2, 3, 7, 11, 12, 13, 14, 15] ?_
      refine c46z ?_
      exact ⟨_, by omega, .v ⟨(n - 1), (c5 K I4 3).2, (ps ++ [(⟨pnm n, decide ((c5 K I4 3).1 > 0)⟩ : Pm)]), (gp + 1), ⟨rfl, ⟨h73.2.2, by omega, hps.step (by omega) (by omega) rfl, fun h => by omega⟩⟩, rfl⟩ (he := by (rw [uM, List.length_append]; rfl)) (hk := t88) (hs := t48)⟩
     intro e8 qe8
     refine .exit ?_
     refine c145z ?_
     simp only [List.cons_append, List.nil_append, List.set_cons_succ, List.set_cons_zero, List.length_cons, List.length_nil, Nat.reduceAdd, Nat.zero_add, bI]
     generalize fQ 103 2 gp (s4 ps) (ps.length * 2) = Pb
     change c9 ..
     refine c199z ?_
     refine c191z ?_
     refine .rz ?_
     exact ⟨_, by omega, .v ⟨(r + 1), I4, (fs ++ [⟨nm, ps, .nil⟩]), (gF + 1), ⟨rfl, ⟨hI4, by omega, by simp [hfl], hfs.snoc t147 t165 (hps.fin t112 (by omega))⟩⟩, rfl⟩ (he := t182) (hk := t50)⟩
    try simp only [e7]
    have qe7 := fact e7
    refine .m [(2, 147)] ?_
    refine .F ?_
    refine .exit ?_
    refine c145z ?_
    simp only [List.cons_append, List.nil_append, List.set_cons_succ, List.set_cons_zero, List.length_cons, List.length_nil, Nat.reduceAdd, Nat.zero_add, bI]
    generalize fQ 103 2 gp (s4 ps) (ps.length * 2) = Pb
    change c9 ..
    refine c199z ?_
    refine c191z ?_
    refine .rz ?_
    exact ⟨_, by omega, .v ⟨(r + 1), I4, (fs ++ [⟨nm, ps, .nil⟩]), (gF + 1), ⟨rfl, ⟨hI4, by omega, by simp [hfl], hfs.snoc t147 t165 (hps.fin t112 (by omega))⟩⟩, rfl⟩ (he := t182) (hk := t50)⟩
   intro e6 qe6
   refine c190z ?_
   have hnm2 : fnr r = fnm r := by rw [fnm, if_neg (by omega)]; rfl
   generalize hnm : fnr r = nm at hnm2 ⊢
   replace hnm2 : nm = fnm r := hnm2
   replace hnm : nm = nm := rfl
   obtain ⟨N3, hN3, hN32⟩ : ∃ n : Nat, (c5 K I3 3).1 = (n : Int) ∧ n ≤ 2 := ⟨(c5 K I3 3).1.toNat, by omega, by omega⟩
   refine c31z ?_
   refine .ch rfl rfl (bG (L := K) I3 3 hI3 hK (by omega) (by omega)) ?_
   refine c122z ?_
   refine c9.mA (β := 11) (k := 1) rfl rfl ?_
   simp only [List.cons_append, List.nil_append, List.set_cons_succ, List.set_cons_zero, List.length_cons, List.length_nil, Nat.reduceAdd, Nat.zero_add, bI]
   refine .z7 (fun m st => ∃ (n : Nat) (I4 : Int) (ps : List Pm) (gp : Nat), (m = n ∧ (OkI K I4 ∧ n ≤ N3 ∧ MD N3 n ps ∧ (r = 0 → ps = []))) ∧ st = ⟨mkS 264 [(2, AV.ptr 3 0 0), (3, AV.ptr 5 0 0), (7, AV.vec gs.length (w5 (gs.map (·.name)))), (11, AV.int .i64 ((Nk : Nat) : Int)), (12, AV.int .i64 ((r : Nat) : Int)), (13, AV.ptr 11 0 0), (14, AV.int .i64 ((n : Nat) : Int))], [b0, b1, b2, ⟨0, false, 27, 3, [.j6, .j6, .j6], 0⟩, ⟨0, false, 91, 2, [.vec K.length (g7 K), .int .i64 I4], 0⟩, ⟨0, false, 93, 6, [.ptr 4 0 0, .vec gs.length (o8 gs), .vec ms.length (g5 ms), .own 8 gF 0 r, .int .i64 24, .bool ar], 0⟩, Mb, Gb, p4 101 3 gF (n6 fs), Vb, ⟨0, false, 5, 1, [.int .u8 (48 + ((r : Nat) : Int))], 0⟩, ⟨0, false, 101, 3, [.str nm, .own 12 gp 0 ps.length, .j6], 0⟩, p4 103 2 gp (s4 ps)]⟩) (.v ⟨N3, (c5 K I3 3).2, ([] : List Pm), 0, ⟨rfl, ⟨h63.2.2, by omega, .inl ⟨rfl, rfl⟩, fun _ => rfl⟩⟩, rfl⟩ (hs := t48)) ?_
   rintro m sl h' ⟨n, I4, ps, gp, ⟨hm, ⟨hI4, hn, hps, hp0⟩⟩, hst⟩
   obtain ⟨rfl, rfl⟩ := St.mk.inj hst; clear hst
   have hzp : (s4 ps).length = ps.length * 2 := by rw [aA]; omega
   have h73 := l6 hI4 (n := 3) (by omega)
   have hpl := hps.len
   refine .seq ?_
   refine c18z ?_
   refine .spl 147 rfl rfl (fun e9 => ?_) (fun e9 => ?_)
   ·try simp only [e9]
    have qe9 := fact e9
    refine .m [(2, 147)] ?_
    refine u2z ?_ ?_
    ·intro e10 qe10
     refine c2z ?_
     refine c40z ?_
     refine .p 3 ?_
     refine c225z ?_
     refine .p 4 ?_
     refine .rm [true, true] ?_
     refine .cm [true, true] [1032, 1024, 8, 0] [_, _] rfl rfl t111 ?_
     refine .p 2 ?_
     refine c47z ?_
     refine s8.pop [false, false, false, true, true, false, false, true, true] (by kernel_rfl) t66 ?_
     refine c82z ?_
     refine c132z ?_
     refine .c7 [2, 3, 7, 11, 12, 13, 14, 15] ?_
     refine c46z ?_
     exact ⟨_, by omega, .v ⟨(n - 1), (c5 K I4 3).2, (ps ++ [(⟨pnm n, decide ((c5 K I4 3).1 > 0)⟩ : Pm)]), (gp + 1), ⟨rfl, ⟨h73.2.2, by omega, hps.step (by omega) (by omega) rfl, fun h => by omega⟩⟩, rfl⟩ (he := by (rw [uM, List.length_append]; rfl)) (hk := t88) (hs := t48)⟩
    intro e10 qe10
    refine .exit ?_
    refine c145z ?_
    simp only [List.cons_append, List.nil_append, List.set_cons_succ, List.set_cons_zero, List.length_cons, List.length_nil, Nat.reduceAdd, Nat.zero_add, bI]
    generalize fQ 103 2 gp (s4 ps) (ps.length * 2) = Pb
    change c9 ..
    refine c199z ?_
    refine c191z ?_
    refine .rz ?_
    exact ⟨_, by omega, .v ⟨(r + 1), I4, (fs ++ [⟨nm, ps, .nil⟩]), (gF + 1), ⟨rfl, ⟨hI4, by omega, by simp [hfl], hfs.snoc t147 t165 (hps.fin t112 (by omega))⟩⟩, rfl⟩ (he := t182) (hk := t50)⟩
   try simp only [e9]
   have qe9 := fact e9
   refine .m [(2, 147)] ?_
   refine .F ?_
   refine .exit ?_
   refine c145z ?_
   simp only [List.cons_append, List.nil_append, List.set_cons_succ, List.set_cons_zero, List.length_cons, List.length_nil, Nat.reduceAdd, Nat.zero_add, bI]
   generalize fQ 103 2 gp (s4 ps) (ps.length * 2) = Pb
   change c9 ..
   refine c199z ?_
   refine c191z ?_
   refine .rz ?_
   exact ⟨_, by omega, .v ⟨(r + 1), I4, (fs ++ [⟨nm, ps, .nil⟩]), (gF + 1), ⟨rfl, ⟨hI4, by omega, by simp [hfl], hfs.snoc t147 t165 (hps.fin t112 (by omega))⟩⟩, rfl⟩ (he := t182) (hk := t50)⟩
  intro e5 qe5
  refine .exit ?_
  have hrN : r = Nk + 1 := by omega
  rw [cU (zs := n6 fs) (by intro h0; have := congrArg List.length h0; rw [hz] at this; simp at this; omega)]
  change c9 ..
  refine c4z ?_
  refine .z7 (fun m st => ∃ (s : Nat) (I5 : Int) (lf : Int) (fs2 : List Fu), (m = fs.length - s ∧ (OkI K I5 ∧ s ≤ fs.length ∧ Db gs ms fs2 s lf ∧ mC fs2 = mC fs ∧ fs2.length = fs.length)) ∧ st = ⟨mkS 264 [(2, AV.ptr 3 0 0), (3, AV.ptr 5 0 0), (7, AV.vec gs.length (w5 (gs.map (·.name)))), (16, AV.int .i64 ((s : Nat) : Int))], [b0, b1, b2, ⟨0, false, 27, 3, [.j6, .j6, .j6], 0⟩, ⟨0, false, 91, 2, [.vec K.length (g7 K), .int .i64 I5], 0⟩, ⟨0, false, 93, 6, [.ptr 4 0 0, .vec gs.length (o8 gs), .vec ms.length (g5 ms), .own 8 gF 0 fs2.length, .int .i64 lf, .bool ar], 0⟩, Mb, Gb, ⟨gF, false, 101, 3, n6 fs2, 0⟩, Vb]⟩) (.v ⟨0, I3, 24, fs, ⟨rfl, ⟨hI3, Nat.zero_le _, ⟨fun j hj => by omega, by simp [qM], by omega⟩, rfl, rfl⟩⟩, rfl⟩) ?_ (he := by (rw [← hfl]))
  rintro m sl h' ⟨s, I5, lf, fs2, ⟨hm, ⟨hI5, hs, hbd, hhd, hfl2⟩⟩, hst⟩
  obtain ⟨rfl, rfl⟩ := St.mk.inj hst; clear hst
  have hbo := hbd.ol
  have hfs2 := hfs.mC hhd
  refine c0z ?_
  refine u2z ?_ ?_
  ·intro e11 qe11
   refine c2z ?_
   refine .c7 [2, 3, 7, 16] ?_
   have hps2 : (fs2.getD s g9).params.length ≤ 2 := by rcases (hfs2 s (by omega)).2.2 with h | h | h <;> (have := congrArg List.length h; rw [List.length_map] at this; simp only [List.length_nil, List.length_cons] at this; omega)
   have hvn : (gs.map (·.name)).length = gs.length := List.length_map _
   refine c53z ?_
   refine .z7 (fun m st => ∃ (j : Nat) (gw : Nat), (m = (fs2.getD s g9).params.length - j ∧ j ≤ (fs2.getD s g9).params.length) ∧ st = ⟨mkS 264 [(2, AV.ptr 3 0 0), (3, AV.ptr 5 0 0), (7, AV.vec gs.length (w5 (gs.map (·.name)))), (16, AV.int .i64 ((s : Nat) : Int)), (17, AV.own 10 gw 0 (gs.map (·.name) ++ bW ((fs2.getD s g9).params.take j)).length), (18, AV.int .i64 ((j : Nat) : Int))], [b0, b1, b2, ⟨0, false, 27, 3, [.j6, .j6, .j6], 0⟩, ⟨0, false, 91, 2, [.vec K.length (g7 K), .int .i64 I5], 0⟩, ⟨0, false, 93, 6, [.ptr 4 0 0, .vec gs.length (o8 gs), .vec ms.length (g5 ms), .own 8 gF 0 fs2.length, .int .i64 lf, .bool ar], 0⟩, Mb, Gb, ⟨gF, false, 101, 3, n6 fs2, 0⟩, Vb, ⟨gw, false, 9, 1, w5 (gs.map (·.name) ++ bW ((fs2.getD s g9).params.take j)), 0⟩]⟩) (.v ⟨0, (gO 0 gs.length), ⟨rfl, Nat.zero_le _⟩, rfl⟩ (hs := t49)) ?_ (he := by (rw [show bW ((fs2.getD s g9).params.take 0) = [] from rfl, List.append_nil]))
   rintro m sl h' ⟨j, gw, ⟨hm, hj⟩, hst⟩
   obtain ⟨rfl, rfl⟩ := St.mk.inj hst; clear hst
   have hil : (bW ((fs2.getD s g9).params.take j)).length ≤ 2 := Nat.le_trans (U4 _) t57
   have holn : (gs.map (·.name) ++ bW ((fs2.getD s g9).params.take j)).length = gs.length + (bW ((fs2.getD s g9).params.take j)).length := by simp
   refine .seq ?_
   refine c177z ?_
   refine u2z ?_ ?_
   ·intro e12 qe12
    refine c2z ?_
    refine .c7 [2, 3, 7, 16, 17, 18] ?_
    refine c177z ?_
    refine u2z ?_ ?_
    ·intro e13 qe13
     refine .c7 [2, 3, 7, 16, 17, 18] ?_
     refine c120z ?_
     refine .e 8 ?_
     refine c25z ?_
     refine .c7 [2, 3, 7, 16, 17, 18] ?_
     refine .rz ?_
     have hsu := C9 (l := (fs2.getD s g9).params) (j := j) (by omega); rw [show ((fs2.getD s g9).params.getD j fR).mu = false from by simp_all] at hsu; simp only [Bool.false_eq_true, if_false, if_true, List.append_nil] at hsu
     have hsl := congrArg List.length hsu; try simp only [List.length_append, List.length_cons, List.length_nil] at hsl
     have hnl : (gs.map (·.name) ++ bW ((fs2.getD s g9).params.take (j + 1))).length = (gs.map (·.name) ++ bW ((fs2.getD s g9).params.take j)).length + 1 := by simp only [List.length_append]; omega
     exact ⟨_, by omega, .v ⟨(j + 1), (gw + 1), ⟨rfl, by omega⟩, rfl⟩ (he := by (rw [hsu, ← List.append_assoc]; rfl)) (hk := t116) (hs := t49)⟩
    intro e13 qe13
    refine c5z ?_
    refine .c7 [2, 3, 7, 16, 17, 18] ?_
    refine .rz ?_
    have hsu := C9 (l := (fs2.getD s g9).params) (j := j) (by omega); rw [show ((fs2.getD s g9).params.getD j fR).mu = true from by simp_all] at hsu; simp only [Bool.false_eq_true, if_false, if_true, List.append_nil] at hsu
    have hsl := congrArg List.length hsu; try simp only [List.length_append, List.length_cons, List.length_nil] at hsl
    have hnl : (gs.map (·.name) ++ bW ((fs2.getD s g9).params.take (j + 1))).length = (gs.map (·.name) ++ bW ((fs2.getD s g9).params.take j)).length := by simp only [List.length_append]; omega
    exact ⟨_, by omega, .v ⟨(j + 1), gw, ⟨rfl, by omega⟩, rfl⟩ (he := by (rw [hsu]; rfl)) (hk := t116) (hs := t49)⟩
   intro e12 qe12
   refine .exit ?_
   have hjN : j = (fs2.getD s g9).params.length := by omega
   rw [hjN, List.take_length] at *
   change c9 ..
   refine .c7 [2, 3, 7, 16, 17] ?_
   refine raise (β := 10) (k := (gs.map (·.name) ++ bW (fs2.getD s g9).params).length) rfl (Nat.zero_le _) ?_
   simp only [List.cons_append, List.nil_append, List.set_cons_succ, List.set_cons_zero, List.length_cons, List.length_nil, Nat.reduceAdd, Nat.zero_add, bI]
   have hcc : OkC (⟨K, gs, ms, fs2, gF, ar⟩ : Core) := okC_of hms ⟨by omega, by omega⟩ hfs2 ⟨by omega, by omega⟩
   have hfrs := Y6 hgs hgl2 (hfs2 s (by omega)).2.2
   have hok := fV hcc (ps := (fs2.getD s g9).params) 24 (gs.map (·.name) ++ bW (fs2.getD s g9).params) 2 6 I5 (gs.map (·.name) ++ bW (fs2.getD s g9).params) lf (by omega) (by omega) hI5 (by omega) (by omega) (by omega) (fun x hx => hx) (hfrs.mono (by omega))
   generalize hRB : g0 (⟨K, gs, ms, fs2, gF, ar⟩ : Core) (fs2.getD s g9).params 24 (gs.map (·.name) ++ bW (fs2.getD s g9).params) 2 6 I5 lf = RB at hok
   refine c9.iZ s9 (mkP 20 [0, 1, 3, 7, 15, 0, 0, 0, 128, 384, 896, 1920, 0, 8064, 16256, 0, 65472, 131071, 262143, 524287] [16, 19]) [0, 1, 2, 3, 4, 5] (by kernel_rfl) (by kernel_rfl) ?_
   refine dS.p (pd := []) 16 ?_
   refine dS.p5 rfl rfl rfl rfl rfl hb48 (c_top hcc hK (f := (fs2.getD s g9)) (n := gs.length + (bW (fs2.getD s g9).params).length) hps2 hI5 (by simp only [List.length_append, List.length_map]) hRB (by omega) (by omega) hfrs (by have := U4 (fs2.getD s g9).params; simp only [List.length_append, List.length_map]; omega) (b0 := b0) (b1 := b1) (b2 := b2) (z := ⟨0, false, 27, 3, [.j6, .j6, .j6], 0⟩) (mb := Mb) (gb := Gb) (vb := Vb)) ?_
   refine dS.p 3 ?_
   refine dS.nil t10 ?_
   change c9 ..
   refine .c7 [2, 3, 7, 16] ?_
   refine .rz ?_
   exact ⟨_, by omega, .v ⟨(s + 1), RB.2.1, RB.2.2, (setBody fs2 s RB.1), ⟨rfl, ⟨hok.oi, by omega, hbd.step (by omega) hok, (nX (by omega)).trans hhd, jK.trans hfl2⟩⟩, rfl⟩ (he := by (simp only [jK]; rfl)) (hk := by exact z5.of ⟨.inl rfl, .inl rfl, .inl rfl, .inl rfl, .inr oO, .inr (eX.get t28), .inl rfl, .inl rfl, .inr (w6.refs (IE _) _), .inl rfl, trivial⟩)⟩
  intro e11 qe11
  refine .exit ?_
  have hsN : s = fs.length := by omega
  change c9 ..
  refine .c7 [2, 3] ?_
  refine c32z ?_
  exact ⟨_, _, rfl, (by show gJ 3 _ 6 (.agg [.vec gs.length (o8 gs), .vec ms.length (g5 ms), .own 8 gF 0 fs2.length]) = _; simp only [qW, dT, qX, o2, List.length_cons, List.length_nil, Nat.reduceAdd, show ¬ 8 < 3 from by decide, if_false]; rw [iK (e := 101) (K := 3) (g := gF) (zs := n6 fs2) (zs' := n6 fs2) (by rw [cU (by intro h0; have := congrArg List.length h0; rw [aJ] at this; simp at this; omega)]; rfl) (by decide) (by rw [aJ]; omega) (by omega) (w6.frz (IE _) _ _ _)]; rfl), ⟨⟨gs, ms, fs2⟩, prog_ok hgs hgl2 hms ⟨by omega, by omega⟩ hfs2 ⟨by omega, by omega⟩ (by rw [hfl2, ← hsN]; exact hbd), rfl⟩⟩
end Go.Proofs.YtfbjlfhjkojmkaaGreat
end
