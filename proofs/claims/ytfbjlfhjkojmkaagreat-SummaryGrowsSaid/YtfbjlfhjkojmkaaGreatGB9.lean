/- My own texts, put together by a program of mine. -/
import Derived.Test.YtfbjlfhjkojmkaaGreatGB8
set_option linter.unusedSimpArgs false
set_option linter.unusedVariables false
set_option maxRecDepth 100000
set_option maxHeartbeats 4000000
section
namespace Go.Proofs.YtfbjlfhjkojmkaaGreat
open Go.Ab Go.Un
set_option maxHeartbeats 40000000
theorem RG (l : List Mx) : w6 (g5 l) := w6.flat fun _ => w6.cons .str (w6.cons .bool (w6.cons .int .nil))
theorem RH (l : List Gl) : w6 (o6 l) := w6.flat fun _ => w6.cons .str (w6.cons .int .nil)
theorem RJ (l : List Pm) : w6 (s3 l) := w6.flat fun _ => w6.cons .str (w6.cons .bool .nil)
theorem HV (l : List Fu) : w6 (m9 l) := w6.flat fun _ => w6.cons .str (w6.cons .vec (w6.cons .vec .nil))
theorem XV (l : List BA) : w6 (w5 l) := w6.map fun _ => .str
theorem mX {l : List Mx} {m : Mx} : g5 (l ++ [m]) = g5 l ++ [.str m.name, .bool m.re, .int .i64 m.size] := by simp [g5, KB]
theorem L5 {l : List Gl} {m : Gl} : o6 (l ++ [m]) = o6 l ++ [.str m.name, .int .i64 m.init] := by simp [o6, X4]
theorem uR {l : List Pm} {m : Pm} : s3 (l ++ [m]) = s3 l ++ [.str m.name, .bool m.mu] := by simp [s3, X3]
theorem L6 {l : List Fu} {m : Fu} : m9 (l ++ [m]) = m9 l ++ [.str m.name, .vec m.params.length (s3 m.params), .vec m.body.len (n9 m.body)] := by simp [m9, dD]
variable {L : List Int}
theorem famL (a b c d : Blk) (rest : c6) : bI 4 L (rest.length + 5) fun I => a :: b :: c :: d :: ⟨0, false, 91, 2, [.vec L.length (g9 L), .int .i64 I], 0⟩ :: rest := ⟨fun _ => rfl, fun _ _ => rfl, fun _ => by simp⟩
theorem bK {a b c d : Blk} {rest : c6} (I n : Int) (hI : OkI L I) (hL : L.length < 4611686018427387904) (hn : 0 < n) (hm : n ≤ 4611686018427387904) : CH 47 [.ptr 4 0 0, .int .i64 n] (a :: b :: c :: d :: ⟨0, false, 91, 2, [.vec L.length (g9 L), .int .i64 I], 0⟩ :: rest) (.int .i64 (c5 L I n).1) (a :: b :: c :: d :: ⟨0, false, 91, 2, [.vec L.length (g9 L), .int .i64 (c5 L I n).2], 0⟩ :: rest) := B7 (famL a b c d rest) I n hI hL hn hm
variable {i : Nat}
theorem mnm_eq : (⟨#[UInt8.ofNat (97 + (i : Int)).toNat]⟩ : BA) = mnm i := by
  rw [show (97 + (i : Int)).toNat = 97 + i from by omega]
  rfl
theorem HW {a b : UInt8} : (⟨#[a]⟩ : BA) ++ (⟨#[b]⟩ : BA) = ⟨#[a, b]⟩ := by
  apply ByteArray.ext
  simp [ByteArray.data_append]
def fnr (i : Nat) : BA := ⟨#[102, UInt8.ofNat (48 + i)]⟩
theorem gnm_eq : (⟨#[103]⟩ : BA) ++ (⟨#[UInt8.ofNat (48 + (i : Int)).toNat]⟩ : BA) = gnm i := by
  rw [HW, show (48 + (i : Int)).toNat = 48 + i from by omega]
  rfl
theorem pnm_eq : (⟨#[112]⟩ : BA) ++ (⟨#[UInt8.ofNat (48 + (i : Int)).toNat]⟩ : BA) = pnm i := by
  rw [HW, show (48 + (i : Int)).toNat = 48 + i from by omega]
  rfl
theorem fnr_eq : (⟨#[102]⟩ : BA) ++ (⟨#[UInt8.ofNat (48 + (i : Int)).toNat]⟩ : BA) = fnr i := by
  rw [HW, show (48 + (i : Int)).toNat = 48 + i from by omega]
  rfl
theorem sz_one {a : UInt8} : (⟨#[a]⟩ : BA).size = 1 := rfl
variable {n : Nat}
theorem oS {I : Int} : ∀ x ∈ [AV.vec L.length (g9 L), .int .i64 I], Refs n x := fC.get ⟨.vec _ _, .int _ _, trivial⟩
variable {a0 a1 a2 a3 a4 a5 a7 a8 a9 a10 : Blk} {l : c6} {g q : Nat} {zs : List AV} {x y : AV}
theorem app_mx {z : AV} (hz : zs.length = n * 3) (hn : n < 1000) : j4 cfg 66 (a0 :: a1 :: a2 :: a3 :: a4 :: a5 :: p6 66 3 g zs :: a7 :: a8 :: a9 :: a10 :: ⟨q, false, 66, 3, [x, y, z], 0⟩ :: l) (.own 6 g 0 n) (.own 11 q 0 1) = some (.own 6 (g + 1) 0 (n + 1), a0 :: a1 :: a2 :: a3 :: a4 :: a5 :: p6 66 3 (g + 1) (zs ++ [x, y, z]) :: a7 :: a8 :: a9 :: a10 :: ⟨q, false, 66, 3, [x, y, z], 0⟩ :: l) := by
  rw [z8 (C := cfg) (K := 3) (m := 1) (new := [x, y, z]) (zs := zs) rfl rfl (by omega) hz rfl (by omega) t93 rfl (by decide) (by omega)]
  rfl
variable {a6 a11 : Blk}
theorem app_gl (hz : zs.length = n * 2) (hn : n < 1000) : j4 cfg 97 (a0 :: a1 :: a2 :: a3 :: a4 :: a5 :: a6 :: p6 97 2 g zs :: a8 :: a9 :: a10 :: a11 :: ⟨q, false, 97, 2, [x, y], 0⟩ :: l) (.own 7 g 0 n) (.own 12 q 0 1) = some (.own 7 (g + 1) 0 (n + 1), a0 :: a1 :: a2 :: a3 :: a4 :: a5 :: a6 :: p6 97 2 (g + 1) (zs ++ [x, y]) :: a8 :: a9 :: a10 :: a11 :: ⟨q, false, 97, 2, [x, y], 0⟩ :: l) := by
  rw [z8 (C := cfg) (K := 2) (m := 1) (new := [x, y]) (zs := zs) rfl rfl (by omega) hz rfl (by omega) t93 rfl (by decide) (by omega)]
  rfl
variable {a12 : Blk}
theorem app_vr (hz : zs.length = n * 1) (hn : n < 1000) : j4 cfg 9 (a0 :: a1 :: a2 :: a3 :: a4 :: a5 :: a6 :: a7 :: a8 :: p6 9 1 g zs :: a10 :: a11 :: a12 :: ⟨q, false, 9, 1, [x], 0⟩ :: l) (.own 9 g 0 n) (.own 13 q 0 1) = some (.own 9 (g + 1) 0 (n + 1), a0 :: a1 :: a2 :: a3 :: a4 :: a5 :: a6 :: a7 :: a8 :: p6 9 1 (g + 1) (zs ++ [x]) :: a10 :: a11 :: a12 :: ⟨q, false, 9, 1, [x], 0⟩ :: l) := by
  rw [z8 (C := cfg) (K := 1) (m := 1) (new := [x]) (zs := zs) rfl rfl (by omega) hz rfl (by omega) t93 rfl (by decide) (by omega)]
  rfl
theorem app_pm {a13 a14 : Blk} (hz : zs.length = n * 2) (hn : n < 1000) : j4 cfg 103 (a0 :: a1 :: a2 :: a3 :: a4 :: a5 :: a6 :: a7 :: a8 :: a9 :: a10 :: a11 :: p6 103 2 g zs :: a13 :: a14 :: ⟨q, false, 103, 2, [x, y], 0⟩ :: l) (.own 12 g 0 n) (.own 15 q 0 1) = some (.own 12 (g + 1) 0 (n + 1), a0 :: a1 :: a2 :: a3 :: a4 :: a5 :: a6 :: a7 :: a8 :: a9 :: a10 :: a11 :: p6 103 2 (g + 1) (zs ++ [x, y]) :: a13 :: a14 :: ⟨q, false, 103, 2, [x, y], 0⟩ :: l) := by
  rw [z8 (C := cfg) (K := 2) (m := 1) (new := [x, y]) (zs := zs) rfl rfl (by omega) hz rfl (by omega) t93 rfl (by decide) (by omega)]
  rfl
theorem app_fu {z : AV} (hz : zs.length = n * 3) (hn : n < 1000) : j4 cfg 101 (a0 :: a1 :: a2 :: a3 :: a4 :: a5 :: a6 :: a7 :: p6 101 3 g zs :: a9 :: a10 :: a11 :: a12 :: ⟨q, false, 101, 3, [x, y, z], 0⟩ :: l) (.own 8 g 0 n) (.own 13 q 0 1) = some (.own 8 (g + 1) 0 (n + 1), a0 :: a1 :: a2 :: a3 :: a4 :: a5 :: a6 :: a7 :: p6 101 3 (g + 1) (zs ++ [x, y, z]) :: a9 :: a10 :: a11 :: a12 :: ⟨q, false, 101, 3, [x, y, z], 0⟩ :: l) := by
  rw [z8 (C := cfg) (K := 3) (m := 1) (new := [x, y, z]) (zs := zs) rfl rfl (by omega) hz rfl (by omega) t93 rfl (by decide) (by omega)]
  rfl
variable {vs : List BA}
theorem app_cp (hz : vs.length = n) (hn : n < 1000) : j4 cfg 9 (a0 :: a1 :: a2 :: a3 :: a4 :: a5 :: a6 :: a7 :: a8 :: a9 :: [⟨0, false, 9, 1, [], 0⟩]) (.own 10 0 0 0) (.vec n (w5 vs)) = some (.own 10 (gO 0 n) 0 n, a0 :: a1 :: a2 :: a3 :: a4 :: a5 :: a6 :: a7 :: a8 :: a9 :: [⟨gO 0 n, false, 9, 1, w5 vs, 0⟩]) := by
  subst hz
  have e1 : cfg.sz 9 = 1 := rfl
  have e2 : (cfg.ti 9).bytes = 16 := rfl
  have hm : vs.length ≤ maxLen := by
    have : (1000 : Nat) ≤ maxLen := by decide
    omega
  have hb : vs.length * 16 ≤ 140737488355328 := by omega
  cases vs with
  | nil => simp [j4, rd, lenOf, e1, e2, gO, w5]
  | cons x vs =>
    have h0 : (w5 (x :: vs)).length = vs.length + 1 := by simp [w5]
    simp only [List.length_cons] at hm hb
    simp [j4, rd, lenOf, e1, e2, gO, h0, hm, hb]
theorem app_on {x : BA} (hz : vs.length = n) (hn : n < 1000) : j4 cfg 9 (a0 :: a1 :: a2 :: a3 :: a4 :: a5 :: a6 :: a7 :: a8 :: a9 :: ⟨g, false, 9, 1, w5 vs, 0⟩ :: ⟨q, false, 9, 1, [.str x], 0⟩ :: l) (.own 10 g 0 n) (.own 11 q 0 1) = some (.own 10 (g + 1) 0 (n + 1), a0 :: a1 :: a2 :: a3 :: a4 :: a5 :: a6 :: a7 :: a8 :: a9 :: ⟨g + 1, false, 9, 1, w5 (vs ++ [x]), 0⟩ :: ⟨q, false, 9, 1, [.str x], 0⟩ :: l) := by
  subst hz
  have e1 : cfg.sz 9 = 1 := rfl
  have e2 : (cfg.ti 9).bytes = 16 := rfl
  have hm : vs.length + 1 ≤ maxLen := by
    have : (1001 : Nat) ≤ maxLen := by decide
    omega
  have hb : (vs.length + 1) * 16 ≤ 140737488355328 := by omega
  have ht : List.take vs.length (w5 vs) = w5 vs := List.take_of_length_le t146
  have hnl : ¬ vs.length + 1 ≤ vs.length := by omega
  simp [j4, rd, lenOf, e1, e2, w9, hm, hb, ht, hnl, iR]
theorem OT {l : List Fu} (h : i < l.length) : List.take 1 (List.drop (i * 3 + 1) (m9 l)) = [AV.vec (l.getD i g7).params.length (s3 (l.getD i g7).params)] := by
  have := congrArg (fun x => (x.drop 1).take 1) (sZ h)
  simp only [List.drop_take, List.drop_drop, List.take_take] at this
  simpa [dD] using this
theorem HX : ∀ {l : List Fu} {i : Nat} {B : Sl}, i < l.length → List.take (i * 3 + 2) (m9 l) ++ AV.vec B.len (n9 B) :: List.drop (i * 3 + 2 + 1) (m9 l) = m9 (setBody l i B)
  | f :: l, 0, B, _ => by
    simp only [m9, List.flatMap_cons, dD, setBody]
    rfl
  | f :: l, i + 1, B, h => by
    have ih := HX (l := l) (i := i) (B := B) (by simpa using h)
    have e1 : m9 (f :: l) = .str f.name :: .vec f.params.length (s3 f.params) :: .vec f.body.len (n9 f.body) :: m9 l := rfl
    have e2 : setBody (f :: l) (i + 1) B = f :: setBody l i B := by simp [setBody, List.getD]
    have e3 : m9 (f :: setBody l i B) = .str f.name :: .vec f.params.length (s3 f.params) :: .vec f.body.len (n9 f.body) :: m9 (setBody l i B) := rfl
    rw [e1, e2, e3, ← ih, show (i + 1) * 3 + 2 = i * 3 + 2 + 1 + 1 + 1 from by omega]
    rfl
attribute [local go_sem] rd m6 w9 n7 cK aB aL Int.natCast_nonneg Int.natCast_inj List.length_map wrap64 wrap8 mnm_eq gnm_eq pnm_eq fnr_eq sz_one kP gS app_mx app_gl app_vr app_pm app_fu app_cp app_on OT R6 jU sZ HX Q4 B5 H8 Q5 xR max2 List.flatten_nil List.flatten_cons hB
theorem U8 (l : List Pm) : (bY l).length ≤ l.length := by
  simp only [bY, List.length_map]
  exact List.length_filter_le _ _
theorem c_top {c : Core} (hc : OkC c) (hL : c.L.length < 4611686018427387904) {f : Fu} (hp : f.params.length ≤ 2) {I lf : Int} (hI : OkI c.L I) (hn : vs.length = n) {R : BR} (hR : g0 c f.params 24 vs 2 6 I lf = R) (h0 : 0 ≤ lf) (h1 : lf ≤ 24) (hfr : Fr 24 vs) (hN : vs.length ≤ 100) {b0 b1 b2 z mb gb vb : Blk} {gw : Nat} :
    CallA Tryz.prog cfg 48 [.ptr 5 0 0, .agg (dD f), .own 10 gw 0 n, .int .i64 2, .int .i64 6] (hB c ⟨b0, b1, b2, z, mb, gb, [vb, ⟨gw, false, 9, 1, w5 vs, n⟩]⟩ I lf) (fun y' h' => y' = .vec R.1.len (n9 R.1) ∧ h' = hB c ⟨b0, b1, b2, z, mb, gb, [vb, ⟨gw, false, 9, 1, w5 vs, n⟩]⟩ R.2.1 R.2.2) := by
  subst hn
  subst hR
  refine G4 (args' := [.ptr 5 0 0, .agg (dD f), .vec vs.length (w5 vs), .int .i64 2, .int .i64 6]) (β := 10) (g := gw) (vs := vs) rfl ⟨.inl rfl, .inl rfl, .inr ⟨rfl, rfl⟩, .inl rfl, .inl rfl, trivial⟩ ?_
  exact HU hc hL f hp 24 24 lf (Nat.le_refl _) (by omega) h0 h1 I lf vs vs 2 6 hI h0 (by omega) (by omega) (by omega) (by omega) (by omega) (fun x hx => hx) (hfr.mono (by omega)) (by omega)
theorem HY {b0 b1 b2 : Blk} (L : List Int) (hL : L.length < 4611686018427387904) : CallA Tryz.prog cfg 27 [.vec L.length (g9 L)] [b0, b1, b2] (fun y' h' => (∃ p, GP p ∧ y' = .agg (X5 p)) ∧ h' = [b0, b1, b2]) := by
  refine .bz Tryz.f27 264 ?_
  refine c127z ?_
  refine .ca rfl rfl (c_cut L 400 (by omega)) ?_
  refine .n ?_
  have hK1 : (L.take 400).length ≤ 400 := by rw [List.length_take]; exact Nat.min_le_left _ _
  generalize L.take 400 = K at *
  have hK : K.length < 4611686018427387904 := by omega
  have hKI : OkI K 0 := ⟨Int.le_refl _, by omega⟩
  have h3 := l5 hKI (n := 3) (by omega)
  refine c22z ?_
  refine .ch rfl rfl (bK (L := K) 0 3 hKI hK (by omega) (by omega)) ?_
  refine c44z ?_
  refine .c7 [2, 3, 27] ?_
  generalize ((c5 K 0 3).1 == 1) = ar
  generalize (c5 K 0 3).2 = I1 at *
  have h4 := l5 h3.2.2 (n := 4) (by omega)
  obtain ⟨Nn, hNn, hN1, hN4⟩ : ∃ n : Nat, 1 + (c5 K I1 4).1 = (n : Int) ∧ 1 ≤ n ∧ n ≤ 4 := ⟨(1 + (c5 K I1 4).1).toNat, by omega, by omega, by omega⟩
  refine c39z ?_
  refine .ch rfl rfl (bK (L := K) I1 4 h3.2.2 hK (by omega) (by omega)) ?_
  refine c144z ?_
  refine c8.mE (β := 5) (k := 2) rfl rfl ?_
  simp only [List.cons_append, List.nil_append, List.set_cons_succ, List.set_cons_zero, List.length_cons, List.length_nil, Nat.reduceAdd, Nat.zero_add, bB]
  refine c8.mE (β := 5) (k := 1) rfl rfl ?_
  simp only [List.cons_append, List.nil_append, List.set_cons_succ, List.set_cons_zero, List.length_cons, List.length_nil, Nat.reduceAdd, Nat.zero_add, bB]
  refine c8.mE (β := 5) (k := 3) rfl rfl ?_
  simp only [List.cons_append, List.nil_append, List.set_cons_succ, List.set_cons_zero, List.length_cons, List.length_nil, Nat.reduceAdd, Nat.zero_add, bB]
  refine .aP (fun m st => ∃ (i : Nat) (I : Int) (ms : List Mx) (g : Nat), (m = Nn - i ∧ (OkI K I ∧ i ≤ Nn ∧ ms.length = i ∧ YK ms)) ∧ st = ⟨mkS 264 [(2, AV.ptr 3 0 0), (3, AV.ptr 5 0 0), (4, AV.int .i64 ((i : Nat) : Int)), (5, AV.int .i64 ((Nn : Nat) : Int))], [b0, b1, b2, ⟨0, false, 27, 3, [.j5, .j5, .j5], 0⟩, ⟨0, false, 91, 2, [.vec K.length (g9 K), .int .i64 I], 0⟩, ⟨0, false, 93, 6, [.ptr 4 0 0, .own 7 0 0 0, .own 6 g 0 i, .own 8 0 0 0, .int .i64 24, .bool ar], 0⟩, p6 66 3 g (g5 ms), ⟨0, true, 0, 0, [], 0⟩, ⟨0, true, 0, 0, [], 0⟩]⟩) (.v ⟨0, (c5 K I1 4).2, [], 0, ⟨rfl, ⟨h4.2.2, by omega, rfl, fun j hj => by simp at hj⟩⟩, rfl⟩) ?_
  rintro m sl h' ⟨i, I, ms, g, ⟨hm, ⟨hI, hi, hml, hms⟩⟩, hst⟩
  obtain ⟨rfl, rfl⟩ := St.mk.inj hst; clear hst
  have hz : (g5 ms).length = i * 3 := by rw [n7, hml]; omega
  have h5 := l5 hI (n := 5) (by omega)
  have h33 := l5 h5.2.2 (n := 3) (by omega)
  refine c0z ?_
  refine u2z ?_ ?_
  ·intro e1 qe1
   refine c2z ?_
   refine c18z ?_
   refine .c7 [2, 3, 4, 5, 6] ?_
   refine c39z ?_
   refine .ch rfl rfl (bK (L := K) I 5 hI hK (by omega) (by omega)) ?_
   refine .nil ?_
   refine c87z ?_
   refine u2z ?_ ?_
   ·intro e2 qe2
    refine c1z ?_
    refine .c7 [2, 3, 4, 5, 6] ?_
    refine c194z ?_
    refine c130z ?_
    refine .c7 [2, 3, 4, 5] ?_
    refine .rz ?_
    exact ⟨_, by omega, .v ⟨(i + 1), (c5 K I 5).2, (ms ++ [⟨mnm i, true, 0⟩]), (g + 1), ⟨rfl, ⟨h5.2.2, by omega, by simp [hml], hms.snoc (by rw [hml]) t147 (by simp)⟩⟩, rfl⟩ (he := by (rw [mX]; rfl)) (hk := t69)⟩
   intro e2 qe2
   refine .z ?_
   refine u2z ?_ ?_
   ·intro e3 qe3
    refine .c7 [2, 3, 4, 5, 6] ?_
    refine c147z ?_
    refine .ch rfl rfl (bK (L := K) (c5 K I 5).2 3 h5.2.2 hK (by omega) (by omega)) ?_
    refine c28z ?_
    refine c194z ?_
    refine c130z ?_
    refine .c7 [2, 3, 4, 5] ?_
    refine .rz ?_
    exact ⟨_, by omega, .v ⟨(i + 1), (c5 K (c5 K I 5).2 3).2, (ms ++ [⟨mnm i, false, 1 + (c5 K (c5 K I 5).2 3).1⟩]), (g + 1), ⟨rfl, ⟨h33.2.2, by omega, by simp [hml], hms.snoc (by rw [hml]) t147 (by simp)⟩⟩, rfl⟩ (he := by (rw [mX]; rfl)) (hk := t69)⟩
   intro e3 qe3
   refine c7z ?_
   refine .c7 [2, 3, 4, 5, 6] ?_
   refine c194z ?_
   refine c130z ?_
   refine .c7 [2, 3, 4, 5] ?_
   refine .rz ?_
   exact ⟨_, by omega, .v ⟨(i + 1), (c5 K I 5).2, (ms ++ [⟨mnm i, false, 0⟩]), (g + 1), ⟨rfl, ⟨h5.2.2, by omega, by simp [hml], hms.snoc (by rw [hml]) t147 (by simp)⟩⟩, rfl⟩ (he := by (rw [mX]; rfl)) (hk := t69)⟩
  intro e1 qe1
  refine .exit ?_
  have hiN : i = Nn := by omega
  refine c8.nS (γ := 6) (β := 5) (k := 2) (len := i) rfl hz (by omega) (RG _) rfl (by decide) rfl ?_
  simp only [List.cons_append, List.nil_append, List.set_cons_succ, List.set_cons_zero, List.length_cons, List.length_nil, Nat.reduceAdd, Nat.zero_add, bB]
  generalize fV 66 3 g (g5 ms) (i * 3) = Mb
  subst hiN
  subst hml
  change c8 ..
  refine c18z ?_
  have hg3 := l5 hI (n := 3) (by omega)
  obtain ⟨Ng, hNg, hNg2⟩ : ∃ n : Nat, (c5 K I 3).1 = (n : Int) ∧ n ≤ 2 := ⟨(c5 K I 3).1.toNat, by omega, by omega⟩
  refine c39z ?_
  refine .ch rfl rfl (bK (L := K) I 3 hI hK (by omega) (by omega)) ?_
  refine c144z ?_
  refine c8.G6 7 rfl ?_
  refine .aP (fun m st => ∃ (q : Nat) (I2 : Int) (gs : List Gl) (g2 : Nat) (gv : Nat), (m = Ng - q ∧ (OkI K I2 ∧ q ≤ Ng ∧ gs.length = q ∧ YL gs)) ∧ st = ⟨mkS 264 [(2, AV.ptr 3 0 0), (3, AV.ptr 5 0 0), (7, AV.own 9 gv 0 q), (8, AV.int .i64 ((q : Nat) : Int)), (9, AV.int .i64 ((Ng : Nat) : Int))], [b0, b1, b2, ⟨0, false, 27, 3, [.j5, .j5, .j5], 0⟩, ⟨0, false, 91, 2, [.vec K.length (g9 K), .int .i64 I2], 0⟩, ⟨0, false, 93, 6, [.ptr 4 0 0, .own 7 g2 0 q, .vec ms.length (g5 ms), .own 8 0 0 0, .int .i64 24, .bool ar], 0⟩, Mb, p6 97 2 g2 (o6 gs), ⟨0, true, 0, 0, [], 0⟩, p6 9 1 gv (w5 (gs.map (·.name)))]⟩) (.v ⟨0, (c5 K I 3).2, ([] : List Gl), 0, 0, ⟨rfl, ⟨hg3.2.2, by omega, rfl, fun j hj => by simp at hj⟩⟩, rfl⟩) ?_
  rintro m sl h' ⟨q, I2, gs, g2, gv, ⟨hm, ⟨hI2, hq, hgl, hgs⟩⟩, hst⟩
  obtain ⟨rfl, rfl⟩ := St.mk.inj hst; clear hst
  have hz : (o6 gs).length = q * 2 := by rw [cK, hgl]; omega
  have hzv : (w5 (gs.map (·.name))).length = q * 1 := by rw [w9, List.length_map, hgl]; omega
  have h52 := l5 hI2 (n := 5) (by omega)
  refine c0z ?_
  refine u2z ?_ ?_
  ·intro e4 qe4
   refine c2z ?_
   refine c37z ?_
   refine .p 3 ?_
   refine c219z ?_
   refine .p 4 ?_
   refine .rm [true, true] ?_
   refine .cm [true, true] [1032, 1024, 8, 0] [_, _] rfl rfl (by simp only [jB, and_true, List.cons_append, List.nil_append]; exact ⟨bK (L := K) I2 5 hI2 hK (by omega) (by omega), bK (L := K) I2 5 hI2 hK (by omega) (by omega)⟩) ?_
   refine .p 2 ?_
   refine c45z ?_
   refine s7.pop [false, false, false, true, true, false, false, true, true] (by kernel_rfl) (by simp only [qE, and_true, List.cons_append, List.nil_append]; exact ⟨bZ.o8 rfl rfl rfl rfl uV (bK (L := K) I2 5 hI2 hK (by omega) (by omega)) rfl, bZ.o8 rfl rfl rfl rfl uV (bK (L := K) I2 5 hI2 hK (by omega) (by omega)) rfl, bZ.o8 rfl rfl rfl rfl uV (bK (L := K) I2 5 hI2 hK (by omega) (by omega)) rfl, bZ.o8 rfl rfl rfl rfl uV (bK (L := K) I2 5 hI2 hK (by omega) (by omega)) rfl⟩) ?_
   refine c82z ?_
   refine c124z ?_
   refine .c7 [2, 3, 7, 8, 9, 10] ?_
   refine .og r9 (mkH 19 [0, 0, 2, 6, 14, 30, 0, 64, 254, 0, 0, 1024, 3072, 8190, 16383, 32767, 65535, 131071, 262143] [7, 8, 12, 13, 17] [(7, 0), (12, 1)] [0, 128, 384, 4096, 4224, 4480, 12672, 143744] [0, 1, 2, 3, 4, 5, 6, 7, 8, 9]) 2 ?_
   refine .p 5 ?_
   refine .rm [true] ?_
   refine .rm [true] ?_
   refine .em [true] [128, 0] [_] ?_
   refine .em [true, false] [384, 128, 0] [_] ?_
   refine .p 2 ?_
   refine .rn [true, true, true] ?_
   refine .en [true, true, true] [4480, 4224, 4096, 384, 128, 0] [_, _, _] ?_
   refine .en [true, false, false, false, false, false] [12672, 4480, 4224, 4096, 384, 128, 0] [_] ?_
   refine .p 3 ?_
   refine .en [true, false, false, false, false, false, false] [143744, 12672, 4480, 4224, 4096, 384, 128, 0] [_] ?_
   refine .p 1 ?_
   refine c88z ?_
   refine .po [false, false, false, false, true, false, false, true] ?_
   refine .po [false, false, false, true, true, false, true, true] ?_
   refine s7.nil rfl ?_
   change c8 ..
   refine .c7 [2, 3, 7, 8, 9] ?_
   refine .rz ?_
   exact ⟨_, by omega, .v ⟨(q + 1), (c5 K I2 5).2, (gs ++ [(⟨gnm q, (c5 K I2 5).1 - 2⟩ : Gl)]), (g2 + 1), (gv + 1), ⟨rfl, ⟨h52.2.2, by omega, by simp [hgl], hgs.snoc (by rw [hgl]) t147⟩⟩, rfl⟩ (he := by (rw [L5, List.map_append, List.map_cons, List.map_nil, iR]; rfl)) (hk := by exact z5.of ⟨.inl rfl, .inl rfl, .inl rfl, .inl rfl, .inr oS, .inr (fC.get t27), .inl rfl, .inr (by rw [o4]; exact w6.refs (RH _) _), .inl rfl, .inr (by rw [o4]; exact w6.refs (XV _) _), trivial⟩)⟩
  intro e4 qe4
  refine .exit ?_
  refine c8.nS (γ := 7) (β := 5) (k := 1) (len := q) rfl hz (by omega) (RH _) rfl (by decide) rfl ?_
  simp only [List.cons_append, List.nil_append, List.set_cons_succ, List.set_cons_zero, List.length_cons, List.length_nil, Nat.reduceAdd, Nat.zero_add, bB]
  generalize fV 97 2 g2 (o6 gs) (q * 2) = Gb
  refine c8.A1 (t := 7) (γ := 9) (len := q) rfl hzv (by omega) (XV _) (jH (by decide) rfl) ?_
  rw [bB]
  simp only [List.cons_append, List.nil_append, List.set_cons_succ, List.set_cons_zero, List.length_cons, List.length_nil, Nat.reduceAdd, Nat.zero_add, bB]
  generalize fV 9 1 gv (w5 (gs.map (·.name))) (q * 1) = Vb
  have hgl2 : gs.length ≤ 2 := by omega
  subst hgl
  change c8 ..
  have hk4 := l5 hI2 (n := 4) (by omega)
  obtain ⟨Nk, hNk, hNk3⟩ : ∃ n : Nat, (c5 K I2 4).1 = (n : Int) ∧ n ≤ 3 := ⟨(c5 K I2 4).1.toNat, by omega, by omega⟩
  refine c39z ?_
  refine .ch rfl rfl (bK (L := K) I2 4 hI2 hK (by omega) (by omega)) ?_
  refine c44z ?_
  refine .c7 [2, 3, 7, 11] ?_
  refine c23z ?_
  refine .aP (fun m st => ∃ (r : Nat) (I3 : Int) (fs : List Fu) (gF : Nat), (m = (Nk + 1) - r ∧ (OkI K I3 ∧ r ≤ Nk + 1 ∧ fs.length = r ∧ LY fs)) ∧ st = ⟨mkS 264 [(2, AV.ptr 3 0 0), (3, AV.ptr 5 0 0), (7, AV.vec gs.length (w5 (gs.map (·.name)))), (11, AV.int .i64 ((Nk : Nat) : Int)), (12, AV.int .i64 ((r : Nat) : Int))], [b0, b1, b2, ⟨0, false, 27, 3, [.j5, .j5, .j5], 0⟩, ⟨0, false, 91, 2, [.vec K.length (g9 K), .int .i64 I3], 0⟩, ⟨0, false, 93, 6, [.ptr 4 0 0, .vec gs.length (o6 gs), .vec ms.length (g5 ms), .own 8 gF 0 r, .int .i64 24, .bool ar], 0⟩, Mb, Gb, p6 101 3 gF (m9 fs), Vb]⟩) (.v ⟨0, (c5 K I2 4).2, [], 0, ⟨rfl, ⟨hk4.2.2, by omega, rfl, fun j hj => by simp at hj⟩⟩, rfl⟩) ?_
  rintro m sl h' ⟨r, I3, fs, gF, ⟨hm, ⟨hI3, hr, hfl, hfs⟩⟩, hst⟩
  obtain ⟨rfl, rfl⟩ := St.mk.inj hst; clear hst
  have hz : (m9 fs).length = r * 3 := by rw [aL, hfl]; omega
  have h63 := l5 hI3 (n := 3) (by omega)
  refine c0z ?_
  refine u2z ?_ ?_
  ·intro e5 qe5
   refine c2z ?_
   refine .s ?_
   refine .e 8 ?_
   refine c44z ?_
   refine .c7 [2, 3, 7, 11, 12, 13] ?_
   refine .z ?_
   refine u2z ?_ ?_
   ·intro e6 qe6
    refine c1z ?_
    refine .seq ?_
    have hnm2 : (⟨#[109, 97, 105, 110]⟩ : BA) = fnm r := by rw [show r = 0 from by omega]; rfl
    generalize hnm : (⟨#[109, 97, 105, 110]⟩ : BA) = nm at hnm2 ⊢
    replace hnm2 : nm = fnm r := hnm2
    replace hnm : nm = nm := rfl
    obtain ⟨N3, hN3, hN32⟩ : ∃ n : Nat, (c5 K I3 3).1 = (n : Int) ∧ n ≤ 2 := ⟨(c5 K I3 3).1.toNat, by omega, by omega⟩
    refine c39z ?_
    refine .ch rfl rfl (bK (L := K) I3 3 hI3 hK (by omega) (by omega)) ?_
    refine c144z ?_
    refine c8.mE (β := 11) (k := 1) rfl rfl ?_
    simp only [List.cons_append, List.nil_append, List.set_cons_succ, List.set_cons_zero, List.length_cons, List.length_nil, Nat.reduceAdd, Nat.zero_add, bB]
    refine .aP (fun m st => ∃ (n : Nat) (I4 : Int) (ps : List Pm) (gp : Nat), (m = n ∧ (OkI K I4 ∧ n ≤ N3 ∧ LW N3 n ps ∧ (r = 0 → ps = []))) ∧ st = ⟨mkS 264 [(2, AV.ptr 3 0 0), (3, AV.ptr 5 0 0), (7, AV.vec gs.length (w5 (gs.map (·.name)))), (11, AV.int .i64 ((Nk : Nat) : Int)), (12, AV.int .i64 ((r : Nat) : Int)), (13, AV.ptr 11 0 0), (14, AV.int .i64 ((n : Nat) : Int))], [b0, b1, b2, ⟨0, false, 27, 3, [.j5, .j5, .j5], 0⟩, ⟨0, false, 91, 2, [.vec K.length (g9 K), .int .i64 I4], 0⟩, ⟨0, false, 93, 6, [.ptr 4 0 0, .vec gs.length (o6 gs), .vec ms.length (g5 ms), .own 8 gF 0 r, .int .i64 24, .bool ar], 0⟩, Mb, Gb, p6 101 3 gF (m9 fs), Vb, ⟨0, false, 5, 1, [.int .u8 (48 + ((r : Nat) : Int))], 0⟩, ⟨0, false, 101, 3, [.str nm, .own 12 gp 0 ps.length, .j5], 0⟩, p6 103 2 gp (s3 ps)]⟩) (.v ⟨N3, (c5 K I3 3).2, ([] : List Pm), 0, ⟨rfl, ⟨h63.2.2, by omega, .inl ⟨rfl, rfl⟩, fun _ => rfl⟩⟩, rfl⟩ (hs := t45)) ?_
    rintro m sl h' ⟨n, I4, ps, gp, ⟨hm, ⟨hI4, hn, hps, hp0⟩⟩, hst⟩
    obtain ⟨rfl, rfl⟩ := St.mk.inj hst; clear hst
    have hzp : (s3 ps).length = ps.length * 2 := by rw [aB]; omega
    have h73 := l5 hI4 (n := 3) (by omega)
    have hpl := hps.len
    refine .seq ?_
    refine c19z ?_
    refine .spl 147 rfl rfl (fun e7 => ?_) (fun e7 => ?_)
    ·try simp only [e7]
     have qe7 := fact e7
     refine .m [(2, 147)] ?_
     refine u2z ?_ ?_
     ·intro e8 qe8
      refine c2z ?_
      refine c37z ?_
      refine .p 3 ?_
      refine c219z ?_
      refine .p 4 ?_
      refine .rm [true, true] ?_
      refine .cm [true, true] [1032, 1024, 8, 0] [_, _] rfl rfl t105 ?_
      refine .p 2 ?_
      refine c45z ?_
      refine s7.pop [false, false, false, true, true, false, false, true, true] (by kernel_rfl) t61 ?_
      refine c82z ?_
      refine c124z ?_
      refine .c7 [2, 3, 7, 11, 12, 13, 14, 15] ?_
      refine c50z ?_
      exact ⟨_, by omega, .v ⟨(n - 1), (c5 K I4 3).2, (ps ++ [(⟨pnm n, decide ((c5 K I4 3).1 > 0)⟩ : Pm)]), (gp + 1), ⟨rfl, ⟨h73.2.2, by omega, hps.step (by omega) (by omega) rfl, fun h => by omega⟩⟩, rfl⟩ (he := by (rw [uR, List.length_append]; rfl)) (hk := t82) (hs := t45)⟩
     intro e8 qe8
     refine .exit ?_
     refine c136z ?_
     simp only [List.cons_append, List.nil_append, List.set_cons_succ, List.set_cons_zero, List.length_cons, List.length_nil, Nat.reduceAdd, Nat.zero_add, bB]
     generalize fV 103 2 gp (s3 ps) (ps.length * 2) = Pb
     change c8 ..
     refine c194z ?_
     refine c184z ?_
     refine .rz ?_
     exact ⟨_, by omega, .v ⟨(r + 1), I4, (fs ++ [⟨nm, ps, .nil⟩]), (gF + 1), ⟨rfl, ⟨hI4, by omega, by simp [hfl], hfs.snoc t143 t159 (hps.fin t107 (by omega))⟩⟩, rfl⟩ (he := t173) (hk := t47)⟩
    try simp only [e7]
    have qe7 := fact e7
    refine .m [(2, 147)] ?_
    refine c235z ?_
    refine c136z ?_
    simp only [List.cons_append, List.nil_append, List.set_cons_succ, List.set_cons_zero, List.length_cons, List.length_nil, Nat.reduceAdd, Nat.zero_add, bB]
    generalize fV 103 2 gp (s3 ps) (ps.length * 2) = Pb
    change c8 ..
    refine c194z ?_
    refine c184z ?_
    refine .rz ?_
    exact ⟨_, by omega, .v ⟨(r + 1), I4, (fs ++ [⟨nm, ps, .nil⟩]), (gF + 1), ⟨rfl, ⟨hI4, by omega, by simp [hfl], hfs.snoc t143 t159 (hps.fin t107 (by omega))⟩⟩, rfl⟩ (he := t173) (hk := t47)⟩
   intro e6 qe6
   refine c160z ?_
   have hnm2 : fnr r = fnm r := by rw [fnm, if_neg (by omega)]; rfl
   generalize hnm : fnr r = nm at hnm2 ⊢
   replace hnm2 : nm = fnm r := hnm2
   replace hnm : nm = nm := rfl
   obtain ⟨N3, hN3, hN32⟩ : ∃ n : Nat, (c5 K I3 3).1 = (n : Int) ∧ n ≤ 2 := ⟨(c5 K I3 3).1.toNat, by omega, by omega⟩
   refine c39z ?_
   refine .ch rfl rfl (bK (L := K) I3 3 hI3 hK (by omega) (by omega)) ?_
   refine c144z ?_
   refine c8.mE (β := 11) (k := 1) rfl rfl ?_
   simp only [List.cons_append, List.nil_append, List.set_cons_succ, List.set_cons_zero, List.length_cons, List.length_nil, Nat.reduceAdd, Nat.zero_add, bB]
   refine .aP (fun m st => ∃ (n : Nat) (I4 : Int) (ps : List Pm) (gp : Nat), (m = n ∧ (OkI K I4 ∧ n ≤ N3 ∧ LW N3 n ps ∧ (r = 0 → ps = []))) ∧ st = ⟨mkS 264 [(2, AV.ptr 3 0 0), (3, AV.ptr 5 0 0), (7, AV.vec gs.length (w5 (gs.map (·.name)))), (11, AV.int .i64 ((Nk : Nat) : Int)), (12, AV.int .i64 ((r : Nat) : Int)), (13, AV.ptr 11 0 0), (14, AV.int .i64 ((n : Nat) : Int))], [b0, b1, b2, ⟨0, false, 27, 3, [.j5, .j5, .j5], 0⟩, ⟨0, false, 91, 2, [.vec K.length (g9 K), .int .i64 I4], 0⟩, ⟨0, false, 93, 6, [.ptr 4 0 0, .vec gs.length (o6 gs), .vec ms.length (g5 ms), .own 8 gF 0 r, .int .i64 24, .bool ar], 0⟩, Mb, Gb, p6 101 3 gF (m9 fs), Vb, ⟨0, false, 5, 1, [.int .u8 (48 + ((r : Nat) : Int))], 0⟩, ⟨0, false, 101, 3, [.str nm, .own 12 gp 0 ps.length, .j5], 0⟩, p6 103 2 gp (s3 ps)]⟩) (.v ⟨N3, (c5 K I3 3).2, ([] : List Pm), 0, ⟨rfl, ⟨h63.2.2, by omega, .inl ⟨rfl, rfl⟩, fun _ => rfl⟩⟩, rfl⟩ (hs := t45)) ?_
   rintro m sl h' ⟨n, I4, ps, gp, ⟨hm, ⟨hI4, hn, hps, hp0⟩⟩, hst⟩
   obtain ⟨rfl, rfl⟩ := St.mk.inj hst; clear hst
   have hzp : (s3 ps).length = ps.length * 2 := by rw [aB]; omega
   have h73 := l5 hI4 (n := 3) (by omega)
   have hpl := hps.len
   refine .seq ?_
   refine c19z ?_
   refine .spl 147 rfl rfl (fun e9 => ?_) (fun e9 => ?_)
   ·try simp only [e9]
    have qe9 := fact e9
    refine .m [(2, 147)] ?_
    refine u2z ?_ ?_
    ·intro e10 qe10
     refine c2z ?_
     refine c37z ?_
     refine .p 3 ?_
     refine c219z ?_
     refine .p 4 ?_
     refine .rm [true, true] ?_
     refine .cm [true, true] [1032, 1024, 8, 0] [_, _] rfl rfl t105 ?_
     refine .p 2 ?_
     refine c45z ?_
     refine s7.pop [false, false, false, true, true, false, false, true, true] (by kernel_rfl) t61 ?_
     refine c82z ?_
     refine c124z ?_
     refine .c7 [2, 3, 7, 11, 12, 13, 14, 15] ?_
     refine c50z ?_
     exact ⟨_, by omega, .v ⟨(n - 1), (c5 K I4 3).2, (ps ++ [(⟨pnm n, decide ((c5 K I4 3).1 > 0)⟩ : Pm)]), (gp + 1), ⟨rfl, ⟨h73.2.2, by omega, hps.step (by omega) (by omega) rfl, fun h => by omega⟩⟩, rfl⟩ (he := by (rw [uR, List.length_append]; rfl)) (hk := t82) (hs := t45)⟩
    intro e10 qe10
    refine .exit ?_
    refine c136z ?_
    simp only [List.cons_append, List.nil_append, List.set_cons_succ, List.set_cons_zero, List.length_cons, List.length_nil, Nat.reduceAdd, Nat.zero_add, bB]
    generalize fV 103 2 gp (s3 ps) (ps.length * 2) = Pb
    change c8 ..
    refine c194z ?_
    refine c184z ?_
    refine .rz ?_
    exact ⟨_, by omega, .v ⟨(r + 1), I4, (fs ++ [⟨nm, ps, .nil⟩]), (gF + 1), ⟨rfl, ⟨hI4, by omega, by simp [hfl], hfs.snoc t143 t159 (hps.fin t107 (by omega))⟩⟩, rfl⟩ (he := t173) (hk := t47)⟩
   try simp only [e9]
   have qe9 := fact e9
   refine .m [(2, 147)] ?_
   refine c235z ?_
   refine c136z ?_
   simp only [List.cons_append, List.nil_append, List.set_cons_succ, List.set_cons_zero, List.length_cons, List.length_nil, Nat.reduceAdd, Nat.zero_add, bB]
   generalize fV 103 2 gp (s3 ps) (ps.length * 2) = Pb
   change c8 ..
   refine c194z ?_
   refine c184z ?_
   refine .rz ?_
   exact ⟨_, by omega, .v ⟨(r + 1), I4, (fs ++ [⟨nm, ps, .nil⟩]), (gF + 1), ⟨rfl, ⟨hI4, by omega, by simp [hfl], hfs.snoc t143 t159 (hps.fin t107 (by omega))⟩⟩, rfl⟩ (he := t173) (hk := t47)⟩
  intro e5 qe5
  refine .exit ?_
  have hrN : r = Nk + 1 := by omega
  rw [dW (zs := m9 fs) (by intro h0; have := congrArg List.length h0; rw [hz] at this; simp at this; omega)]
  change c8 ..
  refine c5z ?_
  refine .aP (fun m st => ∃ (s : Nat) (I5 : Int) (lf : Int) (fs2 : List Fu), (m = fs.length - s ∧ (OkI K I5 ∧ s ≤ fs.length ∧ Db gs ms fs2 s lf ∧ mG fs2 = mG fs ∧ fs2.length = fs.length)) ∧ st = ⟨mkS 264 [(2, AV.ptr 3 0 0), (3, AV.ptr 5 0 0), (7, AV.vec gs.length (w5 (gs.map (·.name)))), (16, AV.int .i64 ((s : Nat) : Int))], [b0, b1, b2, ⟨0, false, 27, 3, [.j5, .j5, .j5], 0⟩, ⟨0, false, 91, 2, [.vec K.length (g9 K), .int .i64 I5], 0⟩, ⟨0, false, 93, 6, [.ptr 4 0 0, .vec gs.length (o6 gs), .vec ms.length (g5 ms), .own 8 gF 0 fs2.length, .int .i64 lf, .bool ar], 0⟩, Mb, Gb, ⟨gF, false, 101, 3, m9 fs2, 0⟩, Vb]⟩) (.v ⟨0, I3, 24, fs, ⟨rfl, ⟨hI3, Nat.zero_le _, ⟨fun j hj => by omega, by simp [qT], by omega⟩, rfl, rfl⟩⟩, rfl⟩) ?_ (he := by (rw [← hfl]))
  rintro m sl h' ⟨s, I5, lf, fs2, ⟨hm, ⟨hI5, hs, hbd, hhd, hfl2⟩⟩, hst⟩
  obtain ⟨rfl, rfl⟩ := St.mk.inj hst; clear hst
  have hbo := hbd.ol
  have hfs2 := hfs.mG hhd
  refine c0z ?_
  refine u2z ?_ ?_
  ·intro e11 qe11
   refine c2z ?_
   refine .c7 [2, 3, 7, 16] ?_
   have hps2 : (fs2.getD s g7).params.length ≤ 2 := by rcases (hfs2 s (by omega)).2.2 with h | h | h <;> (have := congrArg List.length h; rw [List.length_map] at this; simp only [List.length_nil, List.length_cons] at this; omega)
   have hvn : (gs.map (·.name)).length = gs.length := List.length_map _
   refine c21z ?_
   refine .aP (fun m st => ∃ (j : Nat) (gw : Nat), (m = (fs2.getD s g7).params.length - j ∧ j ≤ (fs2.getD s g7).params.length) ∧ st = ⟨mkS 264 [(2, AV.ptr 3 0 0), (3, AV.ptr 5 0 0), (7, AV.vec gs.length (w5 (gs.map (·.name)))), (16, AV.int .i64 ((s : Nat) : Int)), (17, AV.own 10 gw 0 (gs.map (·.name) ++ bY ((fs2.getD s g7).params.take j)).length), (18, AV.int .i64 ((j : Nat) : Int))], [b0, b1, b2, ⟨0, false, 27, 3, [.j5, .j5, .j5], 0⟩, ⟨0, false, 91, 2, [.vec K.length (g9 K), .int .i64 I5], 0⟩, ⟨0, false, 93, 6, [.ptr 4 0 0, .vec gs.length (o6 gs), .vec ms.length (g5 ms), .own 8 gF 0 fs2.length, .int .i64 lf, .bool ar], 0⟩, Mb, Gb, ⟨gF, false, 101, 3, m9 fs2, 0⟩, Vb, ⟨gw, false, 9, 1, w5 (gs.map (·.name) ++ bY ((fs2.getD s g7).params.take j)), 0⟩]⟩) (.v ⟨0, (gO 0 gs.length), ⟨rfl, Nat.zero_le _⟩, rfl⟩ (hs := t46)) ?_ (he := by (rw [show bY ((fs2.getD s g7).params.take 0) = [] from rfl, List.append_nil]))
   rintro m sl h' ⟨j, gw, ⟨hm, hj⟩, hst⟩
   obtain ⟨rfl, rfl⟩ := St.mk.inj hst; clear hst
   have hil : (bY ((fs2.getD s g7).params.take j)).length ≤ 2 := Nat.le_trans (U8 _) t53
   have holn : (gs.map (·.name) ++ bY ((fs2.getD s g7).params.take j)).length = gs.length + (bY ((fs2.getD s g7).params.take j)).length := by simp
   refine .seq ?_
   refine c208z ?_
   refine u2z ?_ ?_
   ·intro e12 qe12
    refine c2z ?_
    refine .c7 [2, 3, 7, 16, 17, 18] ?_
    refine c208z ?_
    refine u2z ?_ ?_
    ·intro e13 qe13
     refine .c7 [2, 3, 7, 16, 17, 18] ?_
     refine c148z ?_
     refine .e 8 ?_
     refine c28z ?_
     refine .c7 [2, 3, 7, 16, 17, 18] ?_
     refine .rz ?_
     have hsu := C6 (l := (fs2.getD s g7).params) (j := j) (by omega); rw [show ((fs2.getD s g7).params.getD j fW).mu = false from by simp_all] at hsu; simp only [Bool.false_eq_true, if_false, if_true, List.append_nil] at hsu
     have hsl := congrArg List.length hsu; try simp only [List.length_append, List.length_cons, List.length_nil] at hsl
     have hnl : (gs.map (·.name) ++ bY ((fs2.getD s g7).params.take (j + 1))).length = (gs.map (·.name) ++ bY ((fs2.getD s g7).params.take j)).length + 1 := by simp only [List.length_append]; omega
     exact ⟨_, by omega, .v ⟨(j + 1), (gw + 1), ⟨rfl, by omega⟩, rfl⟩ (he := by (rw [hsu, ← List.append_assoc]; rfl)) (hk := t111) (hs := t46)⟩
    intro e13 qe13
    refine c7z ?_
    refine .c7 [2, 3, 7, 16, 17, 18] ?_
    refine .rz ?_
    have hsu := C6 (l := (fs2.getD s g7).params) (j := j) (by omega); rw [show ((fs2.getD s g7).params.getD j fW).mu = true from by simp_all] at hsu; simp only [Bool.false_eq_true, if_false, if_true, List.append_nil] at hsu
    have hsl := congrArg List.length hsu; try simp only [List.length_append, List.length_cons, List.length_nil] at hsl
    have hnl : (gs.map (·.name) ++ bY ((fs2.getD s g7).params.take (j + 1))).length = (gs.map (·.name) ++ bY ((fs2.getD s g7).params.take j)).length := by simp only [List.length_append]; omega
    exact ⟨_, by omega, .v ⟨(j + 1), gw, ⟨rfl, by omega⟩, rfl⟩ (he := by (rw [hsu]; rfl)) (hk := t111) (hs := t46)⟩
   intro e12 qe12
   refine .exit ?_
   have hjN : j = (fs2.getD s g7).params.length := by omega
   rw [hjN, List.take_length] at *
   change c8 ..
   refine .c7 [2, 3, 7, 16, 17] ?_
   refine raise (β := 10) (k := (gs.map (·.name) ++ bY (fs2.getD s g7).params).length) rfl (Nat.zero_le _) ?_
   simp only [List.cons_append, List.nil_append, List.set_cons_succ, List.set_cons_zero, List.length_cons, List.length_nil, Nat.reduceAdd, Nat.zero_add, bB]
   have hcc : OkC (⟨K, gs, ms, fs2, gF, ar⟩ : Core) := okC_of hms ⟨by omega, by omega⟩ hfs2 ⟨by omega, by omega⟩
   have hfrs := Y9 hgs hgl2 (hfs2 s (by omega)).2.2
   have hok := fZ hcc (ps := (fs2.getD s g7).params) 24 (gs.map (·.name) ++ bY (fs2.getD s g7).params) 2 6 I5 (gs.map (·.name) ++ bY (fs2.getD s g7).params) lf (by omega) (by omega) hI5 (by omega) (by omega) (by omega) (fun x hx => hx) (hfrs.mono (by omega))
   generalize hRB : g0 (⟨K, gs, ms, fs2, gF, ar⟩ : Core) (fs2.getD s g7).params 24 (gs.map (·.name) ++ bY (fs2.getD s g7).params) 2 6 I5 lf = RB at hok
   refine c8.jF r9 (mkP 20 [0, 1, 3, 7, 15, 0, 0, 0, 128, 384, 896, 1920, 0, 8064, 16256, 0, 65472, 131071, 262143, 524287] [16, 19]) [0, 1, 2, 3, 4, 5] (by kernel_rfl) (by kernel_rfl) ?_
   refine cZ.p (pd := []) 16 ?_
   refine cZ.o8 rfl rfl rfl rfl rfl hb48 (c_top hcc hK (f := (fs2.getD s g7)) (n := gs.length + (bY (fs2.getD s g7).params).length) hps2 hI5 (by simp only [List.length_append, List.length_map]) hRB (by omega) (by omega) hfrs (by have := U8 (fs2.getD s g7).params; simp only [List.length_append, List.length_map]; omega) (b0 := b0) (b1 := b1) (b2 := b2) (z := ⟨0, false, 27, 3, [.j5, .j5, .j5], 0⟩) (mb := Mb) (gb := Gb) (vb := Vb)) ?_
   refine cZ.p 3 ?_
   refine cZ.nil t10 ?_
   change c8 ..
   refine .c7 [2, 3, 7, 16] ?_
   refine .rz ?_
   exact ⟨_, by omega, .v ⟨(s + 1), RB.2.1, RB.2.2, (setBody fs2 s RB.1), ⟨rfl, ⟨hok.oi, by omega, hbd.step (by omega) hok, (oB (by omega)).trans hhd, jS.trans hfl2⟩⟩, rfl⟩ (he := by (simp only [jS]; rfl)) (hk := by exact z5.of ⟨.inl rfl, .inl rfl, .inl rfl, .inl rfl, .inr oS, .inr (fC.get t27), .inl rfl, .inl rfl, .inr (w6.refs (HV _) _), .inl rfl, trivial⟩)⟩
  intro e11 qe11
  refine .exit ?_
  have hsN : s = fs.length := by omega
  change c8 ..
  refine .c7 [2, 3] ?_
  refine c25z ?_
  exact ⟨_, _, rfl, (by show iF 3 _ 6 (.agg [.vec gs.length (o6 gs), .vec ms.length (g5 ms), .own 8 gF 0 fs2.length]) = _; simp only [rD, dV, rE, o5, List.length_cons, List.length_nil, Nat.reduceAdd, show ¬ 8 < 3 from by decide, if_false]; rw [iQ (e := 101) (K := 3) (g := gF) (zs := m9 fs2) (zs' := m9 fs2) (by rw [dW (by intro h0; have := congrArg List.length h0; rw [aL] at this; simp at this; omega)]; rfl) (by decide) (by rw [aL]; omega) (by omega) (w6.frz (HV _) _ _ _)]; rfl), ⟨⟨gs, ms, fs2⟩, prog_ok hgs hgl2 hms ⟨by omega, by omega⟩ hfs2 ⟨by omega, by omega⟩ (by rw [hfl2, ← hsN]; exact hbd), rfl⟩⟩
end Go.Proofs.YtfbjlfhjkojmkaaGreat
end
