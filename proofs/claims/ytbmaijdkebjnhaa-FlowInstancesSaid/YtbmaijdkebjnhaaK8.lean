/- My own texts, put together by a program of mine. -/
import Derived.Test.YtbmaijdkebjnhaaK7
set_option linter.unusedSimpArgs false
set_option linter.unusedVariables false
set_option maxRecDepth 100000
set_option maxHeartbeats 4000000
section
namespace Go.Proofs.Ytbmaijdkebjnhaa
open Go.Ab Go.Un
set_option maxHeartbeats 40000000
theorem LH (l : List Mx) : bE (j6 l) := bE.flat fun _ => bE.cons .str (bE.cons .bool (bE.cons .int .nil))
theorem LJ (l : List Gl) : bE (o7 l) := bE.flat fun _ => bE.cons .str (bE.cons .int .nil)
theorem zG (l : List Pm) : bE (v8 l) := bE.flat fun _ => bE.cons .str (bE.cons .bool .nil)
theorem CY (l : List Fu) : bE (n4 l) := bE.flat fun _ => bE.cons .str (bE.cons .vec (bE.cons .vec .nil))
theorem QI (l : List BA) : bE (aC l) := bE.map fun _ => .str
theorem mU {l : List Mx} {m : Mx} : j6 (l ++ [m]) = j6 l ++ [.str m.name, .bool m.re, .int .i64 m.size] := by simp [j6, FG]
theorem D6 {l : List Gl} {m : Gl} : o7 (l ++ [m]) = o7 l ++ [.str m.name, .int .i64 m.init] := by simp [o7, O8]
theorem sY {l : List Pm} {m : Pm} : v8 (l ++ [m]) = v8 l ++ [.str m.name, .bool m.mu] := by simp [v8, O7]
theorem kC {l : List Fu} {m : Fu} : n4 (l ++ [m]) = n4 l ++ [.str m.name, .vec m.params.length (v8 m.params), .vec m.body.len (n8 m.body)] := by simp [n4, dZ]
theorem famL {L : List Int} (a b c d : Blk) (rest : c6) : bM 4 L (rest.length + 5) fun I => a :: b :: c :: d :: ⟨0, false, 94, 2, [.vec L.length (l6 L), .int .i64 I], 0⟩ :: rest := ⟨fun _ => rfl, fun _ _ => rfl, fun _ => by simp⟩
theorem cH {L : List Int} {a b c d : Blk} {rest : c6} (I n : Int) (hI : OkI L I) (hL : L.length < 4611686018427387904) (hn : 0 < n) (hm : n ≤ 4611686018427387904) : CallA Try.prog cfg 41 [.ptr 4 0 0, .int .i64 n] (a :: b :: c :: d :: ⟨0, false, 94, 2, [.vec L.length (l6 L), .int .i64 I], 0⟩ :: rest) (fun y' h' => y' = .int .i64 (c5 L I n).1 ∧ h' = a :: b :: c :: d :: ⟨0, false, 94, 2, [.vec L.length (l6 L), .int .i64 (c5 L I n).2], 0⟩ :: rest) := yL (famL a b c d rest) I n hI hL hn hm
theorem mnm_eq {i : Nat} : (⟨#[UInt8.ofNat (97 + (i : Int)).toNat]⟩ : BA) = mnm i := by
  rw [show (97 + (i : Int)).toNat = 97 + i from by omega]
  rfl
theorem CZ {a b : UInt8} : (⟨#[a]⟩ : BA) ++ (⟨#[b]⟩ : BA) = ⟨#[a, b]⟩ := by
  apply ByteArray.ext
  simp [ByteArray.data_append]
def fnr (i : Nat) : BA := ⟨#[102, UInt8.ofNat (48 + i)]⟩
theorem gnm_eq {i : Nat} : (⟨#[103]⟩ : BA) ++ (⟨#[UInt8.ofNat (48 + (i : Int)).toNat]⟩ : BA) = gnm i := by
  rw [CZ, show (48 + (i : Int)).toNat = 48 + i from by omega]
  rfl
theorem pnm_eq {i : Nat} : (⟨#[112]⟩ : BA) ++ (⟨#[UInt8.ofNat (48 + (i : Int)).toNat]⟩ : BA) = pnm i := by
  rw [CZ, show (48 + (i : Int)).toNat = 48 + i from by omega]
  rfl
theorem fnr_eq {i : Nat} : (⟨#[102]⟩ : BA) ++ (⟨#[UInt8.ofNat (48 + (i : Int)).toNat]⟩ : BA) = fnr i := by
  rw [CZ, show (48 + (i : Int)).toNat = 48 + i from by omega]
  rfl
theorem sz_one {a : UInt8} : (⟨#[a]⟩ : BA).size = 1 := rfl
theorem oI {n : Nat} {L : List Int} {I : Int} : ∀ x ∈ [AV.vec L.length (l6 L), .int .i64 I], Refs n x := fR.get ⟨.vec _ _, .int _ _, trivial⟩
theorem app_mx {a0 a1 a2 a3 a4 a5 a7 a8 a9 a10 : Blk} {l : c6} {g n q : Nat} {zs : List AV} {x y z : AV} (hz : zs.length = n * 3) (hn : n < 1000) : j7 cfg 78 (a0 :: a1 :: a2 :: a3 :: a4 :: a5 :: p9 78 3 g zs :: a7 :: a8 :: a9 :: a10 :: ⟨q, false, 78, 3, [x, y, z], 0⟩ :: l) (.own 6 g 0 n) (.own 11 q 0 1) = some (.own 6 (g + 1) 0 (n + 1), a0 :: a1 :: a2 :: a3 :: a4 :: a5 :: p9 78 3 (g + 1) (zs ++ [x, y, z]) :: a7 :: a8 :: a9 :: a10 :: ⟨q, false, 78, 3, [x, y, z], 0⟩ :: l) := by
  rw [aR (C := cfg) (K := 3) (m := 1) (new := [x, y, z]) (zs := zs) rfl rfl (by omega) hz rfl (by omega) t72 rfl (by decide) (by omega)]
  rfl
theorem app_gl {a0 a1 a2 a3 a4 a5 a6 a8 a9 a10 a11 : Blk} {l : c6} {g n q : Nat} {zs : List AV} {x y : AV} (hz : zs.length = n * 2) (hn : n < 1000) : j7 cfg 100 (a0 :: a1 :: a2 :: a3 :: a4 :: a5 :: a6 :: p9 100 2 g zs :: a8 :: a9 :: a10 :: a11 :: ⟨q, false, 100, 2, [x, y], 0⟩ :: l) (.own 7 g 0 n) (.own 12 q 0 1) = some (.own 7 (g + 1) 0 (n + 1), a0 :: a1 :: a2 :: a3 :: a4 :: a5 :: a6 :: p9 100 2 (g + 1) (zs ++ [x, y]) :: a8 :: a9 :: a10 :: a11 :: ⟨q, false, 100, 2, [x, y], 0⟩ :: l) := by
  rw [aR (C := cfg) (K := 2) (m := 1) (new := [x, y]) (zs := zs) rfl rfl (by omega) hz rfl (by omega) t72 rfl (by decide) (by omega)]
  rfl
theorem app_vr {a0 a1 a2 a3 a4 a5 a6 a7 a8 a10 a11 a12 : Blk} {l : c6} {g n q : Nat} {zs : List AV} {x : AV} (hz : zs.length = n * 1) (hn : n < 1000) : j7 cfg 9 (a0 :: a1 :: a2 :: a3 :: a4 :: a5 :: a6 :: a7 :: a8 :: p9 9 1 g zs :: a10 :: a11 :: a12 :: ⟨q, false, 9, 1, [x], 0⟩ :: l) (.own 9 g 0 n) (.own 13 q 0 1) = some (.own 9 (g + 1) 0 (n + 1), a0 :: a1 :: a2 :: a3 :: a4 :: a5 :: a6 :: a7 :: a8 :: p9 9 1 (g + 1) (zs ++ [x]) :: a10 :: a11 :: a12 :: ⟨q, false, 9, 1, [x], 0⟩ :: l) := by
  rw [aR (C := cfg) (K := 1) (m := 1) (new := [x]) (zs := zs) rfl rfl (by omega) hz rfl (by omega) t72 rfl (by decide) (by omega)]
  rfl
theorem app_pm {a0 a1 a2 a3 a4 a5 a6 a7 a8 a9 a10 a11 a13 a14 : Blk} {l : c6} {g n q : Nat} {zs : List AV} {x y : AV} (hz : zs.length = n * 2) (hn : n < 1000) : j7 cfg 106 (a0 :: a1 :: a2 :: a3 :: a4 :: a5 :: a6 :: a7 :: a8 :: a9 :: a10 :: a11 :: p9 106 2 g zs :: a13 :: a14 :: ⟨q, false, 106, 2, [x, y], 0⟩ :: l) (.own 12 g 0 n) (.own 15 q 0 1) = some (.own 12 (g + 1) 0 (n + 1), a0 :: a1 :: a2 :: a3 :: a4 :: a5 :: a6 :: a7 :: a8 :: a9 :: a10 :: a11 :: p9 106 2 (g + 1) (zs ++ [x, y]) :: a13 :: a14 :: ⟨q, false, 106, 2, [x, y], 0⟩ :: l) := by
  rw [aR (C := cfg) (K := 2) (m := 1) (new := [x, y]) (zs := zs) rfl rfl (by omega) hz rfl (by omega) t72 rfl (by decide) (by omega)]
  rfl
theorem app_fu {a0 a1 a2 a3 a4 a5 a6 a7 a9 a10 a11 a12 : Blk} {l : c6} {g n q : Nat} {zs : List AV} {x y z : AV} (hz : zs.length = n * 3) (hn : n < 1000) : j7 cfg 104 (a0 :: a1 :: a2 :: a3 :: a4 :: a5 :: a6 :: a7 :: p9 104 3 g zs :: a9 :: a10 :: a11 :: a12 :: ⟨q, false, 104, 3, [x, y, z], 0⟩ :: l) (.own 8 g 0 n) (.own 13 q 0 1) = some (.own 8 (g + 1) 0 (n + 1), a0 :: a1 :: a2 :: a3 :: a4 :: a5 :: a6 :: a7 :: p9 104 3 (g + 1) (zs ++ [x, y, z]) :: a9 :: a10 :: a11 :: a12 :: ⟨q, false, 104, 3, [x, y, z], 0⟩ :: l) := by
  rw [aR (C := cfg) (K := 3) (m := 1) (new := [x, y, z]) (zs := zs) rfl rfl (by omega) hz rfl (by omega) t72 rfl (by decide) (by omega)]
  rfl
theorem app_cp {a0 a1 a2 a3 a4 a5 a6 a7 a8 a9 : Blk} {vs : List BA} {n : Nat} (hz : vs.length = n) (hn : n < 1000) : j7 cfg 9 (a0 :: a1 :: a2 :: a3 :: a4 :: a5 :: a6 :: a7 :: a8 :: a9 :: [⟨0, false, 9, 1, [], 0⟩]) (.own 10 0 0 0) (.vec n (aC vs)) = some (.own 10 (gO 0 n) 0 n, a0 :: a1 :: a2 :: a3 :: a4 :: a5 :: a6 :: a7 :: a8 :: a9 :: [⟨gO 0 n, false, 9, 1, aC vs, 0⟩]) := by
  subst hz
  have e1 : cfg.sz 9 = 1 := rfl
  have e2 : (cfg.ti 9).bytes = 16 := rfl
  have hm : vs.length ≤ maxLen := by
    have : (1000 : Nat) ≤ maxLen := by decide
    omega
  have hb : vs.length * 16 ≤ 140737488355328 := by omega
  cases vs with
  | nil => simp [j7, rd, lenOf, e1, e2, gO, aC]
  | cons x vs =>
    have h0 : (aC (x :: vs)).length = vs.length + 1 := by simp [aC]
    simp only [List.length_cons] at hm hb
    simp [j7, rd, lenOf, e1, e2, gO, h0, hm, hb]
theorem app_on {a0 a1 a2 a3 a4 a5 a6 a7 a8 a9 : Blk} {g q n : Nat} {l : c6} {vs : List BA} {x : BA} (hz : vs.length = n) (hn : n < 1000) : j7 cfg 9 (a0 :: a1 :: a2 :: a3 :: a4 :: a5 :: a6 :: a7 :: a8 :: a9 :: ⟨g, false, 9, 1, aC vs, 0⟩ :: ⟨q, false, 9, 1, [.str x], 0⟩ :: l) (.own 10 g 0 n) (.own 11 q 0 1) = some (.own 10 (g + 1) 0 (n + 1), a0 :: a1 :: a2 :: a3 :: a4 :: a5 :: a6 :: a7 :: a8 :: a9 :: ⟨g + 1, false, 9, 1, aC (vs ++ [x]), 0⟩ :: ⟨q, false, 9, 1, [.str x], 0⟩ :: l) := by
  subst hz
  have e1 : cfg.sz 9 = 1 := rfl
  have e2 : (cfg.ti 9).bytes = 16 := rfl
  have hm : vs.length + 1 ≤ maxLen := by
    have : (1001 : Nat) ≤ maxLen := by decide
    omega
  have hb : (vs.length + 1) * 16 ≤ 140737488355328 := by omega
  have ht : List.take vs.length (aC vs) = aC vs := List.take_of_length_le (by rw [v9]; exact Nat.le_refl _)
  have hnl : ¬ vs.length + 1 ≤ vs.length := by omega
  simp [j7, rd, lenOf, e1, e2, v9, hm, hb, ht, hnl, jD]
theorem JK {l : List Fu} {i : Nat} (h : i < l.length) : List.take 1 (List.drop (i * 3 + 1) (n4 l)) = [AV.vec (l.getD i j4).params.length (v8 (l.getD i j4).params)] := by
  have := congrArg (fun x => (x.drop 1).take 1) (rV h)
  simp only [List.drop_take, List.drop_drop, List.take_take] at this
  simpa [dZ] using this
theorem DA : ∀ {l : List Fu} {i : Nat} {B : Sl}, i < l.length → List.take (i * 3 + 2) (n4 l) ++ AV.vec B.len (n8 B) :: List.drop (i * 3 + 2 + 1) (n4 l) = n4 (setBody l i B)
  | f :: l, 0, B, _ => by
    simp only [n4, List.flatMap_cons, dZ, setBody]
    rfl
  | f :: l, i + 1, B, h => by
    have ih := DA (l := l) (i := i) (B := B) (by simpa using h)
    have e1 : n4 (f :: l) = .str f.name :: .vec f.params.length (v8 f.params) :: .vec f.body.len (n8 f.body) :: n4 l := rfl
    have e2 : setBody (f :: l) (i + 1) B = f :: setBody l i B := by simp [setBody, List.getD]
    have e3 : n4 (f :: setBody l i B) = .str f.name :: .vec f.params.length (v8 f.params) :: .vec f.body.len (n8 f.body) :: n4 (setBody l i B) := rfl
    rw [e1, e2, e3, ← ih, show (i + 1) * 3 + 2 = i * 3 + 2 + 1 + 1 + 1 from by omega]
    rfl
attribute [local go_sem] rd n5 v9 s9 dL aP bF Int.natCast_nonneg Int.natCast_inj List.length_map wrap64 wrap8 mnm_eq gnm_eq pnm_eq fnr_eq sz_one kP iF app_mx app_gl app_vr app_pm app_fu app_cp app_on JK J9 kA rV DA I7 yJ A9 I8 wU max2 List.flatten_nil List.flatten_cons hB
theorem M0 (l : List Pm) : (cX l).length ≤ l.length := by
  simp only [cX, List.length_map]
  exact List.length_filter_le _ _
theorem c_top {c : Core} (hc : OkC c) (hL : c.L.length < 4611686018427387904) {f : Fu} (hp : f.params.length ≤ 2) {I lf : Int} (hI : OkI c.L I) {vs : List BA} {n : Nat} (hn : vs.length = n) {R : BR} (hR : g5 c f.params 24 vs 2 6 I lf = R) (h0 : 0 ≤ lf) (h1 : lf ≤ 24) (hfr : Fr 24 vs) (hN : vs.length ≤ 100) {b0 b1 b2 z mb gb vb : Blk} {gw : Nat} :
    CallA Try.prog cfg 42 [.ptr 5 0 0, .agg (dZ f), .own 10 gw 0 n, .int .i64 2, .int .i64 6] (hB c ⟨b0, b1, b2, z, mb, gb, [vb, ⟨gw, false, 9, 1, aC vs, n⟩]⟩ I lf) (fun y' h' => y' = .vec R.1.len (n8 R.1) ∧ h' = hB c ⟨b0, b1, b2, z, mb, gb, [vb, ⟨gw, false, 9, 1, aC vs, n⟩]⟩ R.2.1 R.2.2) := by
  subst hn
  subst hR
  refine zZ (args' := [.ptr 5 0 0, .agg (dZ f), .vec vs.length (aC vs), .int .i64 2, .int .i64 6]) (β := 10) (g := gw) (vs := vs) rfl ⟨.inl rfl, .inl rfl, .inr ⟨rfl, rfl⟩, .inl rfl, .inl rfl, trivial⟩ ?_
  exact CX hc hL f hp 24 24 lf (Nat.le_refl _) (by omega) h0 h1 I lf vs vs 2 6 hI h0 (by omega) (by omega) (by omega) (by omega) (by omega) (fun x hx => hx) (hfr.mono (by omega)) (by omega)
theorem DB {b0 b1 b2 : Blk} (L : List Int) (hL : L.length < 4611686018427387904) : CallA Try.prog cfg 24 [.vec L.length (l6 L)] [b0, b1, b2] (fun y' h' => (∃ p, GP p ∧ y' = .agg (yC p)) ∧ h' = [b0, b1, b2]) := by
  refine .b fn24 ntm24 ?_
  refine c96z ?_
  refine .ca rfl rfl (c_cut L 400 (by omega)) ?_
  refine .n ?_
  have hK1 : (L.take 400).length ≤ 400 := by rw [List.length_take]; exact Nat.min_le_left _ _
  generalize L.take 400 = K at *
  have hK : K.length < 4611686018427387904 := by omega
  have hKI : OkI K 0 := ⟨Int.le_refl _, by omega⟩
  have h3 := l8 hKI (n := 3) (by omega)
  refine c31z ?_
  refine .ch rfl rfl (cH (L := K) 0 3 hKI hK (by omega) (by omega)) ?_
  refine .n ?_
  refine .seq ?_
  refine .c7 [2, 3, 27] ?_
  generalize ((c5 K 0 3).1 == 1) = ar
  generalize (c5 K 0 3).2 = I1 at *
  have h4 := l8 h3.2.2 (n := 4) (by omega)
  obtain ⟨Nn, hNn, hN1, hN4⟩ : ∃ n : Nat, 1 + (c5 K I1 4).1 = (n : Int) ∧ 1 ≤ n ∧ n ≤ 4 := ⟨(1 + (c5 K I1 4).1).toNat, by omega, by omega, by omega⟩
  refine c24z ?_
  refine .ch rfl rfl (cH (L := K) I1 4 h3.2.2 hK (by omega) (by omega)) ?_
  refine .n ?_
  refine .block ?_
  refine c8.lZ (β := 5) (k := 2) rfl rfl ?_
  simp only [List.cons_append, List.nil_append, List.set_cons_succ, List.set_cons_zero, List.length_cons, List.length_nil, Nat.reduceAdd, Nat.zero_add, bA]
  refine c8.lZ (β := 5) (k := 1) rfl rfl ?_
  simp only [List.cons_append, List.nil_append, List.set_cons_succ, List.set_cons_zero, List.length_cons, List.length_nil, Nat.reduceAdd, Nat.zero_add, bA]
  refine c8.lZ (β := 5) (k := 3) rfl rfl ?_
  simp only [List.cons_append, List.nil_append, List.set_cons_succ, List.set_cons_zero, List.length_cons, List.length_nil, Nat.reduceAdd, Nat.zero_add, bA]
  refine .dU (fun m st => ∃ (i : Nat) (I : Int) (ms : List Mx) (g : Nat), (m = Nn - i ∧ (OkI K I ∧ i ≤ Nn ∧ ms.length = i ∧ QW ms)) ∧ st = ⟨mkS 264 [(2, AV.ptr 3 0 0), (3, AV.ptr 5 0 0), (4, AV.int .i64 ((i : Nat) : Int)), (5, AV.int .i64 ((Nn : Nat) : Int))], [b0, b1, b2, ⟨0, false, 27, 3, [.g6, .g6, .g6], 0⟩, ⟨0, false, 94, 2, [.vec K.length (l6 K), .int .i64 I], 0⟩, ⟨0, false, 96, 6, [.ptr 4 0 0, .own 7 0 0 0, .own 6 g 0 i, .own 8 0 0 0, .int .i64 24, .bool ar], 0⟩, p9 78 3 g (j6 ms), ⟨0, true, 0, 0, [], 0⟩, ⟨0, true, 0, 0, [], 0⟩]⟩) (.v ⟨0, (c5 K I1 4).2, [], 0, ⟨rfl, ⟨h4.2.2, by omega, rfl, fun j hj => by simp at hj⟩⟩, rfl⟩) ?_
  rintro m sl h' ⟨i, I, ms, g, ⟨hm, ⟨hI, hi, hml, hms⟩⟩, hst⟩
  obtain ⟨rfl, rfl⟩ := St.mk.inj hst; clear hst
  have hz : (j6 ms).length = i * 3 := by rw [s9, hml]; omega
  have h5 := l8 hI (n := 5) (by omega)
  have h33 := l8 h5.2.2 (n := 3) (by omega)
  refine c0z ?_
  refine .spl 42 rfl rfl (fun e1 => ?_) (fun e1 => ?_)
  ·try simp only [e1]
   have qe1 := fact e1
   refine c11z ?_
   refine c33z ?_
   refine .c7 [2, 3, 4, 5, 6] ?_
   refine c24z ?_
   refine .ch rfl rfl (cH (L := K) I 5 hI hK (by omega) (by omega)) ?_
   refine .nil ?_
   refine c80z ?_
   refine .spl 56 rfl rfl (fun e2 => ?_) (fun e2 => ?_)
   ·try simp only [e2]
    have qe2 := fact e2
    refine c64z ?_
    refine .c7 [2, 3, 4, 5, 6] ?_
    refine c172z ?_
    refine c112z ?_
    refine .c7 [2, 3, 4, 5] ?_
    refine .rz ?_
    exact ⟨_, by omega, .v ⟨(i + 1), (c5 K I 5).2, (ms ++ [⟨mnm i, true, 0⟩]), (g + 1), ⟨rfl, ⟨h5.2.2, by omega, by simp [hml], hms.snoc (by rw [hml]) (by constructor <;> (simp only; omega)) (by simp)⟩⟩, rfl⟩ (he := by (rw [mU]; rfl)) (hk := t57)⟩
   try simp only [e2]
   have qe2 := fact e2
   refine c14z ?_
   refine .spl 59 rfl rfl (fun e3 => ?_) (fun e3 => ?_)
   ·try simp only [e3]
    have qe3 := fact e3
    refine .T ?_
    refine .c7 [2, 3, 4, 5, 6] ?_
    refine c142z ?_
    refine .ch rfl rfl (cH (L := K) (c5 K I 5).2 3 h5.2.2 hK (by omega) (by omega)) ?_
    refine c45z ?_
    refine c172z ?_
    refine c112z ?_
    refine .c7 [2, 3, 4, 5] ?_
    refine .rz ?_
    exact ⟨_, by omega, .v ⟨(i + 1), (c5 K (c5 K I 5).2 3).2, (ms ++ [⟨mnm i, false, 1 + (c5 K (c5 K I 5).2 3).1⟩]), (g + 1), ⟨rfl, ⟨h33.2.2, by omega, by simp [hml], hms.snoc (by rw [hml]) (by constructor <;> (simp only; omega)) (by simp)⟩⟩, rfl⟩ (he := by (rw [mU]; rfl)) (hk := t57)⟩
   try simp only [e3]
   have qe3 := fact e3
   refine c13z ?_
   refine .c7 [2, 3, 4, 5, 6] ?_
   refine c172z ?_
   refine c112z ?_
   refine .c7 [2, 3, 4, 5] ?_
   refine .rz ?_
   exact ⟨_, by omega, .v ⟨(i + 1), (c5 K I 5).2, (ms ++ [⟨mnm i, false, 0⟩]), (g + 1), ⟨rfl, ⟨h5.2.2, by omega, by simp [hml], hms.snoc (by rw [hml]) (by constructor <;> (simp only; omega)) (by simp)⟩⟩, rfl⟩ (he := by (rw [mU]; rfl)) (hk := t57)⟩
  try simp only [e1]
  have qe1 := fact e1
  refine c3z ?_
  have hiN : i = Nn := by omega
  refine c8.lA (γ := 6) (β := 5) (k := 2) (len := i) rfl hz (by omega) (LH _) rfl (by decide) rfl ?_
  simp only [List.cons_append, List.nil_append, List.set_cons_succ, List.set_cons_zero, List.length_cons, List.length_nil, Nat.reduceAdd, Nat.zero_add, bA]
  generalize iC 78 3 g (j6 ms) (i * 3) = Mb
  subst hiN
  subst hml
  change c8 ..
  refine c33z ?_
  have hg3 := l8 hI (n := 3) (by omega)
  obtain ⟨Ng, hNg, hNg2⟩ : ∃ n : Nat, (c5 K I 3).1 = (n : Int) ∧ n ≤ 2 := ⟨(c5 K I 3).1.toNat, by omega, by omega⟩
  refine c24z ?_
  refine .ch rfl rfl (cH (L := K) I 3 hI hK (by omega) (by omega)) ?_
  refine .n ?_
  refine .block ?_
  refine c8.O4 7 rfl ?_
  refine .dU (fun m st => ∃ (q : Nat) (I2 : Int) (gs : List Gl) (g2 : Nat) (gv : Nat), (m = Ng - q ∧ (OkI K I2 ∧ q ≤ Ng ∧ gs.length = q ∧ QX gs)) ∧ st = ⟨mkS 264 [(2, AV.ptr 3 0 0), (3, AV.ptr 5 0 0), (7, AV.own 9 gv 0 q), (8, AV.int .i64 ((q : Nat) : Int)), (9, AV.int .i64 ((Ng : Nat) : Int))], [b0, b1, b2, ⟨0, false, 27, 3, [.g6, .g6, .g6], 0⟩, ⟨0, false, 94, 2, [.vec K.length (l6 K), .int .i64 I2], 0⟩, ⟨0, false, 96, 6, [.ptr 4 0 0, .own 7 g2 0 q, .vec ms.length (j6 ms), .own 8 0 0 0, .int .i64 24, .bool ar], 0⟩, Mb, p9 100 2 g2 (o7 gs), ⟨0, true, 0, 0, [], 0⟩, p9 9 1 gv (aC (gs.map (·.name)))]⟩) (.v ⟨0, (c5 K I 3).2, ([] : List Gl), 0, 0, ⟨rfl, ⟨hg3.2.2, by omega, rfl, fun j hj => by simp at hj⟩⟩, rfl⟩) ?_
  rintro m sl h' ⟨q, I2, gs, g2, gv, ⟨hm, ⟨hI2, hq, hgl, hgs⟩⟩, hst⟩
  obtain ⟨rfl, rfl⟩ := St.mk.inj hst; clear hst
  have hz : (o7 gs).length = q * 2 := by rw [dL, hgl]; omega
  have hzv : (aC (gs.map (·.name))).length = q * 1 := by rw [v9, List.length_map, hgl]; omega
  have h52 := l8 hI2 (n := 5) (by omega)
  refine c0z ?_
  refine .spl 87 rfl rfl (fun e4 => ?_) (fun e4 => ?_)
  ·try simp only [e4]
   have qe4 := fact e4
   refine c11z ?_
   refine c19z ?_
   refine .p 3 ?_
   refine .em [true] [8, 0] [_] ?_
   refine .rm [true, false] ?_
   refine .p 4 ?_
   refine .rm [true, true] ?_
   refine .cm [true, true] [1032, 1024, 8, 0] [_, _] rfl rfl (by simp only [jL, and_true, List.cons_append, List.nil_append]; exact ⟨cH (L := K) I2 5 hI2 hK (by omega) (by omega), cH (L := K) I2 5 hI2 hK (by omega) (by omega)⟩) ?_
   refine .p 2 ?_
   refine c41z ?_
   refine u9.pop [false, false, false, true, true, false, false, true, true] (by kernel_rfl) (by simp only [pK, and_true, List.cons_append, List.nil_append]; exact ⟨cY.p8 rfl rfl rfl rfl tD (cH (L := K) I2 5 hI2 hK (by omega) (by omega)) rfl, cY.p8 rfl rfl rfl rfl tD (cH (L := K) I2 5 hI2 hK (by omega) (by omega)) rfl, cY.p8 rfl rfl rfl rfl tD (cH (L := K) I2 5 hI2 hK (by omega) (by omega)) rfl, cY.p8 rfl rfl rfl rfl tD (cH (L := K) I2 5 hI2 hK (by omega) (by omega)) rfl⟩) ?_
   refine c75z ?_
   refine c106z ?_
   refine .c7 [2, 3, 7, 8, 9, 10] ?_
   refine .og z7 (mkG 19 [0, 0, 2, 6, 14, 30, 0, 64, 254, 0, 0, 1024, 3072, 8190, 16383, 32767, 65535, 131071, 262143] [7, 8, 12, 13, 17] [0, 0, 0, 0, 0, 0, 0, 0, 128, 0, 0, 0, 0, 4480, 12672, 12672, 12672, 12672, 143744] [131072, 139520, 139520, 139520, 139520, 139520, 139648, 139520, 139264, 139264, 143360, 143360, 139264, 131072, 131072, 131072, 131072, 0, 0] [(7, 0), (12, 1)] [0, 128, 384, 4096, 4224, 4480, 12672, 143744] [0, 1, 2, 3, 4, 5, 6, 7, 8, 9]) 2 ?_
   refine .p 5 ?_
   refine .rm [true] ?_
   refine .rm [true] ?_
   refine .em [true] [128, 0] [_] ?_
   refine .em [true, false] [384, 128, 0] [_] ?_
   refine .p 2 ?_
   refine .rn [true, true, true] ?_
   refine .en [true, true, true] [4480, 4224, 4096, 384, 128, 0] [_, _, _] ?_
   refine .en [true, false, false, false, false, false] [12672, 4480, 4224, 4096, 384, 128, 0] [_] ?_
   refine .p 3 ?_
   refine .en [true, false, false, false, false, false, false] [143744, 12672, 4480, 4224, 4096, 384, 128, 0] [_] ?_
   refine .p 1 ?_
   refine c82z ?_
   refine .po [false, false, false, false, true, false, false, true] ?_
   refine .po [false, false, false, true, true, false, true, true] ?_
   refine u9.nil rfl ?_
   change c8 ..
   refine .c7 [2, 3, 7, 8, 9] ?_
   refine .rz ?_
   exact ⟨_, by omega, .v ⟨(q + 1), (c5 K I2 5).2, (gs ++ [(⟨gnm q, (c5 K I2 5).1 - 2⟩ : Gl)]), (g2 + 1), (gv + 1), ⟨rfl, ⟨h52.2.2, by omega, by simp [hgl], hgs.snoc (by rw [hgl]) (by constructor <;> (simp only; omega))⟩⟩, rfl⟩ (he := by (rw [D6, List.map_append, List.map_cons, List.map_nil, jD]; rfl)) (hk := by exact cI.of ⟨.inl rfl, .inl rfl, .inl rfl, .inl rfl, .inr oI, .inr (fR.get t24), .inl rfl, .inr (by rw [o9]; exact bE.refs (LJ _) _), .inl rfl, .inr (by rw [o9]; exact bE.refs (QI _) _), trivial⟩)⟩
  try simp only [e4]
  have qe4 := fact e4
  refine c3z ?_
  refine c8.lA (γ := 7) (β := 5) (k := 1) (len := q) rfl hz (by omega) (LJ _) rfl (by decide) rfl ?_
  simp only [List.cons_append, List.nil_append, List.set_cons_succ, List.set_cons_zero, List.length_cons, List.length_nil, Nat.reduceAdd, Nat.zero_add, bA]
  generalize iC 100 2 g2 (o7 gs) (q * 2) = Gb
  refine c8.W3 (t := 7) (γ := 9) (len := q) rfl hzv (by omega) (QI _) (A0 (by decide) rfl) ?_
  rw [bA]
  simp only [List.cons_append, List.nil_append, List.set_cons_succ, List.set_cons_zero, List.length_cons, List.length_nil, Nat.reduceAdd, Nat.zero_add, bA]
  generalize iC 9 1 gv (aC (gs.map (·.name))) (q * 1) = Vb
  have hgl2 : gs.length ≤ 2 := by omega
  subst hgl
  change c8 ..
  have hk4 := l8 hI2 (n := 4) (by omega)
  obtain ⟨Nk, hNk, hNk3⟩ : ∃ n : Nat, (c5 K I2 4).1 = (n : Int) ∧ n ≤ 3 := ⟨(c5 K I2 4).1.toNat, by omega, by omega⟩
  refine c24z ?_
  refine .ch rfl rfl (cH (L := K) I2 4 hI2 hK (by omega) (by omega)) ?_
  refine .n ?_
  refine .seq ?_
  refine .c7 [2, 3, 7, 11] ?_
  refine c28z ?_
  refine .dU (fun m st => ∃ (r : Nat) (I3 : Int) (fs : List Fu) (gF : Nat), (m = (Nk + 1) - r ∧ (OkI K I3 ∧ r ≤ Nk + 1 ∧ fs.length = r ∧ HH fs)) ∧ st = ⟨mkS 264 [(2, AV.ptr 3 0 0), (3, AV.ptr 5 0 0), (7, AV.vec gs.length (aC (gs.map (·.name)))), (11, AV.int .i64 ((Nk : Nat) : Int)), (12, AV.int .i64 ((r : Nat) : Int))], [b0, b1, b2, ⟨0, false, 27, 3, [.g6, .g6, .g6], 0⟩, ⟨0, false, 94, 2, [.vec K.length (l6 K), .int .i64 I3], 0⟩, ⟨0, false, 96, 6, [.ptr 4 0 0, .vec gs.length (o7 gs), .vec ms.length (j6 ms), .own 8 gF 0 r, .int .i64 24, .bool ar], 0⟩, Mb, Gb, p9 104 3 gF (n4 fs), Vb]⟩) (.v ⟨0, (c5 K I2 4).2, [], 0, ⟨rfl, ⟨hk4.2.2, by omega, rfl, fun j hj => by simp at hj⟩⟩, rfl⟩) ?_
  rintro m sl h' ⟨r, I3, fs, gF, ⟨hm, ⟨hI3, hr, hfl, hfs⟩⟩, hst⟩
  obtain ⟨rfl, rfl⟩ := St.mk.inj hst; clear hst
  have hz : (n4 fs).length = r * 3 := by rw [bF, hfl]; omega
  have h63 := l8 hI3 (n := 3) (by omega)
  refine c0z ?_
  refine .spl 127 rfl rfl (fun e5 => ?_) (fun e5 => ?_)
  ·try simp only [e5]
   have qe5 := fact e5
   refine c11z ?_
   refine .s ?_
   refine c77z ?_
   refine .seq ?_
   refine .c7 [2, 3, 7, 11, 12, 13] ?_
   refine .z ?_
   refine .spl 138 rfl rfl (fun e6 => ?_) (fun e6 => ?_)
   ·try simp only [e6]
    have qe6 := fact e6
    refine c64z ?_
    refine .seq ?_
    have hnm2 : (⟨#[109, 97, 105, 110]⟩ : BA) = fnm r := by rw [show r = 0 from by omega]; rfl
    generalize hnm : (⟨#[109, 97, 105, 110]⟩ : BA) = nm at hnm2 ⊢
    replace hnm2 : nm = fnm r := hnm2
    replace hnm : nm = nm := rfl
    obtain ⟨N3, hN3, hN32⟩ : ∃ n : Nat, (c5 K I3 3).1 = (n : Int) ∧ n ≤ 2 := ⟨(c5 K I3 3).1.toNat, by omega, by omega⟩
    refine c24z ?_
    refine .ch rfl rfl (cH (L := K) I3 3 hI3 hK (by omega) (by omega)) ?_
    refine .n ?_
    refine .block ?_
    refine c8.lZ (β := 11) (k := 1) rfl rfl ?_
    simp only [List.cons_append, List.nil_append, List.set_cons_succ, List.set_cons_zero, List.length_cons, List.length_nil, Nat.reduceAdd, Nat.zero_add, bA]
    refine .dU (fun m st => ∃ (n : Nat) (I4 : Int) (ps : List Pm) (gp : Nat), (m = n ∧ (OkI K I4 ∧ n ≤ N3 ∧ HG N3 n ps ∧ (r = 0 → ps = []))) ∧ st = ⟨mkS 264 [(2, AV.ptr 3 0 0), (3, AV.ptr 5 0 0), (7, AV.vec gs.length (aC (gs.map (·.name)))), (11, AV.int .i64 ((Nk : Nat) : Int)), (12, AV.int .i64 ((r : Nat) : Int)), (13, AV.ptr 11 0 0), (14, AV.int .i64 ((n : Nat) : Int))], [b0, b1, b2, ⟨0, false, 27, 3, [.g6, .g6, .g6], 0⟩, ⟨0, false, 94, 2, [.vec K.length (l6 K), .int .i64 I4], 0⟩, ⟨0, false, 96, 6, [.ptr 4 0 0, .vec gs.length (o7 gs), .vec ms.length (j6 ms), .own 8 gF 0 r, .int .i64 24, .bool ar], 0⟩, Mb, Gb, p9 104 3 gF (n4 fs), Vb, ⟨0, false, 5, 1, [.int .u8 (48 + ((r : Nat) : Int))], 0⟩, ⟨0, false, 104, 3, [.str nm, .own 12 gp 0 ps.length, .g6], 0⟩, p9 106 2 gp (v8 ps)]⟩) (.v ⟨N3, (c5 K I3 3).2, ([] : List Pm), 0, ⟨rfl, ⟨h63.2.2, by omega, .inl ⟨rfl, rfl⟩, fun _ => rfl⟩⟩, rfl⟩ (hs := t38)) ?_
    rintro m sl h' ⟨n, I4, ps, gp, ⟨hm, ⟨hI4, hn, hps, hp0⟩⟩, hst⟩
    obtain ⟨rfl, rfl⟩ := St.mk.inj hst; clear hst
    have hzp : (v8 ps).length = ps.length * 2 := by rw [aP]; omega
    have h73 := l8 hI4 (n := 3) (by omega)
    have hpl := hps.len
    refine .seq ?_
    refine c20z ?_
    refine .spl 147 rfl rfl (fun e7 => ?_) (fun e7 => ?_)
    ·try simp only [e7]
     have qe7 := fact e7
     refine .m [(2, 147)] ?_
     refine .spl 150 rfl rfl (fun e8 => ?_) (fun e8 => ?_)
     ·try simp only [e8]
      have qe8 := fact e8
      refine c11z ?_
      refine c19z ?_
      refine .p 3 ?_
      refine .em [true] [8, 0] [_] ?_
      refine .rm [true, false] ?_
      refine .p 4 ?_
      refine .rm [true, true] ?_
      refine .cm [true, true] [1032, 1024, 8, 0] [_, _] rfl rfl t80 ?_
      refine .p 2 ?_
      refine c41z ?_
      refine u9.pop [false, false, false, true, true, false, false, true, true] (by kernel_rfl) t51 ?_
      refine c75z ?_
      refine c106z ?_
      refine .c7 [2, 3, 7, 11, 12, 13, 14, 15] ?_
      refine c32z ?_
      exact ⟨_, by omega, .v ⟨(n - 1), (c5 K I4 3).2, (ps ++ [(⟨pnm n, decide ((c5 K I4 3).1 > 0)⟩ : Pm)]), (gp + 1), ⟨rfl, ⟨h73.2.2, by omega, hps.step (by omega) (by omega) rfl, fun h => by omega⟩⟩, rfl⟩ (he := by (rw [sY, List.length_append]; rfl)) (hk := t64) (hs := t38)⟩
     try simp only [e8]
     have qe8 := fact e8
     refine c3z ?_
     refine c8.lA (γ := 12) (β := 11) (k := 1) (len := ps.length) rfl hzp (by omega) (zG _) rfl (by decide) rfl ?_
     simp only [List.cons_append, List.nil_append, List.set_cons_succ, List.set_cons_zero, List.length_cons, List.length_nil, Nat.reduceAdd, Nat.zero_add, bA]
     refine c8.EX (β := 11) (k := 2) rfl rfl ?_
     simp only [List.cons_append, List.nil_append, List.set_cons_succ, List.set_cons_zero, List.length_cons, List.length_nil, Nat.reduceAdd, Nat.zero_add, bA]
     generalize iC 106 2 gp (v8 ps) (ps.length * 2) = Pb
     change c8 ..
     refine c172z ?_
     refine c156z ?_
     refine .rz ?_
     exact ⟨_, by omega, .v ⟨(r + 1), I4, (fs ++ [⟨nm, ps, .nil⟩]), (gF + 1), ⟨rfl, ⟨hI4, by omega, by simp [hfl], hfs.snoc (by rw [hfl]; exact hnm.symm.trans hnm2) (by intro h; exact hp0 (by omega)) (hps.fin t81 (by omega))⟩⟩, rfl⟩ (he := by (rw [kC]; rfl)) (hk := t40)⟩
    try simp only [e7]
    have qe7 := fact e7
    refine .m [(2, 147)] ?_
    refine c3z ?_
    refine c8.lA (γ := 12) (β := 11) (k := 1) (len := ps.length) rfl hzp (by omega) (zG _) rfl (by decide) rfl ?_
    simp only [List.cons_append, List.nil_append, List.set_cons_succ, List.set_cons_zero, List.length_cons, List.length_nil, Nat.reduceAdd, Nat.zero_add, bA]
    refine c8.EX (β := 11) (k := 2) rfl rfl ?_
    simp only [List.cons_append, List.nil_append, List.set_cons_succ, List.set_cons_zero, List.length_cons, List.length_nil, Nat.reduceAdd, Nat.zero_add, bA]
    generalize iC 106 2 gp (v8 ps) (ps.length * 2) = Pb
    change c8 ..
    refine c172z ?_
    refine c156z ?_
    refine .rz ?_
    exact ⟨_, by omega, .v ⟨(r + 1), I4, (fs ++ [⟨nm, ps, .nil⟩]), (gF + 1), ⟨rfl, ⟨hI4, by omega, by simp [hfl], hfs.snoc (by rw [hfl]; exact hnm.symm.trans hnm2) (by intro h; exact hp0 (by omega)) (hps.fin t81 (by omega))⟩⟩, rfl⟩ (he := by (rw [kC]; rfl)) (hk := t40)⟩
   try simp only [e6]
   have qe6 := fact e6
   refine c55z ?_
   have hnm2 : fnr r = fnm r := by rw [fnm, if_neg (by omega)]; rfl
   generalize hnm : fnr r = nm at hnm2 ⊢
   replace hnm2 : nm = fnm r := hnm2
   replace hnm : nm = nm := rfl
   obtain ⟨N3, hN3, hN32⟩ : ∃ n : Nat, (c5 K I3 3).1 = (n : Int) ∧ n ≤ 2 := ⟨(c5 K I3 3).1.toNat, by omega, by omega⟩
   refine c24z ?_
   refine .ch rfl rfl (cH (L := K) I3 3 hI3 hK (by omega) (by omega)) ?_
   refine .n ?_
   refine .block ?_
   refine c8.lZ (β := 11) (k := 1) rfl rfl ?_
   simp only [List.cons_append, List.nil_append, List.set_cons_succ, List.set_cons_zero, List.length_cons, List.length_nil, Nat.reduceAdd, Nat.zero_add, bA]
   refine .dU (fun m st => ∃ (n : Nat) (I4 : Int) (ps : List Pm) (gp : Nat), (m = n ∧ (OkI K I4 ∧ n ≤ N3 ∧ HG N3 n ps ∧ (r = 0 → ps = []))) ∧ st = ⟨mkS 264 [(2, AV.ptr 3 0 0), (3, AV.ptr 5 0 0), (7, AV.vec gs.length (aC (gs.map (·.name)))), (11, AV.int .i64 ((Nk : Nat) : Int)), (12, AV.int .i64 ((r : Nat) : Int)), (13, AV.ptr 11 0 0), (14, AV.int .i64 ((n : Nat) : Int))], [b0, b1, b2, ⟨0, false, 27, 3, [.g6, .g6, .g6], 0⟩, ⟨0, false, 94, 2, [.vec K.length (l6 K), .int .i64 I4], 0⟩, ⟨0, false, 96, 6, [.ptr 4 0 0, .vec gs.length (o7 gs), .vec ms.length (j6 ms), .own 8 gF 0 r, .int .i64 24, .bool ar], 0⟩, Mb, Gb, p9 104 3 gF (n4 fs), Vb, ⟨0, false, 5, 1, [.int .u8 (48 + ((r : Nat) : Int))], 0⟩, ⟨0, false, 104, 3, [.str nm, .own 12 gp 0 ps.length, .g6], 0⟩, p9 106 2 gp (v8 ps)]⟩) (.v ⟨N3, (c5 K I3 3).2, ([] : List Pm), 0, ⟨rfl, ⟨h63.2.2, by omega, .inl ⟨rfl, rfl⟩, fun _ => rfl⟩⟩, rfl⟩ (hs := t38)) ?_
   rintro m sl h' ⟨n, I4, ps, gp, ⟨hm, ⟨hI4, hn, hps, hp0⟩⟩, hst⟩
   obtain ⟨rfl, rfl⟩ := St.mk.inj hst; clear hst
   have hzp : (v8 ps).length = ps.length * 2 := by rw [aP]; omega
   have h73 := l8 hI4 (n := 3) (by omega)
   have hpl := hps.len
   refine .seq ?_
   refine c20z ?_
   refine .spl 147 rfl rfl (fun e9 => ?_) (fun e9 => ?_)
   ·try simp only [e9]
    have qe9 := fact e9
    refine .m [(2, 147)] ?_
    refine .spl 150 rfl rfl (fun e10 => ?_) (fun e10 => ?_)
    ·try simp only [e10]
     have qe10 := fact e10
     refine c11z ?_
     refine c19z ?_
     refine .p 3 ?_
     refine .em [true] [8, 0] [_] ?_
     refine .rm [true, false] ?_
     refine .p 4 ?_
     refine .rm [true, true] ?_
     refine .cm [true, true] [1032, 1024, 8, 0] [_, _] rfl rfl t80 ?_
     refine .p 2 ?_
     refine c41z ?_
     refine u9.pop [false, false, false, true, true, false, false, true, true] (by kernel_rfl) t51 ?_
     refine c75z ?_
     refine c106z ?_
     refine .c7 [2, 3, 7, 11, 12, 13, 14, 15] ?_
     refine c32z ?_
     exact ⟨_, by omega, .v ⟨(n - 1), (c5 K I4 3).2, (ps ++ [(⟨pnm n, decide ((c5 K I4 3).1 > 0)⟩ : Pm)]), (gp + 1), ⟨rfl, ⟨h73.2.2, by omega, hps.step (by omega) (by omega) rfl, fun h => by omega⟩⟩, rfl⟩ (he := by (rw [sY, List.length_append]; rfl)) (hk := t64) (hs := t38)⟩
    try simp only [e10]
    have qe10 := fact e10
    refine c3z ?_
    refine c8.lA (γ := 12) (β := 11) (k := 1) (len := ps.length) rfl hzp (by omega) (zG _) rfl (by decide) rfl ?_
    simp only [List.cons_append, List.nil_append, List.set_cons_succ, List.set_cons_zero, List.length_cons, List.length_nil, Nat.reduceAdd, Nat.zero_add, bA]
    refine c8.EX (β := 11) (k := 2) rfl rfl ?_
    simp only [List.cons_append, List.nil_append, List.set_cons_succ, List.set_cons_zero, List.length_cons, List.length_nil, Nat.reduceAdd, Nat.zero_add, bA]
    generalize iC 106 2 gp (v8 ps) (ps.length * 2) = Pb
    change c8 ..
    refine c172z ?_
    refine c156z ?_
    refine .rz ?_
    exact ⟨_, by omega, .v ⟨(r + 1), I4, (fs ++ [⟨nm, ps, .nil⟩]), (gF + 1), ⟨rfl, ⟨hI4, by omega, by simp [hfl], hfs.snoc (by rw [hfl]; exact hnm.symm.trans hnm2) (by intro h; exact hp0 (by omega)) (hps.fin t81 (by omega))⟩⟩, rfl⟩ (he := by (rw [kC]; rfl)) (hk := t40)⟩
   try simp only [e9]
   have qe9 := fact e9
   refine .m [(2, 147)] ?_
   refine c3z ?_
   refine c8.lA (γ := 12) (β := 11) (k := 1) (len := ps.length) rfl hzp (by omega) (zG _) rfl (by decide) rfl ?_
   simp only [List.cons_append, List.nil_append, List.set_cons_succ, List.set_cons_zero, List.length_cons, List.length_nil, Nat.reduceAdd, Nat.zero_add, bA]
   refine c8.EX (β := 11) (k := 2) rfl rfl ?_
   simp only [List.cons_append, List.nil_append, List.set_cons_succ, List.set_cons_zero, List.length_cons, List.length_nil, Nat.reduceAdd, Nat.zero_add, bA]
   generalize iC 106 2 gp (v8 ps) (ps.length * 2) = Pb
   change c8 ..
   refine c172z ?_
   refine c156z ?_
   refine .rz ?_
   exact ⟨_, by omega, .v ⟨(r + 1), I4, (fs ++ [⟨nm, ps, .nil⟩]), (gF + 1), ⟨rfl, ⟨hI4, by omega, by simp [hfl], hfs.snoc (by rw [hfl]; exact hnm.symm.trans hnm2) (by intro h; exact hp0 (by omega)) (hps.fin t81 (by omega))⟩⟩, rfl⟩ (he := by (rw [kC]; rfl)) (hk := t40)⟩
  try simp only [e5]
  have qe5 := fact e5
  refine c3z ?_
  have hrN : r = Nk + 1 := by omega
  rw [fC (zs := n4 fs) (by intro h0; have := congrArg List.length h0; rw [hz] at this; simp at this; omega)]
  change c8 ..
  refine c12z ?_
  refine .dU (fun m st => ∃ (s : Nat) (I5 : Int) (lf : Int) (fs2 : List Fu), (m = fs.length - s ∧ (OkI K I5 ∧ s ≤ fs.length ∧ VO gs ms fs2 s lf ∧ mB fs2 = mB fs ∧ fs2.length = fs.length)) ∧ st = ⟨mkS 264 [(2, AV.ptr 3 0 0), (3, AV.ptr 5 0 0), (7, AV.vec gs.length (aC (gs.map (·.name)))), (16, AV.int .i64 ((s : Nat) : Int))], [b0, b1, b2, ⟨0, false, 27, 3, [.g6, .g6, .g6], 0⟩, ⟨0, false, 94, 2, [.vec K.length (l6 K), .int .i64 I5], 0⟩, ⟨0, false, 96, 6, [.ptr 4 0 0, .vec gs.length (o7 gs), .vec ms.length (j6 ms), .own 8 gF 0 fs2.length, .int .i64 lf, .bool ar], 0⟩, Mb, Gb, ⟨gF, false, 104, 3, n4 fs2, 0⟩, Vb]⟩) (.v ⟨0, I3, 24, fs, ⟨rfl, ⟨hI3, Nat.zero_le _, ⟨fun j hj => by omega, by simp [pZ], by omega⟩, rfl, rfl⟩⟩, rfl⟩) ?_ (he := by (rw [← hfl]))
  rintro m sl h' ⟨s, I5, lf, fs2, ⟨hm, ⟨hI5, hs, hbd, hhd, hfl2⟩⟩, hst⟩
  obtain ⟨rfl, rfl⟩ := St.mk.inj hst; clear hst
  have hbo := hbd.ol
  have hfs2 := hfs.mB hhd
  refine c0z ?_
  refine .spl 191 rfl rfl (fun e11 => ?_) (fun e11 => ?_)
  ·try simp only [e11]
   have qe11 := fact e11
   refine c11z ?_
   refine .c7 [2, 3, 7, 16] ?_
   have hps2 : (fs2.getD s j4).params.length ≤ 2 := by rcases (hfs2 s (by omega)).2.2 with h | h | h <;> (have := congrArg List.length h; rw [List.length_map] at this; simp only [List.length_nil, List.length_cons] at this; omega)
   have hvn : (gs.map (·.name)).length = gs.length := List.length_map _
   refine c22z ?_
   refine .dU (fun m st => ∃ (j : Nat) (gw : Nat), (m = (fs2.getD s j4).params.length - j ∧ j ≤ (fs2.getD s j4).params.length) ∧ st = ⟨mkS 264 [(2, AV.ptr 3 0 0), (3, AV.ptr 5 0 0), (7, AV.vec gs.length (aC (gs.map (·.name)))), (16, AV.int .i64 ((s : Nat) : Int)), (17, AV.own 10 gw 0 (gs.map (·.name) ++ cX ((fs2.getD s j4).params.take j)).length), (18, AV.int .i64 ((j : Nat) : Int))], [b0, b1, b2, ⟨0, false, 27, 3, [.g6, .g6, .g6], 0⟩, ⟨0, false, 94, 2, [.vec K.length (l6 K), .int .i64 I5], 0⟩, ⟨0, false, 96, 6, [.ptr 4 0 0, .vec gs.length (o7 gs), .vec ms.length (j6 ms), .own 8 gF 0 fs2.length, .int .i64 lf, .bool ar], 0⟩, Mb, Gb, ⟨gF, false, 104, 3, n4 fs2, 0⟩, Vb, ⟨gw, false, 9, 1, aC (gs.map (·.name) ++ cX ((fs2.getD s j4).params.take j)), 0⟩]⟩) (.v ⟨0, (gO 0 gs.length), ⟨rfl, Nat.zero_le _⟩, rfl⟩ (hs := t39)) ?_ (he := by (rw [show cX ((fs2.getD s j4).params.take 0) = [] from rfl, List.append_nil]))
   rintro m sl h' ⟨j, gw, ⟨hm, hj⟩, hst⟩
   obtain ⟨rfl, rfl⟩ := St.mk.inj hst; clear hst
   have hil : (cX ((fs2.getD s j4).params.take j)).length ≤ 2 := Nat.le_trans (M0 _) t59
   have holn : (gs.map (·.name) ++ cX ((fs2.getD s j4).params.take j)).length = gs.length + (cX ((fs2.getD s j4).params.take j)).length := by simp
   refine .seq ?_
   refine .s ?_
   refine c77z ?_
   refine .spl 208 rfl rfl (fun e12 => ?_) (fun e12 => ?_)
   ·try simp only [e12]
    have qe12 := fact e12
    refine c11z ?_
    refine .c7 [2, 3, 7, 16, 17, 18] ?_
    refine .s ?_
    refine c77z ?_
    refine .spl 224 rfl rfl (fun e13 => ?_) (fun e13 => ?_)
    ·try simp only [e13]
     have qe13 := fact e13
     refine .T ?_
     refine .c7 [2, 3, 7, 16, 17, 18] ?_
     refine c118z ?_
     refine .e 8 ?_
     refine c45z ?_
     refine .c7 [2, 3, 7, 16, 17, 18] ?_
     refine .rz ?_
     have hsu := yV (l := (fs2.getD s j4).params) (j := j) (by omega); rw [show ((fs2.getD s j4).params.getD j gL).mu = false from by simp_all] at hsu; simp only [Bool.false_eq_true, if_false, if_true, List.append_nil] at hsu
     have hsl := congrArg List.length hsu; try simp only [List.length_append, List.length_cons, List.length_nil] at hsl
     have hnl : (gs.map (·.name) ++ cX ((fs2.getD s j4).params.take (j + 1))).length = (gs.map (·.name) ++ cX ((fs2.getD s j4).params.take j)).length + 1 := by simp only [List.length_append]; omega
     exact ⟨_, by omega, .v ⟨(j + 1), (gw + 1), ⟨rfl, by omega⟩, rfl⟩ (he := by (rw [hsu, ← List.append_assoc]; rfl)) (hk := t84) (hs := t39)⟩
    try simp only [e13]
    have qe13 := fact e13
    refine c13z ?_
    refine .c7 [2, 3, 7, 16, 17, 18] ?_
    refine .rz ?_
    have hsu := yV (l := (fs2.getD s j4).params) (j := j) (by omega); rw [show ((fs2.getD s j4).params.getD j gL).mu = true from by simp_all] at hsu; simp only [Bool.false_eq_true, if_false, if_true, List.append_nil] at hsu
    have hsl := congrArg List.length hsu; try simp only [List.length_append, List.length_cons, List.length_nil] at hsl
    have hnl : (gs.map (·.name) ++ cX ((fs2.getD s j4).params.take (j + 1))).length = (gs.map (·.name) ++ cX ((fs2.getD s j4).params.take j)).length := by simp only [List.length_append]; omega
    exact ⟨_, by omega, .v ⟨(j + 1), gw, ⟨rfl, by omega⟩, rfl⟩ (he := by (rw [hsu]; rfl)) (hk := t84) (hs := t39)⟩
   try simp only [e12]
   have qe12 := fact e12
   refine c3z ?_
   have hjN : j = (fs2.getD s j4).params.length := by omega
   rw [hjN, List.take_length] at *
   change c8 ..
   refine .c7 [2, 3, 7, 16, 17] ?_
   refine raise (β := 10) (k := (gs.map (·.name) ++ cX (fs2.getD s j4).params).length) rfl (Nat.zero_le _) ?_
   simp only [List.cons_append, List.nil_append, List.set_cons_succ, List.set_cons_zero, List.length_cons, List.length_nil, Nat.reduceAdd, Nat.zero_add, bA]
   have hcc : OkC (⟨K, gs, ms, fs2, gF, ar⟩ : Core) := okC_of hms ⟨by omega, by omega⟩ hfs2 ⟨by omega, by omega⟩
   have hfrs := Q0 hgs hgl2 (hfs2 s (by omega)).2.2
   have hok := gN hcc (ps := (fs2.getD s j4).params) 24 (gs.map (·.name) ++ cX (fs2.getD s j4).params) 2 6 I5 (gs.map (·.name) ++ cX (fs2.getD s j4).params) lf (by omega) (by omega) hI5 (by omega) (by omega) (by omega) (fun x hx => hx) (hfrs.mono (by omega))
   generalize hRB : g5 (⟨K, gs, ms, fs2, gF, ar⟩ : Core) (fs2.getD s j4).params 24 (gs.map (·.name) ++ cX (fs2.getD s j4).params) 2 6 I5 lf = RB at hok
   refine c8.jP z7 (mkP 20 [0, 1, 3, 7, 15, 0, 0, 0, 128, 384, 896, 1920, 0, 8064, 16256, 0, 65472, 131071, 262143, 524287] [16, 19]) [0, 1, 2, 3, 4, 5] (by kernel_rfl) (by kernel_rfl) ?_
   refine cO.p (pd := []) 16 ?_
   refine cO.p8 rfl rfl rfl rfl rfl hb42 (c_top hcc hK (f := (fs2.getD s j4)) (n := gs.length + (cX (fs2.getD s j4).params).length) hps2 hI5 (by simp only [List.length_append, List.length_map]) hRB (by omega) (by omega) hfrs (by have := M0 (fs2.getD s j4).params; simp only [List.length_append, List.length_map]; omega) (b0 := b0) (b1 := b1) (b2 := b2) (z := ⟨0, false, 27, 3, [.g6, .g6, .g6], 0⟩) (mb := Mb) (gb := Gb) (vb := Vb)) ?_
   refine cO.p 3 ?_
   refine cO.nil t8 ?_
   change c8 ..
   refine .c7 [2, 3, 7, 16] ?_
   refine .rz ?_
   exact ⟨_, by omega, .v ⟨(s + 1), RB.2.1, RB.2.2, (setBody fs2 s RB.1), ⟨rfl, ⟨hok.oi, by omega, hbd.step (by omega) hok, (nU (by omega)).trans hhd, jY.trans hfl2⟩⟩, rfl⟩ (he := by (simp only [jY]; rfl)) (hk := by exact cI.of ⟨.inl rfl, .inl rfl, .inl rfl, .inl rfl, .inr oI, .inr (fR.get t24), .inl rfl, .inl rfl, .inr (bE.refs (CY _) _), .inl rfl, trivial⟩)⟩
  try simp only [e11]
  have qe11 := fact e11
  refine c3z ?_
  have hsN : s = fs.length := by omega
  change c8 ..
  refine .c7 [2, 3] ?_
  refine c62z ?_
  exact ⟨_, _, rfl, (by show fO 3 _ 6 (.agg [.vec gs.length (o7 gs), .vec ms.length (j6 ms), .own 8 gF 0 fs2.length]) = _; simp only [aL, s4, aM, l9, List.length_cons, List.length_nil, Nat.reduceAdd, show ¬ 8 < 3 from by decide, if_false]; rw [gV (e := 104) (K := 3) (g := gF) (zs := n4 fs2) (zs' := n4 fs2) (by rw [fC (by intro h0; have := congrArg List.length h0; rw [bF] at this; simp at this; omega)]; rfl) (by decide) (by rw [bF]; omega) (by omega) (bE.frz (CY _) _ _ _)]; rfl), ⟨⟨gs, ms, fs2⟩, prog_ok hgs hgl2 hms ⟨by omega, by omega⟩ hfs2 ⟨by omega, by omega⟩ (by rw [hfl2, ← hsN]; exact hbd), rfl⟩⟩
end Go.Proofs.Ytbmaijdkebjnhaa
end
