/- My own texts, put together by a program of mine. -/
import Derived.Test.YtapdldekgbbomaaGreatMQ12
set_option linter.unusedSimpArgs false
set_option linter.unusedVariables false
set_option maxRecDepth 100000
set_option maxHeartbeats 4000000
section
namespace Go.Proofs.YtapdldekgbbomaaGreat
open Go.Ab
set_option maxRecDepth 1000000
def mA10 : List AV := [.agg [.vec 0 [], .vec 1 [.str ⟨#[97]⟩, .bool false, .int .i64 0], .vec 2 [.str ⟨#[109, 97, 105, 110]⟩, .int .i64 0, .int .i64 0, .int .i64 0, .vec 3 [.int .i64 4, .int .i64 0, .bool false, .int .i64 0, .int .i64 0, .str ⟨#[]⟩, .vec 0 [], .bool false, .int .i64 0, .vec 0 [], .vec 0 [], .vec 0 [], .int .i64 2, .int .i64 1, .bool false, .int .i64 0, .int .i64 0, .str ⟨#[]⟩, .vec 0 [], .bool false, .int .i64 0, .vec 0 [], .vec 0 [], .vec 0 [], .int .i64 8, .int .i64 0, .bool false, .int .i64 0, .int .i64 0, .str ⟨#[]⟩, .vec 0 [], .bool false, .int .i64 0, .vec 0 [], .vec 0 [], .vec 0 []], .str ⟨#[102]⟩, .int .i64 0, .int .i64 0, .int .i64 0, .vec 2 [.int .i64 8, .int .i64 0, .bool false, .int .i64 0, .int .i64 0, .str ⟨#[]⟩, .vec 0 [], .bool false, .int .i64 0, .vec 0 [], .vec 0 [], .vec 0 [], .int .i64 8, .int .i64 0, .bool false, .int .i64 0, .int .i64 0, .str ⟨#[]⟩, .vec 0 [], .bool false, .int .i64 0, .vec 0 [], .vec 0 [], .vec 0 []]], .int .i64 0], .agg [.vec 2 [.int .i64 0, .vec 0 [], .int .i64 1, .vec 0 []], .vec 2 [.vec 3 [.int .i64 (-1), .int .i64 1, .int .i64 (-1)], .vec 2 [.int .i64 (-1), .int .i64 (-1)]], .vec 1 [.int .i64 0]], .int .i64 0, .int .i64 4, .int .i64 100]
def mH10 : c7 := [⟨1, true, 0, 0, [], 0⟩, ⟨0, false, 27, 3, [.vec 0 [], .vec 1 [.str ⟨#[97]⟩, .bool false, .int .i64 0], .vec 2 [.str ⟨#[109, 97, 105, 110]⟩, .vec 0 [], .vec 2 [.int .i64 5, .str ⟨#[]⟩, .int .i64 0, .int .i64 0, .str ⟨#[]⟩, .vec 0 [], .str ⟨#[97]⟩, .vec 0 [], .vec 0 [], .vec 0 [], .vec 0 [], .int .i64 3, .str ⟨#[102]⟩, .int .i64 0, .int .i64 0, .str ⟨#[]⟩, .vec 0 [], .str ⟨#[]⟩, .vec 0 [], .vec 0 [], .vec 0 [], .vec 0 []], .str ⟨#[102]⟩, .vec 0 [], .vec 1 [.int .i64 9, .str ⟨#[]⟩, .int .i64 0, .int .i64 0, .str ⟨#[]⟩, .vec 0 [], .str ⟨#[]⟩, .vec 0 [], .vec 0 [], .vec 0 [], .vec 0 []]]], 0⟩, ⟨0, false, 30, 4, [.vec 0 [], .vec 1 [.str ⟨#[97]⟩, .bool false, .int .i64 0], .vec 2 [.str ⟨#[109, 97, 105, 110]⟩, .int .i64 0, .int .i64 0, .int .i64 0, .vec 3 [.int .i64 4, .int .i64 0, .bool false, .int .i64 0, .int .i64 0, .str ⟨#[]⟩, .vec 0 [], .bool false, .int .i64 0, .vec 0 [], .vec 0 [], .vec 0 [], .int .i64 2, .int .i64 1, .bool false, .int .i64 0, .int .i64 0, .str ⟨#[]⟩, .vec 0 [], .bool false, .int .i64 0, .vec 0 [], .vec 0 [], .vec 0 [], .int .i64 8, .int .i64 0, .bool false, .int .i64 0, .int .i64 0, .str ⟨#[]⟩, .vec 0 [], .bool false, .int .i64 0, .vec 0 [], .vec 0 [], .vec 0 []], .str ⟨#[102]⟩, .int .i64 0, .int .i64 0, .int .i64 0, .vec 2 [.int .i64 8, .int .i64 0, .bool false, .int .i64 0, .int .i64 0, .str ⟨#[]⟩, .vec 0 [], .bool false, .int .i64 0, .vec 0 [], .vec 0 [], .vec 0 [], .int .i64 8, .int .i64 0, .bool false, .int .i64 0, .int .i64 0, .str ⟨#[]⟩, .vec 0 [], .bool false, .int .i64 0, .vec 0 [], .vec 0 [], .vec 0 []]], .int .i64 0], 0⟩, ⟨0, false, 34, 3, [.vec 2 [.int .i64 0, .vec 0 [], .int .i64 1, .vec 0 []], .vec 2 [.vec 3 [.int .i64 (-1), .int .i64 1, .int .i64 (-1)], .vec 2 [.int .i64 (-1), .int .i64 (-1)]], .vec 1 [.int .i64 0]], 0⟩]
def mX10 : AV := .vec 5 [.int .i64 0, .vec 1 [.int .i64 0, .int .i64 0], .int .i64 1, .vec 1 [.int .i64 0, .int .i64 1], .int .i64 1, .vec 2 [.int .i64 0, .int .i64 2, .int .i64 1, .int .i64 0], .int .i64 1, .vec 1 [.int .i64 0, .int .i64 2], .int .i64 1, .vec 0 []]
def mK10 : c7 := [⟨1, true, 0, 0, [], 0⟩, ⟨0, false, 27, 3, [.vec 0 [], .vec 1 [.str ⟨#[97]⟩, .bool false, .int .i64 0], .vec 2 [.str ⟨#[109, 97, 105, 110]⟩, .vec 0 [], .vec 2 [.int .i64 5, .str ⟨#[]⟩, .int .i64 0, .int .i64 0, .str ⟨#[]⟩, .vec 0 [], .str ⟨#[97]⟩, .vec 0 [], .vec 0 [], .vec 0 [], .vec 0 [], .int .i64 3, .str ⟨#[102]⟩, .int .i64 0, .int .i64 0, .str ⟨#[]⟩, .vec 0 [], .str ⟨#[]⟩, .vec 0 [], .vec 0 [], .vec 0 [], .vec 0 []], .str ⟨#[102]⟩, .vec 0 [], .vec 1 [.int .i64 9, .str ⟨#[]⟩, .int .i64 0, .int .i64 0, .str ⟨#[]⟩, .vec 0 [], .str ⟨#[]⟩, .vec 0 [], .vec 0 [], .vec 0 [], .vec 0 []]]], 0⟩, ⟨0, false, 30, 4, [.vec 0 [], .vec 1 [.str ⟨#[97]⟩, .bool false, .int .i64 0], .vec 2 [.str ⟨#[109, 97, 105, 110]⟩, .int .i64 0, .int .i64 0, .int .i64 0, .vec 3 [.int .i64 4, .int .i64 0, .bool false, .int .i64 0, .int .i64 0, .str ⟨#[]⟩, .vec 0 [], .bool false, .int .i64 0, .vec 0 [], .vec 0 [], .vec 0 [], .int .i64 2, .int .i64 1, .bool false, .int .i64 0, .int .i64 0, .str ⟨#[]⟩, .vec 0 [], .bool false, .int .i64 0, .vec 0 [], .vec 0 [], .vec 0 [], .int .i64 8, .int .i64 0, .bool false, .int .i64 0, .int .i64 0, .str ⟨#[]⟩, .vec 0 [], .bool false, .int .i64 0, .vec 0 [], .vec 0 [], .vec 0 []], .str ⟨#[102]⟩, .int .i64 0, .int .i64 0, .int .i64 0, .vec 2 [.int .i64 8, .int .i64 0, .bool false, .int .i64 0, .int .i64 0, .str ⟨#[]⟩, .vec 0 [], .bool false, .int .i64 0, .vec 0 [], .vec 0 [], .vec 0 [], .int .i64 8, .int .i64 0, .bool false, .int .i64 0, .int .i64 0, .str ⟨#[]⟩, .vec 0 [], .bool false, .int .i64 0, .vec 0 [], .vec 0 [], .vec 0 []]], .int .i64 0], 0⟩, ⟨0, false, 34, 3, [.vec 2 [.int .i64 0, .vec 0 [], .int .i64 1, .vec 0 []], .vec 2 [.vec 3 [.int .i64 (-1), .int .i64 1, .int .i64 (-1)], .vec 2 [.int .i64 (-1), .int .i64 (-1)]], .vec 1 [.int .i64 0]], 0⟩]
theorem m10 : G4 cfg dP (nD UE kC) 11 mA10 mH10 = some (mX10, mK10) := by kernel_rfl
def NU : xE := (11, mA10, mH10, mX10, mK10) :: UE
theorem EP : fJ Tryz.prog cfg NU := dE (fR u0 aC (dJ O2 cM)) m10 O2
theorem LL : G4 cfg dP (nD NU kC) 13 [] [] = some (.bool true, []) := by kernel_rfl
theorem xC (h : c7) : CallA Tryz.prog cfg 13 [] h fun y h' => y = .bool true ∧ h' = h := CallA.frame0 rfl (fR u0 aC (dJ EP cM) _ _ _ _ _ LL) h
end Go.Proofs.YtapdldekgbbomaaGreat
end
section
namespace Go.Proofs.YtapdldekgbbomaaGreat
open Go.Ab Go.Un
theorem T4 {u : Un} {c : Clo} {mx : Nat} {x : Cf} (h : x.st.length = 0) : (eL u c mx x).length = 0 := by
  obtain ⟨d, st⟩ := x
  obtain rfl : st = [] := List.length_eq_zero_iff.1 h
  rfl
theorem lW (x : Int) {n : Nat} (h0 : 0 < n) : ∃ k : Nat, k < n ∧ within x n = (k : Int) := by
  have h1 := @yR x n (by omega)
  have h2 := @yS x n (by omega)
  exact ⟨(within x n).toNat, by omega, by omega⟩
variable {h : c7}
theorem ER {x : Int} {n k : Nat} (hk : within x n = (k : Int)) (h0 : 0 < n) (h1 : n < 1000000) : CB 9 [.int .i64 x, .int .i64 ((n : Nat) : Int)] h (.int .i64 ((k : Nat) : Int)) := by
  rw [← hk]
  exact vY x n (by omega) (by omega)
theorem LM (a : List Cf) (hl : a.length < 1000000) (hs : ∀ x ∈ a, x.st.length < 1000000) : CB 10 [.vec a.length (o2 a), .vec a.length (o2 a)] h (.bool true) := by
  have := KX (h := h) a a hl hs
  rw [decide_eq_true rfl] at this
  exact this
theorem LN (r : Int) : CB 15 [.agg [.int .i64 0, .vec 1 [.int .i64 r, .int .i64 0]], .agg [.int .i64 0, .vec 1 [.int .i64 r, .int .i64 0]]] h (.bool true) := by
  have := EA (h := h) (x := ⟨0, [(r, 0)]⟩) (y := ⟨0, [(r, 0)]⟩) (by simp)
  rw [decide_eq_true rfl] at this
  exact this
theorem LO {b : List (Int × Int)} {p : Int × Int} {j : Nat} (h : j < b.length) : List.take 2 (List.drop (j * 2) (g8 (b ++ [p]))) = [.int .i64 (b.getD j (0, 0)).1, .int .i64 (b.getD j (0, 0)).2] := by
  rw [lD t56]
  simp [List.getD, List.getElem?_append_left h]
theorem LP {l : List Cf} {i : Nat} (h : i < l.length) : List.take 1 (List.drop (i * 2) (o2 l)) = [.int .i64 (l.getD i pW).d] := C8 wU 2 0 (fun _ => rfl) (by omega) pW h
theorem LQ {l : List Cf} {i : Nat} (h : i < l.length) : List.take 1 (List.drop (i * 2 + 1) (o2 l)) = [.vec (l.getD i pW).st.length (g8 (l.getD i pW).st)] := C8 wU 2 1 (fun _ => rfl) (by omega) pW h
attribute [local go_sem] rd q9 bL lD pC UN Int.natCast_nonneg Int.natCast_inj Int.toNat_natCast_add_one kV wrap64 pU max2 FA n5 kA Option.bind_eq_bind aO cR aE r9 jT jU gV qX oB qY E1 List.length_take LO LP LQ Nat.add_sub_cancel
theorem xD {u : Un} (hu : WU u) (m : Int) : CB 8 [.agg [.vec u.globals.length (j9 u.globals), .vec u.c4.length (g9 u.c4), .vec u.procs.length (n7 u.procs), .int .i64 u.main], .int .i64 m] h (.int .i64 (within m u.c4.length)) := by
  refine .bz Tryz.f8 10 ?_
  have hml := hu.ml
  refine .z ?_
  refine c24z ?_
  refine .ca rfl rfl (vY _ _ (by omega) (by omega)) ?_
  refine .n ?_
  exact .ret (.ex (hq := by rfl))
theorem c_lawSteps (L : List Int) (hL : L.length < 4611686018427387904) (m : Int) (way : List Int) (hway : way.length < 4611686018427387904) (root : Int) : CB 4 [.vec L.length (j9 L), .int .i64 m, .vec way.length (j9 way), .int .i64 root] [] (.bool true) := by
  refine .bz Tryz.f4 59 ?_
  refine c127z ?_
  refine n4.cx rfl rfl hb7 (DV L hL) (fun y1 h1 hq1 => ?_)
  obtain ⟨⟨p, u, c, gp, hu, wc, rfl⟩, rfl⟩ := hq1
  have hml := hu.ml
  have hwl := wc.len
  have hrl := wc.rl
  have hrc := oE wc
  simp only [Q2]
  refine c39z ?_
  refine .c8 [1, 2, 3, 10, 11] ?_
  refine c38z ?_
  refine .ca rfl rfl (xD hu m) ?_
  refine .n ?_
  obtain ⟨mx, hmx, hme⟩ := lW m (n := u.c4.length) (by omega)
  simp only [hme]
  obtain ⟨r, hr, hre⟩ := lW root (n := c.roots.length) (by omega)
  refine .ss u0 (mkP 10 [0, 1, 0, 0, 8, 24, 60, 127, 255, 511] []) ?_
  refine .k 6 [] ?_
  refine .ca rfl rfl (ER hre (by omega) (by omega)) ?_
  refine .n [] ?_
  refine .c8 [1, 2, 10, 11, 12] ?_
  refine c24z ?_
  refine n4.cx rfl rfl hb14 (xB hu wc hmx way hway) (fun y1 h1 hq1 => ?_)
  obtain ⟨⟨x, hw, rfl⟩, rfl⟩ := hq1
  refine .n ?_
  refine .ss u0 (mkP 23 [0, 0, 3, 0, 15, 31, 63, 127, 127, 127, 127, 2047, 127, 127, 127, 127, 65535, 131071, 262143, 524287, 1048575, 2097151, 4194303] []) ?_
  refine .k 2 [] ?_
  refine .ca rfl rfl (c_begM _) ?_
  refine .k 1 [] ?_
  refine .ca rfl rfl (NO _) ?_
  refine .ca rfl rfl (LN _) ?_
  refine .k 5 [(6, 43)] ?_
  refine .ca rfl rfl (xA hu wc hmx (by omega) hw) ?_
  refine .k 4 [(6, 43)] ?_
  refine .ca rfl rfl (zS hu wc hmx (by omega) hw) ?_
  refine .ca rfl rfl (LM _ (by have := uC (u := u) (c := c) (m := mx) (x := x); omega) (fun y hy => by have := (zM hu wc hw y hy).len; omega)) ?_
  refine .k 2 [] ?_
  refine .ca rfl rfl (xC _) ?_
  refine .n [] ?_
  exact .ret (.ex (hq := by rfl))
theorem c_lawBlocked (L : List Int) (hL : L.length < 4611686018427387904) (m : Int) (way : List Int) (hway : way.length < 4611686018427387904) : CB 6 [.vec L.length (j9 L), .int .i64 m, .vec way.length (j9 way)] [] (.bool true) := by
  refine .bz Tryz.f6 85 ?_
  refine c127z ?_
  refine n4.cx rfl rfl hb7 (DV L hL) (fun y1 h1 hq1 => ?_)
  obtain ⟨⟨p, u, c, gp, hu, wc, rfl⟩, rfl⟩ := hq1
  have hml := hu.ml
  have hwl := wc.len
  have hrl := wc.rl
  have hrc := oE wc
  simp only [Q2]
  refine c39z ?_
  refine .c8 [1, 2, 8, 9] ?_
  refine c38z ?_
  refine .ca rfl rfl (xD hu m) ?_
  refine .n ?_
  obtain ⟨mx, hmx, hme⟩ := lW m (n := u.c4.length) (by omega)
  simp only [hme]
  refine c24z ?_
  refine n4.cx rfl rfl hb14 (xB hu wc hmx way hway) (fun y1 h1 hq1 => ?_)
  obtain ⟨⟨x, hw, rfl⟩, rfl⟩ := hq1
  refine .n ?_
  refine .c8 [1, 8, 9, 10] ?_
  refine c13z ?_
  refine c20z ?_
  refine .spl 33 rfl rfl (fun e1 => ?_) (fun e1 => ?_)
  ·try simp only [e1]
   have qe1 := fact e1
   refine .m [(2, 33)] ?_
   refine .T ?_
   refine .c8 [] ?_
   refine .s ?_
   refine c132z ?_
   exact .ret (.ex (hq := by rfl))
  try simp only [e1]
  have qe1 := fact e1
  refine .k 4 [(2, 33)] ?_
  refine .ca rfl rfl (xA hu wc hmx (by omega) hw) ?_
  refine .m [(2, 33)] ?_
  refine u2z ?_ ?_
  ·intro e2 qe2
   refine .c8 [] ?_
   refine .s ?_
   refine c132z ?_
   exact .ret (.ex (hq := by rfl))
  intro e2 qe2
  refine .sk ?_
  refine .c8 [1, 8, 9, 10, 11] ?_
  obtain ⟨d, i, pc, b, rfl, hd, hi, hpc, hb⟩ := wZ hw (by omega)
  simp only [gX, List.length_append, List.length_cons, List.length_nil, Nat.zero_add] at *
  have w : WIt u (c.insts.getD i c6) := wc.wi _ (j8 hi)
  have w1 := w.lo
  have w2 := w.hi
  have hsz : (c9 u (c.insts.getD i c6)).length ≤ 1664 := s4 hu w
  have hwl := wc.len
  have hwc := wc.cl
  have hwr := wc.cll i hi
  have hml := hu.ml
  have hcp := eE (m := (u.c4.getD mx s8))
  have hT : (z1 u c mx (d : Int) b ((i : Int), (pc : Int))) = [] := List.length_eq_zero_iff.1 (by omega)
  have hno := (zO (by omega) (by omega) hT).1
  have hno2 : chI (c.insts.getD i c6) ((c9 u (c.insts.getD i c6)).getD pc g5) (mx : Int) = 1 ∧ (d : Int) = (fC (u.c4.getD mx s8) : Int) ∨ chI (c.insts.getD i c6) ((c9 u (c.insts.getD i c6)).getD pc g5) (mx : Int) = -1 ∧ (d : Int) = 0 := hno
  refine .z ?_
  refine .ss u0 (mkP 12 [0, 0, 2, 0, 8, 30, 62, 0, 128, 0, 1023, 2047] []) ?_
  refine .k 8 [] ?_
  refine .k 2 [] ?_
  refine c234z ?_
  refine .c8 [1, 8, 10, 13] ?_
  refine .ss u0 (mkP 26 [0, 1, 3, 7, 15, 7, 39, 7, 231, 487, 999, 2047, 4095, 8191, 16383, 32767, 65535, 131071, 262143, 524287, 1048575, 2097151, 4194303, 8388607, 16777215, 33554431] []) ?_
  refine .k 3 [] ?_
  refine .spl 62 rfl rfl (fun e3 => ?_) (fun e3 => ?_)
  ·try simp only [e3]
   have qe3 := fact e3
   refine .k 7 [(2, 62)] ?_
   refine .ca rfl rfl (DC (u.c4.getD mx s8)) ?_
   refine .k 3 [(2, 62)] ?_
   refine .spl 73 rfl rfl (fun e4 => ?_) (fun e4 => by exfalso; have q := fact e4; omega)
   try simp only [e4]
   have qe4 := fact e4
   refine .k 8 [(13, 73), (16, 76)] ?_
   refine .k 1 [] ?_
   refine .ca rfl rfl (xC _) ?_
   refine .n [] ?_
   exact .ret (.ex (hq := by rfl))
  try simp only [e3]
  have qe3 := fact e3
  refine .k 8 [(2, 62)] ?_
  refine .k 6 [(2, 62), (13, 73)] ?_
  refine .spl 76 rfl rfl (fun e5 => ?_) (fun e5 => by exfalso; have q := fact e5; omega)
  try simp only [e5]
  have qe5 := fact e5
  refine .k 6 [(13, 73), (16, 76)] ?_
  refine .spl 82 rfl rfl (fun e6 => ?_) (fun e6 => by exfalso; have q := fact e6; omega)
  try simp only [e6]
  have qe6 := fact e6
  refine .ca rfl rfl (xC _) ?_
  refine .n [] ?_
  exact .ret (.ex (hq := by rfl))
theorem c_lawMatched (L : List Int) (hL : L.length < 4611686018427387904) (m : Int) (way : List Int) (hway : way.length < 4611686018427387904) : CB 5 [.vec L.length (j9 L), .int .i64 m, .vec way.length (j9 way)] [] (.bool true) := by
  refine .bz Tryz.f5 155 ?_
  refine c127z ?_
  refine n4.cx rfl rfl hb7 (DV L hL) (fun y1 h1 hq1 => ?_)
  obtain ⟨⟨p, u, c, gp, hu, wc, rfl⟩, rfl⟩ := hq1
  have hml := hu.ml
  have hwl := wc.len
  have hrl := wc.rl
  have hrc := oE wc
  simp only [Q2]
  refine c39z ?_
  refine .c8 [1, 2, 8, 9] ?_
  refine c38z ?_
  refine .ca rfl rfl (xD hu m) ?_
  refine .n ?_
  obtain ⟨mx, hmx, hme⟩ := lW m (n := u.c4.length) (by omega)
  simp only [hme]
  refine c24z ?_
  refine n4.cx rfl rfl hb14 (xB hu wc hmx way hway) (fun y1 h1 hq1 => ?_)
  obtain ⟨⟨x, hw, rfl⟩, rfl⟩ := hq1
  refine .n ?_
  refine .c8 [1, 8, 9, 10] ?_
  refine c24z ?_
  refine .ca rfl rfl (xA hu wc hmx (by omega) hw) ?_
  refine .n ?_
  refine c13z ?_
  refine .c8 [8, 9, 10, 11, 12] ?_
  refine .z ?_
  refine u2z ?_ ?_
  ·intro e1 qe1
   have hT0 : (eL u c mx x).length = 0 := T4 (by omega)
   refine c24z ?_
   refine .spl 46 rfl rfl (fun e2 => ?_) (fun e2 => by exfalso; have q := fact e2; omega)
   try simp only [e2]
   have qe2 := fact e2
   refine c132z ?_
   exact .ret (.ex (hq := by rfl))
  intro e1 qe1
  refine .sk ?_
  obtain ⟨d, i, pc, b, rfl, hd, hi, hpc, hb⟩ := wZ hw (by omega)
  simp only [gX, List.length_append, List.length_cons, List.length_nil, Nat.zero_add] at *
  have w : WIt u (c.insts.getD i c6) := wc.wi _ (j8 hi)
  have w1 := w.lo
  have w2 := w.hi
  have hsz : (c9 u (c.insts.getD i c6)).length ≤ 1664 := s4 hu w
  have hwl := wc.len
  have hwc := wc.cl
  have hwr := wc.cll i hi
  have hml := hu.ml
  have hcp := eE (m := (u.c4.getD mx s8))
  refine .z ?_
  refine .c8 [8, 9, 10, 11, 12, 13] ?_
  refine .ss u0 (mkP 18 [0, 1, 0, 4, 0, 16, 60, 124, 252, 511, 1023, 2047, 0, 4096, 16383, 32767, 65535, 131071] []) ?_
  refine .k 8 [] ?_
  refine c42z ?_
  refine .seq ?_
  refine .c8 [10, 11, 12, 14] ?_
  refine c25z ?_
  refine .gC (fun m st => ∃ (t : Nat), (m = (z1 u c mx (d : Int) b ((i : Int), (pc : Int))).length - t ∧ (t ≤ (z1 u c mx (d : Int) b ((i : Int), (pc : Int))).length)) ∧ st = ⟨mkS 155 [(10, AV.ptr 3 0 0), (11, AV.vec (z1 u c mx (d : Int) b ((i : Int), (pc : Int))).length (o2 (z1 u c mx (d : Int) b ((i : Int), (pc : Int))))), (12, AV.int .i64 ((b.length : Int) + 1)), (14, AV.int .i64 ((c9 u (c.insts.getD i c6)).getD pc g5).op), (15, AV.int .i64 ((t : Nat) : Int))], [⟨0, false, 27, 3, [.vec p.globals.length (o9 p.globals), .vec p.c4.length (g9 p.c4), .vec p.funcs.length (n9 p.funcs)], 0⟩, ⟨0, false, 30, 4, [.vec u.globals.length (j9 u.globals), .vec u.c4.length (g9 u.c4), .vec u.procs.length (n7 u.procs), .int .i64 u.main], 0⟩, ⟨0, false, 34, 3, [.vec c.insts.length (p4 c.insts), .vec c.calls.length (s3 c.calls), .vec c.roots.length (j9 c.roots)], 0⟩, ⟨0, false, 46, 2, [.int .i64 ((d : Nat) : Int), .vec (b.length + 1) (g8 (b ++ [((i : Int), (pc : Int))]))], 0⟩, ⟨0, false, 54, 2, [.int .i64 ((i : Nat) : Int), .int .i64 ((pc : Nat) : Int)], 0⟩]⟩) _ (.v ⟨0, ⟨rfl, by omega⟩, rfl⟩) ?_
  rintro m sl h' ⟨t, ⟨hm, ht⟩, hst⟩
  obtain ⟨rfl, rfl⟩ := St.mk.inj hst
  have hT2 := zN (u := u) (c := c) (m := mx) (d := (d : Int)) (b := b) (p := ((i : Int), (pc : Int)))
  refine c0z ?_
  refine u2z ?_ ?_
  ·intro e3 qe3
   refine c5z ?_
   refine c58z ?_
   refine u2z ?_ ?_
   ·intro e4 qe4
    refine .c8 [10, 11, 12, 14, 15] ?_
    refine c225z ?_
    obtain ⟨q1, q2, q3, q4⟩ := mP ((z1 u c mx (d : Int) b ((i : Int), (pc : Int))).getD t pW) (j8 (by omega))
    have q5 : ((z1 u c mx (d : Int) b ((i : Int), (pc : Int))).getD t pW).st.length = _ := q1.trans (if_pos (show ((c9 u (c.insts.getD i c6)).getD pc g5).op = 2 from by omega))
    have q6 : ((z1 u c mx (d : Int) b ((i : Int), (pc : Int))).getD t pW).d - (d : Int) ≠ 0 → ((c9 u (c.insts.getD i c6)).getD pc g5).op = 4 ∨ ((c9 u (c.insts.getD i c6)).getD pc g5).op = 5 := q4
    refine c93z ?_
    intro e5 qe5
    refine c260z ?_
    refine .z ?_
    refine c1z ?_
    rintro m sl h' ⟨j, ⟨hm, hj⟩, hst⟩
    obtain ⟨rfl, rfl⟩ := St.mk.inj hst
    refine c0z ?_
    refine u2z ?_ ?_
    ·intro e6 qe6
     refine c5z ?_
     have q7 := q2 j (by omega)
     refine c126z ?_
     refine .spl 114 rfl rfl (fun e7 => by exfalso; have q := fact e7; simp_all) (fun e7 => ?_)
     try simp only [e7]
     have qe7 := fact e7
     refine c253z ?_
     refine .rz ?_
     exact ⟨_, by omega, .v ⟨(j + 1), ⟨rfl, by omega⟩, rfl⟩⟩
    intro e6 qe6
    refine c8z ?_
    refine c249z ?_
    refine c20z ?_
    refine .spl 125 rfl rfl (fun e8 => by exfalso; have q := fact e8; omega) (fun e8 => ?_)
    try simp only [e8]
    have qe8 := fact e8
    refine .k 4 [(2, 125)] ?_
    refine .spl 129 rfl rfl (fun e9 => by exfalso; have q := fact e9; omega) (fun e9 => ?_)
    try simp only [e9]
    have qe9 := fact e9
    refine .k 3 [(6, 129)] ?_
    refine .spl 132 rfl rfl (fun e10 => ?_) (fun e10 => ?_)
    ·try simp only [e10]
     have qe10 := fact e10
     refine .k 4 [(6, 129), (9, 132)] ?_
     refine .spl 136 rfl rfl (fun e11 => ?_) (fun e11 => ?_)
     ·try simp only [e11]
      have qe11 := fact e11
      refine .m [(6, 129), (13, 136)] ?_
      refine uFbz ?_
      intro e12 qe12
      refine c3z ?_
      refine c68z ?_
      exact ⟨_, by omega, .v ⟨(t + 1), ⟨rfl, by omega⟩, rfl⟩⟩
     try simp only [e11]
     have qe11 := fact e11
     refine .m [(6, 129), (13, 136)] ?_
     refine c31z ?_
     refine c68z ?_
     exact ⟨_, by omega, .v ⟨(t + 1), ⟨rfl, by omega⟩, rfl⟩⟩
    try simp only [e10]
    have qe10 := fact e10
    refine c239z ?_
    refine c68z ?_
    exact ⟨_, by omega, .v ⟨(t + 1), ⟨rfl, by omega⟩, rfl⟩⟩
   intro e4 qe4
   refine .z ?_
   refine u2z ?_ ?_
   ·intro e13 qe13
    refine .c8 [10, 11, 12, 14, 15] ?_
    refine c225z ?_
    obtain ⟨q1, q2, q3, q4⟩ := mP ((z1 u c mx (d : Int) b ((i : Int), (pc : Int))).getD t pW) (j8 (by omega))
    have q5 : ((z1 u c mx (d : Int) b ((i : Int), (pc : Int))).getD t pW).st.length = _ := q1.trans ((if_neg (show ¬ ((c9 u (c.insts.getD i c6)).getD pc g5).op = 2 from by omega)).trans (if_pos (show ((c9 u (c.insts.getD i c6)).getD pc g5).op = 8 from by omega)))
    have q6 : ((z1 u c mx (d : Int) b ((i : Int), (pc : Int))).getD t pW).d - (d : Int) ≠ 0 → ((c9 u (c.insts.getD i c6)).getD pc g5).op = 4 ∨ ((c9 u (c.insts.getD i c6)).getD pc g5).op = 5 := q4
    refine c93z ?_
    intro e14 qe14
    refine c260z ?_
    refine .z ?_
    refine c1z ?_
    rintro m sl h' ⟨j, ⟨hm, hj⟩, hst⟩
    obtain ⟨rfl, rfl⟩ := St.mk.inj hst
    refine c0z ?_
    refine u2z ?_ ?_
    ·intro e15 qe15
     refine c5z ?_
     have q7 := q2 j (by omega)
     refine c126z ?_
     refine .spl 114 rfl rfl (fun e16 => by exfalso; have q := fact e16; simp_all) (fun e16 => ?_)
     try simp only [e16]
     have qe16 := fact e16
     refine c253z ?_
     refine .rz ?_
     exact ⟨_, by omega, .v ⟨(j + 1), ⟨rfl, by omega⟩, rfl⟩⟩
    intro e15 qe15
    refine c8z ?_
    refine c249z ?_
    refine c20z ?_
    refine .spl 125 rfl rfl (fun e17 => by exfalso; have q := fact e17; omega) (fun e17 => ?_)
    try simp only [e17]
    have qe17 := fact e17
    refine .k 4 [(2, 125)] ?_
    refine .spl 129 rfl rfl (fun e18 => by exfalso; have q := fact e18; omega) (fun e18 => ?_)
    try simp only [e18]
    have qe18 := fact e18
    refine .k 3 [(6, 129)] ?_
    refine .spl 132 rfl rfl (fun e19 => ?_) (fun e19 => ?_)
    ·try simp only [e19]
     have qe19 := fact e19
     refine .k 4 [(6, 129), (9, 132)] ?_
     refine .spl 136 rfl rfl (fun e20 => ?_) (fun e20 => ?_)
     ·try simp only [e20]
      have qe20 := fact e20
      refine .m [(6, 129), (13, 136)] ?_
      refine uFbz ?_
      intro e21 qe21
      refine c3z ?_
      refine c68z ?_
      exact ⟨_, by omega, .v ⟨(t + 1), ⟨rfl, by omega⟩, rfl⟩⟩
     try simp only [e20]
     have qe20 := fact e20
     refine .m [(6, 129), (13, 136)] ?_
     refine c31z ?_
     refine c68z ?_
     exact ⟨_, by omega, .v ⟨(t + 1), ⟨rfl, by omega⟩, rfl⟩⟩
    try simp only [e19]
    have qe19 := fact e19
    refine c239z ?_
    refine c68z ?_
    exact ⟨_, by omega, .v ⟨(t + 1), ⟨rfl, by omega⟩, rfl⟩⟩
   intro e13 qe13
   refine c119z ?_
   refine .c8 [10, 11, 12, 14, 15, 16] ?_
   obtain ⟨q1, q2, q3, q4⟩ := mP ((z1 u c mx (d : Int) b ((i : Int), (pc : Int))).getD t pW) (j8 (by omega))
   have q5 : ((z1 u c mx (d : Int) b ((i : Int), (pc : Int))).getD t pW).st.length = _ := q1.trans ((if_neg (show ¬ ((c9 u (c.insts.getD i c6)).getD pc g5).op = 2 from by omega)).trans (if_neg (show ¬ ((c9 u (c.insts.getD i c6)).getD pc g5).op = 8 from by omega)))
   have q6 : ((z1 u c mx (d : Int) b ((i : Int), (pc : Int))).getD t pW).d - (d : Int) ≠ 0 → ((c9 u (c.insts.getD i c6)).getD pc g5).op = 4 ∨ ((c9 u (c.insts.getD i c6)).getD pc g5).op = 5 := q4
   refine c93z ?_
   intro e22 qe22
   refine c260z ?_
   refine .z ?_
   refine c1z ?_
   rintro m sl h' ⟨j, ⟨hm, hj⟩, hst⟩
   obtain ⟨rfl, rfl⟩ := St.mk.inj hst
   refine c0z ?_
   refine u2z ?_ ?_
   ·intro e23 qe23
    refine c5z ?_
    have q7 := q2 j (by omega)
    refine c126z ?_
    refine .spl 114 rfl rfl (fun e24 => by exfalso; have q := fact e24; simp_all) (fun e24 => ?_)
    try simp only [e24]
    have qe24 := fact e24
    refine c253z ?_
    refine .rz ?_
    exact ⟨_, by omega, .v ⟨(j + 1), ⟨rfl, by omega⟩, rfl⟩⟩
   intro e23 qe23
   refine c8z ?_
   refine c249z ?_
   refine c20z ?_
   refine .spl 125 rfl rfl (fun e25 => by exfalso; have q := fact e25; omega) (fun e25 => ?_)
   try simp only [e25]
   have qe25 := fact e25
   refine .k 4 [(2, 125)] ?_
   refine .spl 129 rfl rfl (fun e26 => by exfalso; have q := fact e26; omega) (fun e26 => ?_)
   try simp only [e26]
   have qe26 := fact e26
   refine .k 3 [(6, 129)] ?_
   refine .spl 132 rfl rfl (fun e27 => ?_) (fun e27 => ?_)
   ·try simp only [e27]
    have qe27 := fact e27
    refine .k 4 [(6, 129), (9, 132)] ?_
    refine .spl 136 rfl rfl (fun e28 => ?_) (fun e28 => ?_)
    ·try simp only [e28]
     have qe28 := fact e28
     refine .m [(6, 129), (13, 136)] ?_
     refine uFbz ?_
     intro e29 qe29
     refine c3z ?_
     refine c68z ?_
     exact ⟨_, by omega, .v ⟨(t + 1), ⟨rfl, by omega⟩, rfl⟩⟩
    try simp only [e28]
    have qe28 := fact e28
    refine .m [(6, 129), (13, 136)] ?_
    refine c31z ?_
    refine c68z ?_
    exact ⟨_, by omega, .v ⟨(t + 1), ⟨rfl, by omega⟩, rfl⟩⟩
   try simp only [e27]
   have qe27 := fact e27
   refine c239z ?_
   refine c68z ?_
   exact ⟨_, by omega, .v ⟨(t + 1), ⟨rfl, by omega⟩, rfl⟩⟩
  intro e3 qe3
  refine c8z ?_
  have hfin : (z1 u c mx (d : Int) b ((i : Int), (pc : Int))).length = 0 → ((c9 u (c.insts.getD i c6)).getD pc g5).op = 4 ∨ ((c9 u (c.insts.getD i c6)).getD pc g5).op = 5 := fun h0 => (zO (by omega) (by omega) (List.length_eq_zero_iff.1 h0)).2
  refine c24z ?_
  refine .spl 144 rfl rfl (fun e30 => ?_) (fun e30 => ?_)
  ·try simp only [e30]
   have qe30 := fact e30
   refine .k 8 [(3, 144), (7, 148)] ?_
   refine c132z ?_
   exact .ret (.ex (hq := by rfl))
  try simp only [e30]
  have qe30 := fact e30
  refine .k 4 [(3, 144)] ?_
  refine .spl 148 rfl rfl (fun e31 => ?_) (fun e31 => ?_)
  ·try simp only [e31]
   have qe31 := fact e31
   refine .k 4 [(7, 148)] ?_
   refine c132z ?_
   exact .ret (.ex (hq := by rfl))
  try simp only [e31]
  have qe31 := fact e31
  refine .k 4 [(7, 148)] ?_
  refine .spl 152 rfl rfl (fun e32 => ?_) (fun e32 => by exfalso; have q := fact e32; omega)
  try simp only [e32]
  have qe32 := fact e32
  refine c132z ?_
  exact .ret (.ex (hq := by rfl))
end Go.Proofs.YtapdldekgbbomaaGreat
end
