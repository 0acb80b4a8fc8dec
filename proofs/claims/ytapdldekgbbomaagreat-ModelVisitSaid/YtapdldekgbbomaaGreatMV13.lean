/- My own texts, put together by a program of mine. -/
import Derived.Test.YtapdldekgbbomaaGreatMV12
set_option linter.unusedSimpArgs false
set_option linter.unusedVariables false
set_option maxRecDepth 100000
set_option maxHeartbeats 4000000
section
namespace Go.Proofs.YtapdldekgbbomaaGreat
open Go.Ab
set_option maxRecDepth 1000000
def mA10 : List AV := [.agg [.vec 0 [], .vec 1 [.str ⟨#[97]⟩, .bool false, .int .i64 0], .vec 2 [.str ⟨#[109, 97, 105, 110]⟩, .int .i64 0, .int .i64 0, .int .i64 0, .vec 3 [.int .i64 4, .int .i64 0, .bool false, .int .i64 0, .int .i64 0, .str ⟨#[]⟩, .vec 0 [], .bool false, .int .i64 0, .vec 0 [], .vec 0 [], .vec 0 [], .int .i64 2, .int .i64 1, .bool false, .int .i64 0, .int .i64 0, .str ⟨#[]⟩, .vec 0 [], .bool false, .int .i64 0, .vec 0 [], .vec 0 [], .vec 0 [], .int .i64 8, .int .i64 0, .bool false, .int .i64 0, .int .i64 0, .str ⟨#[]⟩, .vec 0 [], .bool false, .int .i64 0, .vec 0 [], .vec 0 [], .vec 0 []], .str ⟨#[102]⟩, .int .i64 0, .int .i64 0, .int .i64 0, .vec 2 [.int .i64 8, .int .i64 0, .bool false, .int .i64 0, .int .i64 0, .str ⟨#[]⟩, .vec 0 [], .bool false, .int .i64 0, .vec 0 [], .vec 0 [], .vec 0 [], .int .i64 8, .int .i64 0, .bool false, .int .i64 0, .int .i64 0, .str ⟨#[]⟩, .vec 0 [], .bool false, .int .i64 0, .vec 0 [], .vec 0 [], .vec 0 []]], .int .i64 0], .agg [.vec 2 [.int .i64 0, .vec 0 [], .int .i64 1, .vec 0 []], .vec 2 [.vec 3 [.int .i64 (-1), .int .i64 1, .int .i64 (-1)], .vec 2 [.int .i64 (-1), .int .i64 (-1)]], .vec 1 [.int .i64 0]], .int .i64 0, .int .i64 4, .int .i64 100]
def mH10 : c6 := [⟨1, true, 0, 0, [], 0⟩, ⟨0, false, 27, 3, [.vec 0 [], .vec 1 [.str ⟨#[97]⟩, .bool false, .int .i64 0], .vec 2 [.str ⟨#[109, 97, 105, 110]⟩, .vec 0 [], .vec 2 [.int .i64 5, .str ⟨#[]⟩, .int .i64 0, .int .i64 0, .str ⟨#[]⟩, .vec 0 [], .str ⟨#[97]⟩, .vec 0 [], .vec 0 [], .vec 0 [], .vec 0 [], .int .i64 3, .str ⟨#[102]⟩, .int .i64 0, .int .i64 0, .str ⟨#[]⟩, .vec 0 [], .str ⟨#[]⟩, .vec 0 [], .vec 0 [], .vec 0 [], .vec 0 []], .str ⟨#[102]⟩, .vec 0 [], .vec 1 [.int .i64 9, .str ⟨#[]⟩, .int .i64 0, .int .i64 0, .str ⟨#[]⟩, .vec 0 [], .str ⟨#[]⟩, .vec 0 [], .vec 0 [], .vec 0 [], .vec 0 []]]], 0⟩, ⟨0, false, 30, 4, [.vec 0 [], .vec 1 [.str ⟨#[97]⟩, .bool false, .int .i64 0], .vec 2 [.str ⟨#[109, 97, 105, 110]⟩, .int .i64 0, .int .i64 0, .int .i64 0, .vec 3 [.int .i64 4, .int .i64 0, .bool false, .int .i64 0, .int .i64 0, .str ⟨#[]⟩, .vec 0 [], .bool false, .int .i64 0, .vec 0 [], .vec 0 [], .vec 0 [], .int .i64 2, .int .i64 1, .bool false, .int .i64 0, .int .i64 0, .str ⟨#[]⟩, .vec 0 [], .bool false, .int .i64 0, .vec 0 [], .vec 0 [], .vec 0 [], .int .i64 8, .int .i64 0, .bool false, .int .i64 0, .int .i64 0, .str ⟨#[]⟩, .vec 0 [], .bool false, .int .i64 0, .vec 0 [], .vec 0 [], .vec 0 []], .str ⟨#[102]⟩, .int .i64 0, .int .i64 0, .int .i64 0, .vec 2 [.int .i64 8, .int .i64 0, .bool false, .int .i64 0, .int .i64 0, .str ⟨#[]⟩, .vec 0 [], .bool false, .int .i64 0, .vec 0 [], .vec 0 [], .vec 0 [], .int .i64 8, .int .i64 0, .bool false, .int .i64 0, .int .i64 0, .str ⟨#[]⟩, .vec 0 [], .bool false, .int .i64 0, .vec 0 [], .vec 0 [], .vec 0 []]], .int .i64 0], 0⟩, ⟨0, false, 34, 3, [.vec 2 [.int .i64 0, .vec 0 [], .int .i64 1, .vec 0 []], .vec 2 [.vec 3 [.int .i64 (-1), .int .i64 1, .int .i64 (-1)], .vec 2 [.int .i64 (-1), .int .i64 (-1)]], .vec 1 [.int .i64 0]], 0⟩]
def mX10 : AV := .vec 5 [.int .i64 0, .vec 1 [.int .i64 0, .int .i64 0], .int .i64 1, .vec 1 [.int .i64 0, .int .i64 1], .int .i64 1, .vec 2 [.int .i64 0, .int .i64 2, .int .i64 1, .int .i64 0], .int .i64 1, .vec 1 [.int .i64 0, .int .i64 2], .int .i64 1, .vec 0 []]
def mK10 : c6 := [⟨1, true, 0, 0, [], 0⟩, ⟨0, false, 27, 3, [.vec 0 [], .vec 1 [.str ⟨#[97]⟩, .bool false, .int .i64 0], .vec 2 [.str ⟨#[109, 97, 105, 110]⟩, .vec 0 [], .vec 2 [.int .i64 5, .str ⟨#[]⟩, .int .i64 0, .int .i64 0, .str ⟨#[]⟩, .vec 0 [], .str ⟨#[97]⟩, .vec 0 [], .vec 0 [], .vec 0 [], .vec 0 [], .int .i64 3, .str ⟨#[102]⟩, .int .i64 0, .int .i64 0, .str ⟨#[]⟩, .vec 0 [], .str ⟨#[]⟩, .vec 0 [], .vec 0 [], .vec 0 [], .vec 0 []], .str ⟨#[102]⟩, .vec 0 [], .vec 1 [.int .i64 9, .str ⟨#[]⟩, .int .i64 0, .int .i64 0, .str ⟨#[]⟩, .vec 0 [], .str ⟨#[]⟩, .vec 0 [], .vec 0 [], .vec 0 [], .vec 0 []]]], 0⟩, ⟨0, false, 30, 4, [.vec 0 [], .vec 1 [.str ⟨#[97]⟩, .bool false, .int .i64 0], .vec 2 [.str ⟨#[109, 97, 105, 110]⟩, .int .i64 0, .int .i64 0, .int .i64 0, .vec 3 [.int .i64 4, .int .i64 0, .bool false, .int .i64 0, .int .i64 0, .str ⟨#[]⟩, .vec 0 [], .bool false, .int .i64 0, .vec 0 [], .vec 0 [], .vec 0 [], .int .i64 2, .int .i64 1, .bool false, .int .i64 0, .int .i64 0, .str ⟨#[]⟩, .vec 0 [], .bool false, .int .i64 0, .vec 0 [], .vec 0 [], .vec 0 [], .int .i64 8, .int .i64 0, .bool false, .int .i64 0, .int .i64 0, .str ⟨#[]⟩, .vec 0 [], .bool false, .int .i64 0, .vec 0 [], .vec 0 [], .vec 0 []], .str ⟨#[102]⟩, .int .i64 0, .int .i64 0, .int .i64 0, .vec 2 [.int .i64 8, .int .i64 0, .bool false, .int .i64 0, .int .i64 0, .str ⟨#[]⟩, .vec 0 [], .bool false, .int .i64 0, .vec 0 [], .vec 0 [], .vec 0 [], .int .i64 8, .int .i64 0, .bool false, .int .i64 0, .int .i64 0, .str ⟨#[]⟩, .vec 0 [], .bool false, .int .i64 0, .vec 0 [], .vec 0 [], .vec 0 []]], .int .i64 0], 0⟩, ⟨0, false, 34, 3, [.vec 2 [.int .i64 0, .vec 0 [], .int .i64 1, .vec 0 []], .vec 2 [.vec 3 [.int .i64 (-1), .int .i64 1, .int .i64 (-1)], .vec 2 [.int .i64 (-1), .int .i64 (-1)]], .vec 1 [.int .i64 0]], 0⟩]
theorem m10 : I6 cfg dV (nN VF kL) 11 mA10 mH10 = some (mX10, mK10) := by kernel_rfl
def OR : xS := (11, mA10, mH10, mX10, mK10) :: VF
theorem FJ : fP Tryz.prog cfg OR := dH (gA u4 aH (dP P9 cR)) m10 P9
theorem ML : I6 cfg dV (nN OR kL) 13 [] [] = some (.bool true, []) := by kernel_rfl
theorem awake13 (h : c6) : CallA Tryz.prog cfg 13 [] h fun y h' => y = .bool true ∧ h' = h := CallA.frame0 rfl (gA u4 aH (dP FJ cR) _ _ _ _ _ ML) h
end Go.Proofs.YtapdldekgbbomaaGreat
end
section
namespace Go.Proofs.YtapdldekgbbomaaGreat
open Go.Ab Go.Un
theorem V2 (x : Int) {n : Nat} (h0 : 0 < n) : ∃ k : Nat, k < n ∧ within x n = (k : Int) := by
 have h1 := @dK x n (by omega)
 have h2 := @dL x n (by omega)
 exact ⟨(within x n).toNat, by omega, by omega⟩
theorem MM {h : c6} (a : List Cf) (hl : a.length < 1000000) (hs : ∀ x ∈ a, x.st.length < 1000000) : CB 10 [.vec a.length (j0 a), .vec a.length (j0 a)] h (.bool true) := by
 have := LV (h := h) a a hl hs
 rw [decide_eq_true rfl] at this
 exact this
attribute [local go_sem] rd p8 aD iY kE LR Int.natCast_nonneg Int.natCast_inj Int.toNat_natCast_add_one iB wrap64 oR max2 V3 n6 iD Option.bind_eq_bind aJ cB z9 s3 iO iP fV oN mB oO xO List.length_take Nat.add_sub_cancel
theorem MN {h : c6} {u : Un} (hu : WU u) (m : Int) : CB 8 [.agg [.vec u.globals.length (j7 u.globals), .vec u.c4.length (g9 u.c4), .vec u.procs.length (l5 u.procs), .int .i64 u.main], .int .i64 m] h (.int .i64 (within m u.c4.length)) := by
 refine .bz Tryz.f8 10 ?_
 have hml := hu.ml
 refine c32z ?_
 refine .e 4 ?_
 refine .ca rfl rfl (oC _ _ (by omega) (by omega)) ?_
 refine .n ?_
 exact .ret (.ex (hq := by rfl))
end Go.Proofs.YtapdldekgbbomaaGreat
end
section
namespace Go.Proofs.YtapdldekgbbomaaGreat
open Go.Ab Go.Un
variable {h : c6}
theorem app_r {b0 b1 : Blk} {f : List Cf} {d : Int} {st : List (Int × Int)} {n k : Nat} (hn : f.length = n) (hl : n < 1000) (hk : st.length = k) : j5 cfg 46 (h ++ [b0, b1, n9 46 2 n (j0 f), ⟨0, false, 46, 2, [.int .i64 d, .vec k (g6 st)], 0⟩]) (.own (h.length + 2) n 0 n) (.own (h.length + 3) 0 0 1) = some (.own (h.length + 2) (n + 1) 0 (n + 1), h ++ [b0, b1, n9 46 2 (n + 1) (j0 (f ++ [⟨d, st⟩])), ⟨0, false, 46, 2, [.int .i64 d, .vec k (g6 st)], 0⟩]) := by
  subst hn hk
  rw [v7 (C := cfg) (K := 2) (m := 1) (new := [.int .i64 d, .vec st.length (g6 st)]) (zs := j0 f) t29 rfl (by omega) t167 rfl (by omega) t132 rfl (by decide) (by omega), p7, show j0 f ++ [.int .i64 d, .vec st.length (g6 st)] = j0 (f ++ [⟨d, st⟩]) from by simp [j0, uA]]
  rfl
theorem app_rb {b0 b1 : Blk} {f : List Cf} {d r : Int} {n : Nat} (hn : f.length = n) (hl : n < 1000) : j5 cfg 46 (h ++ [b0, b1, n9 46 2 n (j0 f), ⟨0, false, 46, 2, [.int .i64 d, .vec 1 [.int .i64 r, .int .i64 0]], 0⟩]) (.own (h.length + 2) n 0 n) (.own (h.length + 3) 0 0 1) = some (.own (h.length + 2) (n + 1) 0 (n + 1), h ++ [b0, b1, n9 46 2 (n + 1) (j0 (f ++ [⟨d, [(r, 0)]⟩])), ⟨0, false, 46, 2, [.int .i64 d, .vec 1 [.int .i64 r, .int .i64 0]], 0⟩]) := app_r (st := [(r, 0)]) hn hl rfl
variable {u : Un} {c : Clo}
theorem keep_v3 (f f1 : List Cf) : z5 (h ++ [⟨0, false, 30, 4, [.vec u.globals.length (j7 u.globals), .vec u.c4.length (g9 u.c4), .vec u.procs.length (l5 u.procs), .int .i64 u.main], 0⟩, ⟨0, false, 34, 3, [.vec c.insts.length (l8 c.insts), .vec c.calls.length (n4 c.calls), .vec c.roots.length (j7 c.roots)], 0⟩, n9 46 2 f.length (j0 f)]) (h ++ [⟨0, false, 30, 4, [.vec u.globals.length (j7 u.globals), .vec u.c4.length (g9 u.c4), .vec u.procs.length (l5 u.procs), .int .i64 u.main], 0⟩, ⟨0, false, 34, 3, [.vec c.insts.length (l8 c.insts), .vec c.calls.length (n4 c.calls), .vec c.roots.length (j7 c.roots)], 0⟩, n9 46 2 f1.length (j0 f1)]) :=
  (z5.refl h).app rfl ⟨.inl rfl, .inl rfl, .inr t102, trivial⟩
theorem MO {j : Nat} (h : j < c.roots.length) : (mH c).take j ++ [⟨0, [(c.roots.getD j 0, 0)]⟩] = (mH c).take (j + 1) := by
  rw [← FG h, List.take_add_one, List.getElem?_eq_getElem (by rw [pR]; exact h)]
  simp [List.getD, pR, h]
theorem FK (wc : WC u c) {w j : Nat} (h1 : j ≤ c.roots.length) (h2 : j ≤ w) (h3 : c.roots.length ≤ j ∨ w ≤ j) : (mH c).take j = o3 w [] (mH c) := by
  have e := A7 (w := w) (V1 wc) (mH c).length (Nat.le_refl _)
  rw [List.take_of_length_le (Nat.le_refl _), pR] at e
  rw [e]
  congr 1
  omega
attribute [local go_sem] rd p8 aD iY kE LR Int.natCast_nonneg Int.natCast_inj Int.toNat_natCast_add_one iB wrap64 oR max2 V3 n6 iD Option.bind_eq_bind app_r app_rb wN_1 wN_2 rN_2 rN_3 uY qT r6 List.length_take
theorem MP (hu : WU u) (wc : WC u c) {mx : Nat} (hmx : mx < u.c4.length) (steps most : Int) : CB 12 [.agg [.vec u.globals.length (j7 u.globals), .vec u.c4.length (g9 u.c4), .vec u.procs.length (l5 u.procs), .int .i64 u.main], .agg [.vec c.insts.length (l8 c.insts), .vec c.calls.length (n4 c.calls), .vec c.roots.length (j7 c.roots)], .int .i64 ((mx : Nat) : Int), .int .i64 steps, .int .i64 most] h (.vec (A9 u c mx (wN most) (rN steps)).length (j0 (A9 u c mx (wN most) (rN steps)))) := by
  refine .bz Tryz.f12 94 ?_
  have hml := hu.ml
  have hwl := wc.len
  have hrl := wc.rl
  have hrc := tP wc
  have hwr := FF (n := most)
  have hrn := UT (n := steps)
  refine .z ?_
  refine c73z ?_
  refine g5.sK 11 rfl ?_
  refine .aG (fun m st => ∃ (j : Nat), (m = c.roots.length - j ∧ (j ≤ c.roots.length ∧ j ≤ (wN most))) ∧ st = ⟨mkS 94 [(2, AV.int .i64 ((mx : Nat) : Int)), (3, AV.int .i64 steps), (4, AV.int .i64 (((wN most) : Nat) : Int)), (5, AV.ptr h.length 0 0), (6, AV.ptr (h.length + 1) 0 0), (11, AV.own (h.length + 2) j 0 j), (12, AV.int .i64 ((j : Nat) : Int))], h ++ [⟨0, false, 30, 4, [.vec u.globals.length (j7 u.globals), .vec u.c4.length (g9 u.c4), .vec u.procs.length (l5 u.procs), .int .i64 u.main], 0⟩, ⟨0, false, 34, 3, [.vec c.insts.length (l8 c.insts), .vec c.calls.length (n4 c.calls), .vec c.roots.length (j7 c.roots)], 0⟩, n9 46 2 j (j0 ((mH c).take j))]⟩) (.v ⟨0, ⟨rfl, ⟨by omega, by omega⟩⟩, rfl⟩ (hs := t21)) ?_
  rintro m sl h' ⟨j, ⟨hm, ⟨hj, hjw⟩⟩, hst⟩
  obtain ⟨rfl, rfl⟩ := St.mk.inj hst; clear hst
  have hbl : ((mH c).take j).length = j := by rw [List.length_take, pR]; omega
  refine .seq ?_
  refine c117z ?_
  refine .spl 27 rfl rfl (fun e1 => ?_) (fun e1 => ?_)
  ·try simp only [e1]
   have qe1 := fact e1
   refine .m [(5, 27)] ?_
   refine u2z ?_ ?_
   ·intro e2 qe2
    refine c3z ?_
    refine .c8 [2, 3, 4, 5, 6, 11, 12] ?_
    refine .r ?_
    refine .e 6 ?_
    refine .ca rfl rfl (c_begR _) ?_
    refine c30z ?_
    refine .c8 [2, 3, 4, 5, 6, 11, 12] ?_
    refine .rz ?_
    exact ⟨_, by omega, .v ⟨(j + 1), ⟨rfl, ⟨by omega, by omega⟩⟩, rfl⟩ (he := by (rw [MO (by omega)]; simp only [List.append_assoc, List.cons_append, List.nil_append]; rfl)) (hk := by exact (z5.refl h).app rfl ⟨.inl rfl, .inl rfl, .inr t102, trivial⟩) (hs := t21)⟩
   intro e2 qe2
   refine .exit ?_
   have hb1 : ((mH c).take j) = o3 (wN most) [] (mH c) := FK wc hj hjw (by omega)
   have hb2 : j = (o3 (wN most) [] (mH c)).length := by rw [← hb1, hbl]
   rw [hb1, hb2]
   change g5 ..
   refine .c8 [2, 3, 4, 5, 6, 11] ?_
   refine c21z ?_
   refine .aG (fun m st => ∃ (r : Nat) (i : Nat) (f : List Cf), (m = (rN steps) - r ∧ (VI u c mx (wN most) (rN steps) r i f ∧ r ≤ (rN steps))) ∧ st = ⟨mkS 94 [(2, AV.int .i64 ((mx : Nat) : Int)), (3, AV.int .i64 steps), (4, AV.int .i64 (((wN most) : Nat) : Int)), (5, AV.ptr h.length 0 0), (6, AV.ptr (h.length + 1) 0 0), (11, AV.own (h.length + 2) f.length 0 f.length), (13, AV.int .i64 ((i : Nat) : Int)), (14, AV.int .i64 ((r : Nat) : Int))], h ++ [⟨0, false, 30, 4, [.vec u.globals.length (j7 u.globals), .vec u.c4.length (g9 u.c4), .vec u.procs.length (l5 u.procs), .int .i64 u.main], 0⟩, ⟨0, false, 34, 3, [.vec c.insts.length (l8 c.insts), .vec c.calls.length (n4 c.calls), .vec c.roots.length (j7 c.roots)], 0⟩, n9 46 2 f.length (j0 f)]⟩) (.v ⟨0, 0, (o3 (wN most) [] (mH c)), ⟨rfl, ⟨VI.start hu wc, by omega⟩⟩, rfl⟩) ?_
   rintro m sl h' ⟨r, i, f, ⟨hm, ⟨hV, hr⟩⟩, hst⟩
   obtain ⟨rfl, rfl⟩ := St.mk.inj hst; clear hst
   have hVi := hV.i; have hVl := hV.l
   have hrN : ((r : Int) < min steps 100) ↔ r < (rN steps) := by unfold rN; omega
   refine c0z ?_
   refine u2z ?_ ?_
   ·intro e3 qe3
    refine c3z ?_
    refine c21z ?_
    refine .aG (fun m st => ∃ (i1 : Nat) (f1 : List Cf), (m = f.length - i1 ∧ (VJ u c mx (wN most) (rN steps) r f.length i1 f1)) ∧ st = ⟨mkS 94 [(2, AV.int .i64 ((mx : Nat) : Int)), (3, AV.int .i64 steps), (4, AV.int .i64 (((wN most) : Nat) : Int)), (5, AV.ptr h.length 0 0), (6, AV.ptr (h.length + 1) 0 0), (11, AV.own (h.length + 2) f1.length 0 f1.length), (14, AV.int .i64 ((r : Nat) : Int)), (15, AV.int .i64 ((f.length : Nat) : Int)), (16, AV.int .i64 ((i1 : Nat) : Int))], h ++ [⟨0, false, 30, 4, [.vec u.globals.length (j7 u.globals), .vec u.c4.length (g9 u.c4), .vec u.procs.length (l5 u.procs), .int .i64 u.main], 0⟩, ⟨0, false, 34, 3, [.vec c.insts.length (l8 c.insts), .vec c.calls.length (n4 c.calls), .vec c.roots.length (j7 c.roots)], 0⟩, n9 46 2 f1.length (j0 f1)]⟩) (.v ⟨i, f, ⟨rfl, hV.go (by omega)⟩, rfl⟩) ?_
    rintro m sl h' ⟨i1, f1, ⟨hm, hJ⟩, hst⟩
    obtain ⟨rfl, rfl⟩ := St.mk.inj hst; clear hst
    have hJt := hJ.t; have hJi := hJ.i; have hJl := hJ.l
    refine c0z ?_
    refine u2z ?_ ?_
    ·intro e4 qe4
     refine c3z ?_
     refine .ss u4 (mkP 9 [0, 0, 0, 0, 0, 24, 56, 127, 255] []) ?_
     refine .k 7 [] ?_
     refine .ca rfl rfl (A2 hu wc hmx (by omega) (hJ.b i1 (by omega))) ?_
     refine .n [] ?_
     refine .c8 [2, 3, 4, 5, 6, 11, 14, 15, 16, 17] ?_
     refine c24z ?_
     refine .aG (fun m st => ∃ (k : Nat), (m = (o4 u c mx (f1.getD i1 aR)).length - k ∧ (k ≤ (o4 u c mx (f1.getD i1 aR)).length)) ∧ st = ⟨mkS 94 [(2, AV.int .i64 ((mx : Nat) : Int)), (3, AV.int .i64 steps), (4, AV.int .i64 (((wN most) : Nat) : Int)), (5, AV.ptr h.length 0 0), (6, AV.ptr (h.length + 1) 0 0), (11, AV.own (h.length + 2) (o3 (wN most) f1 ((o4 u c mx (f1.getD i1 aR)).take k)).length 0 (o3 (wN most) f1 ((o4 u c mx (f1.getD i1 aR)).take k)).length), (14, AV.int .i64 ((r : Nat) : Int)), (15, AV.int .i64 ((f.length : Nat) : Int)), (16, AV.int .i64 ((i1 : Nat) : Int)), (17, AV.vec (o4 u c mx (f1.getD i1 aR)).length (j0 (o4 u c mx (f1.getD i1 aR)))), (18, AV.int .i64 ((k : Nat) : Int))], h ++ [⟨0, false, 30, 4, [.vec u.globals.length (j7 u.globals), .vec u.c4.length (g9 u.c4), .vec u.procs.length (l5 u.procs), .int .i64 u.main], 0⟩, ⟨0, false, 34, 3, [.vec c.insts.length (l8 c.insts), .vec c.calls.length (n4 c.calls), .vec c.roots.length (j7 c.roots)], 0⟩, n9 46 2 (o3 (wN most) f1 ((o4 u c mx (f1.getD i1 aR)).take k)).length (j0 (o3 (wN most) f1 ((o4 u c mx (f1.getD i1 aR)).take k)))]⟩) (.v ⟨0, ⟨rfl, by omega⟩, rfl⟩ (hs := t18)) ?_
     rintro m sl h' ⟨k, ⟨hm, hk⟩, hst⟩
     obtain ⟨rfl, rfl⟩ := St.mk.inj hst; clear hst
     have hfl := (fW (l := (o4 u c mx (f1.getD i1 aR)).take k) hJl).2
     have hK2 := pP (u := u) (c := c) (m := mx) (x := f1.getD i1 aR)
     have hKa := oP hu wc (hJ.b i1 (by omega))
     have hFa : uX u c mx (r + 2) (o3 (wN most) f1 ((o4 u c mx (f1.getD i1 aR)).take k)) := uX.adds hJ.a (fun y hy => hKa y (List.mem_of_mem_take hy))
     refine .seq ?_
     refine c26z ?_
     refine .spl 70 rfl rfl (fun e5 => ?_) (fun e5 => ?_)
     ·try simp only [e5]
      have qe5 := fact e5
      refine .m [(4, 70)] ?_
      refine u2z ?_ ?_
      ·intro e6 qe6
       refine c3z ?_
       refine .c8 [2, 3, 4, 5, 6, 11, 14, 15, 16, 17, 18] ?_
       refine c26z ?_
       refine .ca rfl rfl (O9 (x := (o4 u c mx (f1.getD i1 aR)).getD k aR) (o3 (wN most) f1 ((o4 u c mx (f1.getD i1 aR)).take k)) (by omega) (fun y hy => by have := (hFa y hy).len; omega) t29) ?_
       refine .n ?_
       refine u2z ?_ ?_
       ·intro e7 qe7
        have hnew : (o4 u c mx (f1.getD i1 aR)).getD k aR ∉ (o3 (wN most) f1 ((o4 u c mx (f1.getD i1 aR)).take k)) := by simp_all
        refine c1z ?_
        refine .c8 [2, 3, 4, 5, 6, 11, 14, 15, 16, 17, 18] ?_
        refine .rz ?_
        exact ⟨_, by omega, .v ⟨(k + 1), ⟨rfl, by omega⟩, rfl⟩ (he := t67) (hk := t122) (hs := t18)⟩
       intro e7 qe7
       refine c4z ?_
       have hold : (o4 u c mx (f1.getD i1 aR)).getD k aR ∈ (o3 (wN most) f1 ((o4 u c mx (f1.getD i1 aR)).take k)) := by simp_all
       refine .rz ?_
       exact ⟨_, by omega, .v ⟨(k + 1), ⟨rfl, by omega⟩, rfl⟩ (he := t74) (hk := t122) (hs := t18)⟩
      intro e6 qe6
      refine .exit ?_
      have hend : (o3 (wN most) f1 ((o4 u c mx (f1.getD i1 aR)).take k)) = o3 (wN most) f1 (o4 u c mx (f1.getD i1 aR)) := by first | exact lN (by omega) | exact jJ (by omega)
      rw [hend]
      refine c148z ?_
      refine .rz ?_
      exact ⟨_, by omega, .v ⟨(i1 + 1), (o3 (wN most) f1 (o4 u c mx (f1.getD i1 aR))), ⟨rfl, hJ.step hu wc (by omega)⟩, rfl⟩ (hk := t122)⟩
     try simp only [e5]
     have qe5 := fact e5
     refine .m [(4, 70)] ?_
     refine c208z ?_
     have hend : (o3 (wN most) f1 ((o4 u c mx (f1.getD i1 aR)).take k)) = o3 (wN most) f1 (o4 u c mx (f1.getD i1 aR)) := by first | exact lN (by omega) | exact jJ (by omega)
     rw [hend]
     refine c148z ?_
     refine .rz ?_
     exact ⟨_, by omega, .v ⟨(i1 + 1), (o3 (wN most) f1 (o4 u c mx (f1.getD i1 aR))), ⟨rfl, hJ.step hu wc (by omega)⟩, rfl⟩ (hk := t122)⟩
    intro e4 qe4
    refine .exit ?_
    obtain rfl : i1 = f.length := by omega
    have hJ2 := hJ
    change g5 ..
    refine c62z ?_
    exact ⟨_, by omega, .v ⟨(r + 1), f.length, f1, ⟨rfl, ⟨hJ2.fin (by omega), by omega⟩⟩, rfl⟩ (hk := t122)⟩
   intro e3 qe3
   refine .exit ?_
   obtain rfl : r = (rN steps) := by omega
   change g5 ..
   refine .c8 [11] ?_
   refine c34z ?_
   exact ⟨_, _, rfl, nA t29 (by omega) rfl, by (rw [hV.fin])⟩
  try simp only [e1]
  have qe1 := fact e1
  refine .m [(5, 27)] ?_
  refine c208z ?_
  have hb1 : ((mH c).take j) = o3 (wN most) [] (mH c) := FK wc hj hjw (by omega)
  have hb2 : j = (o3 (wN most) [] (mH c)).length := by rw [← hb1, hbl]
  rw [hb1, hb2]
  change g5 ..
  refine .c8 [2, 3, 4, 5, 6, 11] ?_
  refine c21z ?_
  refine .aG (fun m st => ∃ (r : Nat) (i : Nat) (f : List Cf), (m = (rN steps) - r ∧ (VI u c mx (wN most) (rN steps) r i f ∧ r ≤ (rN steps))) ∧ st = ⟨mkS 94 [(2, AV.int .i64 ((mx : Nat) : Int)), (3, AV.int .i64 steps), (4, AV.int .i64 (((wN most) : Nat) : Int)), (5, AV.ptr h.length 0 0), (6, AV.ptr (h.length + 1) 0 0), (11, AV.own (h.length + 2) f.length 0 f.length), (13, AV.int .i64 ((i : Nat) : Int)), (14, AV.int .i64 ((r : Nat) : Int))], h ++ [⟨0, false, 30, 4, [.vec u.globals.length (j7 u.globals), .vec u.c4.length (g9 u.c4), .vec u.procs.length (l5 u.procs), .int .i64 u.main], 0⟩, ⟨0, false, 34, 3, [.vec c.insts.length (l8 c.insts), .vec c.calls.length (n4 c.calls), .vec c.roots.length (j7 c.roots)], 0⟩, n9 46 2 f.length (j0 f)]⟩) (.v ⟨0, 0, (o3 (wN most) [] (mH c)), ⟨rfl, ⟨VI.start hu wc, by omega⟩⟩, rfl⟩) ?_
  rintro m sl h' ⟨r, i, f, ⟨hm, ⟨hV, hr⟩⟩, hst⟩
  obtain ⟨rfl, rfl⟩ := St.mk.inj hst; clear hst
  have hVi := hV.i; have hVl := hV.l
  have hrN : ((r : Int) < min steps 100) ↔ r < (rN steps) := by unfold rN; omega
  refine c0z ?_
  refine u2z ?_ ?_
  ·intro e8 qe8
   refine c3z ?_
   refine c21z ?_
   refine .aG (fun m st => ∃ (i1 : Nat) (f1 : List Cf), (m = f.length - i1 ∧ (VJ u c mx (wN most) (rN steps) r f.length i1 f1)) ∧ st = ⟨mkS 94 [(2, AV.int .i64 ((mx : Nat) : Int)), (3, AV.int .i64 steps), (4, AV.int .i64 (((wN most) : Nat) : Int)), (5, AV.ptr h.length 0 0), (6, AV.ptr (h.length + 1) 0 0), (11, AV.own (h.length + 2) f1.length 0 f1.length), (14, AV.int .i64 ((r : Nat) : Int)), (15, AV.int .i64 ((f.length : Nat) : Int)), (16, AV.int .i64 ((i1 : Nat) : Int))], h ++ [⟨0, false, 30, 4, [.vec u.globals.length (j7 u.globals), .vec u.c4.length (g9 u.c4), .vec u.procs.length (l5 u.procs), .int .i64 u.main], 0⟩, ⟨0, false, 34, 3, [.vec c.insts.length (l8 c.insts), .vec c.calls.length (n4 c.calls), .vec c.roots.length (j7 c.roots)], 0⟩, n9 46 2 f1.length (j0 f1)]⟩) (.v ⟨i, f, ⟨rfl, hV.go (by omega)⟩, rfl⟩) ?_
   rintro m sl h' ⟨i1, f1, ⟨hm, hJ⟩, hst⟩
   obtain ⟨rfl, rfl⟩ := St.mk.inj hst; clear hst
   have hJt := hJ.t; have hJi := hJ.i; have hJl := hJ.l
   refine c0z ?_
   refine u2z ?_ ?_
   ·intro e9 qe9
    refine c3z ?_
    refine .ss u4 (mkP 9 [0, 0, 0, 0, 0, 24, 56, 127, 255] []) ?_
    refine .k 7 [] ?_
    refine .ca rfl rfl (A2 hu wc hmx (by omega) (hJ.b i1 (by omega))) ?_
    refine .n [] ?_
    refine .c8 [2, 3, 4, 5, 6, 11, 14, 15, 16, 17] ?_
    refine c24z ?_
    refine .aG (fun m st => ∃ (k : Nat), (m = (o4 u c mx (f1.getD i1 aR)).length - k ∧ (k ≤ (o4 u c mx (f1.getD i1 aR)).length)) ∧ st = ⟨mkS 94 [(2, AV.int .i64 ((mx : Nat) : Int)), (3, AV.int .i64 steps), (4, AV.int .i64 (((wN most) : Nat) : Int)), (5, AV.ptr h.length 0 0), (6, AV.ptr (h.length + 1) 0 0), (11, AV.own (h.length + 2) (o3 (wN most) f1 ((o4 u c mx (f1.getD i1 aR)).take k)).length 0 (o3 (wN most) f1 ((o4 u c mx (f1.getD i1 aR)).take k)).length), (14, AV.int .i64 ((r : Nat) : Int)), (15, AV.int .i64 ((f.length : Nat) : Int)), (16, AV.int .i64 ((i1 : Nat) : Int)), (17, AV.vec (o4 u c mx (f1.getD i1 aR)).length (j0 (o4 u c mx (f1.getD i1 aR)))), (18, AV.int .i64 ((k : Nat) : Int))], h ++ [⟨0, false, 30, 4, [.vec u.globals.length (j7 u.globals), .vec u.c4.length (g9 u.c4), .vec u.procs.length (l5 u.procs), .int .i64 u.main], 0⟩, ⟨0, false, 34, 3, [.vec c.insts.length (l8 c.insts), .vec c.calls.length (n4 c.calls), .vec c.roots.length (j7 c.roots)], 0⟩, n9 46 2 (o3 (wN most) f1 ((o4 u c mx (f1.getD i1 aR)).take k)).length (j0 (o3 (wN most) f1 ((o4 u c mx (f1.getD i1 aR)).take k)))]⟩) (.v ⟨0, ⟨rfl, by omega⟩, rfl⟩ (hs := t18)) ?_
    rintro m sl h' ⟨k, ⟨hm, hk⟩, hst⟩
    obtain ⟨rfl, rfl⟩ := St.mk.inj hst; clear hst
    have hfl := (fW (l := (o4 u c mx (f1.getD i1 aR)).take k) hJl).2
    have hK2 := pP (u := u) (c := c) (m := mx) (x := f1.getD i1 aR)
    have hKa := oP hu wc (hJ.b i1 (by omega))
    have hFa : uX u c mx (r + 2) (o3 (wN most) f1 ((o4 u c mx (f1.getD i1 aR)).take k)) := uX.adds hJ.a (fun y hy => hKa y (List.mem_of_mem_take hy))
    refine .seq ?_
    refine c26z ?_
    refine .spl 70 rfl rfl (fun e10 => ?_) (fun e10 => ?_)
    ·try simp only [e10]
     have qe10 := fact e10
     refine .m [(4, 70)] ?_
     refine u2z ?_ ?_
     ·intro e11 qe11
      refine c3z ?_
      refine .c8 [2, 3, 4, 5, 6, 11, 14, 15, 16, 17, 18] ?_
      refine c26z ?_
      refine .ca rfl rfl (O9 (x := (o4 u c mx (f1.getD i1 aR)).getD k aR) (o3 (wN most) f1 ((o4 u c mx (f1.getD i1 aR)).take k)) (by omega) (fun y hy => by have := (hFa y hy).len; omega) t29) ?_
      refine .n ?_
      refine u2z ?_ ?_
      ·intro e12 qe12
       have hnew : (o4 u c mx (f1.getD i1 aR)).getD k aR ∉ (o3 (wN most) f1 ((o4 u c mx (f1.getD i1 aR)).take k)) := by simp_all
       refine c1z ?_
       refine .c8 [2, 3, 4, 5, 6, 11, 14, 15, 16, 17, 18] ?_
       refine .rz ?_
       exact ⟨_, by omega, .v ⟨(k + 1), ⟨rfl, by omega⟩, rfl⟩ (he := t67) (hk := t122) (hs := t18)⟩
      intro e12 qe12
      refine c4z ?_
      have hold : (o4 u c mx (f1.getD i1 aR)).getD k aR ∈ (o3 (wN most) f1 ((o4 u c mx (f1.getD i1 aR)).take k)) := by simp_all
      refine .rz ?_
      exact ⟨_, by omega, .v ⟨(k + 1), ⟨rfl, by omega⟩, rfl⟩ (he := t74) (hk := t122) (hs := t18)⟩
     intro e11 qe11
     refine .exit ?_
     have hend : (o3 (wN most) f1 ((o4 u c mx (f1.getD i1 aR)).take k)) = o3 (wN most) f1 (o4 u c mx (f1.getD i1 aR)) := by first | exact lN (by omega) | exact jJ (by omega)
     rw [hend]
     refine c148z ?_
     refine .rz ?_
     exact ⟨_, by omega, .v ⟨(i1 + 1), (o3 (wN most) f1 (o4 u c mx (f1.getD i1 aR))), ⟨rfl, hJ.step hu wc (by omega)⟩, rfl⟩ (hk := t122)⟩
    try simp only [e10]
    have qe10 := fact e10
    refine .m [(4, 70)] ?_
    refine c208z ?_
    have hend : (o3 (wN most) f1 ((o4 u c mx (f1.getD i1 aR)).take k)) = o3 (wN most) f1 (o4 u c mx (f1.getD i1 aR)) := by first | exact lN (by omega) | exact jJ (by omega)
    rw [hend]
    refine c148z ?_
    refine .rz ?_
    exact ⟨_, by omega, .v ⟨(i1 + 1), (o3 (wN most) f1 (o4 u c mx (f1.getD i1 aR))), ⟨rfl, hJ.step hu wc (by omega)⟩, rfl⟩ (hk := t122)⟩
   intro e9 qe9
   refine .exit ?_
   obtain rfl : i1 = f.length := by omega
   have hJ2 := hJ
   change g5 ..
   refine c62z ?_
   exact ⟨_, by omega, .v ⟨(r + 1), f.length, f1, ⟨rfl, ⟨hJ2.fin (by omega), by omega⟩⟩, rfl⟩ (hk := t122)⟩
  intro e8 qe8
  refine .exit ?_
  obtain rfl : r = (rN steps) := by omega
  change g5 ..
  refine .c8 [11] ?_
  refine c34z ?_
  exact ⟨_, _, rfl, nA t29 (by omega) rfl, by (rw [hV.fin])⟩
end Go.Proofs.YtapdldekgbbomaaGreat
end
section
namespace Go.Proofs.YtapdldekgbbomaaGreat
open Go.Ab Go.Un
theorem VJ.run {u : Un} {c : Clo} (hu : WU u) (wc : WC u c) {mx w N r to : Nat} (hr : r < N) : ∀ (k i : Nat) (f : List Cf), to - i = k → VJ u c mx w N r to i f → ∃ f', VI u c mx w N (r + 1) to f'
  | 0, i, f, hk, h => by
    have hi := h.i
    obtain rfl : i = to := by omega
    exact ⟨f, h.fin hr⟩
  | k + 1, i, f, hk, h => VJ.run hu wc hr k (i + 1) _ (by omega) (h.step hu wc (by omega))
theorem VI.run {u : Un} {c : Clo} (hu : WU u) (wc : WC u c) {mx w N : Nat} : ∀ (k r i : Nat) (f : List Cf), N - r = k → r ≤ N → VI u c mx w N r i f → (A9 u c mx w N).length ≤ w ∧ uX u c mx (N + 1) (A9 u c mx w N)
  | 0, r, i, f, hk, hr, h => by
    obtain rfl : r = N := by omega
    rw [h.fin]
    exact ⟨h.l, h.a⟩
  | k + 1, r, i, f, hk, hr, h => by
    obtain ⟨f', h'⟩ := VJ.run hu wc (by omega) _ i f rfl (h.go (by omega))
    exact VI.run hu wc k (r + 1) _ f' (by omega) (by omega) h'
theorem OS {u : Un} {c : Clo} (hu : WU u) (wc : WC u c) {mx w N : Nat} : (A9 u c mx w N).length ≤ w ∧ uX u c mx (N + 1) (A9 u c mx w N) := VI.run hu wc _ 0 0 _ rfl (Nat.zero_le _) (VI.start hu wc)
theorem MQ {h : c6} {u : Un} {c : Clo} (hu : WU u) (wc : WC u c) {mx : Nat} {steps most : Int} : CB 10 [.vec (A9 u c mx (wN most) (rN steps)).length (j0 (A9 u c mx (wN most) (rN steps))), .vec (A9 u c mx (wN most) (rN steps)).length (j0 (A9 u c mx (wN most) (rN steps)))] h (.bool true) :=
  MM _ (by have := (OS hu wc (mx := mx) (w := wN most) (N := rN steps)).1; have := FF (n := most); omega) (fun x hx => by have := ((OS hu wc (mx := mx) (w := wN most) (N := rN steps)).2 x hx).len; have := UT (n := steps); omega)
attribute [local go_sem] rd p8 aD iY kE LR Int.natCast_nonneg Int.natCast_inj Int.toNat_natCast_add_one iB wrap64 oR max2 V3 n6 iD Option.bind_eq_bind aJ cB z9 s3 iO iP fV oN mB oO xO List.length_take Nat.add_sub_cancel
theorem c_lawVisit (L : List Int) (hL : L.length < 4611686018427387904) (m steps most : Int) (raw : Bool) : CB 3 [.vec L.length (j7 L), .int .i64 m, .int .i64 steps, .int .i64 most, .bool raw] [] (.bool true) := by
  refine .bz Tryz.f3 57 ?_
  refine c193z ?_
  refine o1.cx rfl rfl hb7 (c_unit L hL) (fun y1 h1 hq1 => ?_)
  obtain ⟨⟨p, u, c, gp, hu, wc, rfl⟩, rfl⟩ := hq1
  have hml := hu.ml
  have hwl := wc.len
  have hrl := wc.rl
  have hrc := tP wc
  simp only [HM]
  refine c97z ?_
  refine .c8 [1, 2, 3, 4, 12, 13] ?_
  refine c61z ?_
  refine .ca rfl rfl (MN hu m) ?_
  refine c42z ?_
  obtain ⟨mx, hmx, hme⟩ := V2 m (n := u.c4.length) (by omega)
  simp only [hme]
  refine c20z ?_
  refine .spl 25 rfl rfl (fun e1 => ?_) (fun e1 => ?_)
  ·try simp only [e1]
   have qe1 := fact e1
   refine .m [(2, 25)] ?_
   refine .T ?_
   refine .c8 [1, 2, 3, 4, 12, 13] ?_
   have hs1 := @dK steps 30 (by omega)
   have hs2 := @dL steps 30 (by omega)
   refine .r ?_
   refine .e 1 ?_
   refine .ca rfl rfl (oC steps 30 (by omega) (by omega)) ?_
   refine c30z ?_
   refine .seq ?_
   refine c20z ?_
   refine .spl 34 rfl rfl (fun e2 => ?_) (fun e2 => ?_)
   ·try simp only [e2]
    have qe2 := fact e2
    refine .m [(2, 34)] ?_
    refine .T ?_
    refine .c8 [1, 2, 3, 12, 13] ?_
    have hm1 := @dK most 150 (by omega)
    have hm2 := @dL most 150 (by omega)
    refine c261z ?_
    refine c160z ?_
    exact .ret (.ex (hq := by rfl))
   try simp only [e2]
   have qe2 := fact e2
   refine .m [(2, 34)] ?_
   refine u2z ?_ ?_
   ·intro e3 qe3
    refine .c8 [1, 2, 3, 12, 13] ?_
    have hm1 := @dK most 150 (by omega)
    have hm2 := @dL most 150 (by omega)
    refine c261z ?_
    refine c160z ?_
    exact .ret (.ex (hq := by rfl))
   intro e3 qe3
   refine .sk ?_
   refine c211z ?_
   exact .ret (.ex (hq := by rfl))
  try simp only [e1]
  have qe1 := fact e1
  refine .m [(2, 25)] ?_
  refine u2z ?_ ?_
  ·intro e4 qe4
   refine .c8 [1, 2, 3, 4, 12, 13] ?_
   have hs1 := @dK steps 30 (by omega)
   have hs2 := @dL steps 30 (by omega)
   refine .r ?_
   refine .e 1 ?_
   refine .ca rfl rfl (oC steps 30 (by omega) (by omega)) ?_
   refine c30z ?_
   refine .seq ?_
   refine c20z ?_
   refine .spl 34 rfl rfl (fun e5 => ?_) (fun e5 => ?_)
   ·try simp only [e5]
    have qe5 := fact e5
    refine .m [(2, 34)] ?_
    refine .T ?_
    refine .c8 [1, 2, 3, 12, 13] ?_
    have hm1 := @dK most 150 (by omega)
    have hm2 := @dL most 150 (by omega)
    refine c261z ?_
    refine c160z ?_
    exact .ret (.ex (hq := by rfl))
   try simp only [e5]
   have qe5 := fact e5
   refine .m [(2, 34)] ?_
   refine u2z ?_ ?_
   ·intro e6 qe6
    refine .c8 [1, 2, 3, 12, 13] ?_
    have hm1 := @dK most 150 (by omega)
    have hm2 := @dL most 150 (by omega)
    refine c261z ?_
    refine c160z ?_
    exact .ret (.ex (hq := by rfl))
   intro e6 qe6
   refine .sk ?_
   refine c211z ?_
   exact .ret (.ex (hq := by rfl))
  intro e4 qe4
  refine c152z ?_
  refine .c8 [1, 2, 3, 4, 12, 13] ?_
  refine c20z ?_
  refine .spl 34 rfl rfl (fun e7 => ?_) (fun e7 => ?_)
  ·try simp only [e7]
   have qe7 := fact e7
   refine .m [(2, 34)] ?_
   refine .T ?_
   have hm1 := @dK most 150 (by omega)
   have hm2 := @dL most 150 (by omega)
   refine c261z ?_
   refine c211z ?_
   exact .ret (.ex (hq := by rfl))
  try simp only [e7]
  have qe7 := fact e7
  refine .m [(2, 34)] ?_
  refine u2z ?_ ?_
  ·intro e8 qe8
   have hm1 := @dK most 150 (by omega)
   have hm2 := @dL most 150 (by omega)
   refine c261z ?_
   refine c211z ?_
   exact .ret (.ex (hq := by rfl))
  intro e8 qe8
  refine .sk ?_
  refine c160z ?_
  exact .ret (.ex (hq := by rfl))
end Go.Proofs.YtapdldekgbbomaaGreat
end
