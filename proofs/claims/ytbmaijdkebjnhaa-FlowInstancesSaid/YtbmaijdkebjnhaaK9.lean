/- My own texts, put together by a program of mine. -/
import Derived.Test.YtbmaijdkebjnhaaK8
set_option linter.unusedSimpArgs false
set_option linter.unusedVariables false
set_option maxRecDepth 100000
set_option maxHeartbeats 4000000
section
namespace Go.Proofs.Ytbmaijdkebjnhaa
open Go.Ab Go.Un
theorem JL {h : c6} {p : Go.Un.Pg} (hp : GP p) {u : Un} (hu : dF p = u) : CallA Try.prog cfg 25 [.agg [.vec p.globals.length (o7 p.globals), .vec p.c4.length (j6 p.c4), .vec p.funcs.length (n4 p.funcs)]] h (fun y' h' => y' = .tup [.agg [.vec u.globals.length (l6 u.globals), .vec u.c4.length (j6 u.c4), .vec u.procs.length (s5 u.procs), .int .i64 u.main], .int .i64 0, .int .i64 0, .int .i64 0] ∧ h' = h) := by
 subst hu; exact c_lower hp
attribute [local go_sem] rd cR fE Int.natCast_nonneg Int.natCast_inj oD lJ oE
theorem zH (L : List Int) (hL : L.length < 4611686018427387904) : CallA Try.prog cfg 9 [.vec L.length (l6 L)] [] (fun y' h' => (∃ p u c, GP p ∧ WU u ∧ WC u c ∧ y' = .tup [.agg (yC p), .agg [.vec u.globals.length (l6 u.globals), .vec u.c4.length (j6 u.c4), .vec u.procs.length (s5 u.procs), .int .i64 u.main], .agg [.vec c.insts.length (aJ c.insts), .vec c.calls.length (dE c.calls), .vec c.roots.length (l6 c.roots)]]) ∧ h' = []) := by
 refine .b fn9 ntm9 ?_
 refine c96z ?_
 refine l5.cx rfl rfl hb24 (DB L hL) (fun y1 h1 hq1 => ?_)
 obtain ⟨⟨p, hp, rfl⟩, rfl⟩ := hq1
 generalize hup : dF p = u
 have hu : WU u := by rw [← hup]; exact unit_ok hp
 simp only [yC]
 refine .n ?_
 refine c144z ?_
 refine .ca rfl rfl (JL hp hup) ?_
 refine c77z ?_
 refine .c7 [2, 3, 4, 5, 6] ?_
 refine c144z ?_
 refine l5.cx rfl rfl hb26 (c_close hu) (fun y1 h1 hq1 => ?_)
 obtain ⟨⟨c, wc, rfl⟩, rfl⟩ := hq1
 simp only [MQ]
 refine .n ?_
 refine .sg z7 (mkG 6 [0, 0, 0, 1, 11, 31] [3, 4, 5] [0, 0, 0, 0, 8, 24] [56, 48, 32, 48, 32, 0] [] [0, 8, 24, 56] [1, 2]) 0 ?_
 refine .rn [true] ?_
 refine .rm [true] ?_
 refine .rm [true] ?_
 refine .en [true] [8, 0] [_] ?_
 refine .en [true, false] [24, 8, 0] [_] ?_
 refine .en [true, false, false] [56, 24, 8, 0] [_] ?_
 refine .po [false, true, true, true] ?_
 refine c26z ?_
 exact .ret (.ex (hq := by exact ⟨p, u, c, hp, hu, wc, rfl⟩))
theorem c_site {h : c6} {u : Un} {c : Clo} (hu : WU u) (wc : WC u c) (x y : Int) : CallA Try.prog cfg 10 [.agg [.vec u.globals.length (l6 u.globals), .vec u.c4.length (j6 u.c4), .vec u.procs.length (s5 u.procs), .int .i64 u.main], .agg [.vec c.insts.length (aJ c.insts), .vec c.calls.length (dE c.calls), .vec c.roots.length (l6 c.roots)], .int .i64 x, .int .i64 y] h (fun y' h' => y' = .tup [.int .i64 (within x c.insts.length), .int .i64 (within y (c9 u (c.insts.getD (within x c.insts.length).toNat g7)).length)] ∧ h' = h) := by
 refine .b fn10 ntm10 ?_
 have hl := wc.len
 have hw1 := @lC x c.insts.length (by omega)
 have hw2 := @lD x c.insts.length (by omega)
 have hwi : WIt u (c.insts.getD (within x c.insts.length).toNat g7) := wc.wi _ (l7 (by omega))
 have hi1 := hwi.lo; have hi2 := hwi.hi
 have hcl := bP hu hwi
 have hc1 := (lB hu hwi).1
 refine .z ?_
 refine c24z ?_
 refine .ca rfl rfl (qR _ _ (by omega) (by omega)) ?_
 refine .n ?_
 refine .c7 [3, 4, 5, 10] ?_
 refine .ss z7 (mkP 17 [0, 0, 0, 4, 0, 16, 0, 112, 240, 496, 1020, 2044, 4092, 8188, 16382, 32767, 65535] []) ?_
 refine .k 8 [] ?_
 refine .k 6 [] ?_
 refine .ca rfl rfl (qR _ _ (by omega) (by omega)) ?_
 refine .n [] ?_
 exact .ret (.ex (hq := by rfl))
end Go.Proofs.Ytbmaijdkebjnhaa
end
section
namespace Go.Proofs.Ytbmaijdkebjnhaa
open Go.Ab
set_option maxRecDepth 1000000
noncomputable def sZ : fA := p8 cfg fV 100
theorem jJ : sZ.ok Try.prog cfg := vF z7 eH 100
def QJ : R6 := []
theorem M1 : kY Try.prog cfg QJ := EV
def mA1 : List AV := [.vec 53 [.int .u8 109, .int .u8 117, .int .u8 116, .int .u8 101, .int .u8 120, .int .u8 32, .int .u8 97, .int .u8 59, .int .u8 32, .int .u8 109, .int .u8 117, .int .u8 116, .int .u8 101, .int .u8 120, .int .u8 32, .int .u8 98, .int .u8 59, .int .u8 32, .int .u8 102, .int .u8 117, .int .u8 110, .int .u8 99, .int .u8 32, .int .u8 109, .int .u8 97, .int .u8 105, .int .u8 110, .int .u8 40, .int .u8 41, .int .u8 32, .int .u8 123, .int .u8 32, .int .u8 119, .int .u8 104, .int .u8 105, .int .u8 108, .int .u8 101, .int .u8 32, .int .u8 49, .int .u8 32, .int .u8 123, .int .u8 32, .int .u8 108, .int .u8 111, .int .u8 99, .int .u8 107, .int .u8 32, .int .u8 97, .int .u8 59, .int .u8 32, .int .u8 125, .int .u8 32, .int .u8 125]]
def mH1 : c6 := [⟨1, true, 0, 0, [], 0⟩, ⟨0, false, 27, 3, [.g6, .g6, .g6], 0⟩]
def mX1 : AV := .tup [.vec 20 [.int .i64 3, .str ⟨#[109, 117, 116, 101, 120]⟩, .int .i64 0, .int .i64 0, .int .i64 1, .str ⟨#[97]⟩, .int .i64 0, .int .i64 6, .int .i64 4, .str ⟨#[59]⟩, .int .i64 0, .int .i64 7, .int .i64 3, .str ⟨#[109, 117, 116, 101, 120]⟩, .int .i64 0, .int .i64 9, .int .i64 1, .str ⟨#[98]⟩, .int .i64 0, .int .i64 15, .int .i64 4, .str ⟨#[59]⟩, .int .i64 0, .int .i64 16, .int .i64 3, .str ⟨#[102, 117, 110, 99]⟩, .int .i64 0, .int .i64 18, .int .i64 1, .str ⟨#[109, 97, 105, 110]⟩, .int .i64 0, .int .i64 23, .int .i64 4, .str ⟨#[40]⟩, .int .i64 0, .int .i64 27, .int .i64 4, .str ⟨#[41]⟩, .int .i64 0, .int .i64 28, .int .i64 4, .str ⟨#[123]⟩, .int .i64 0, .int .i64 30, .int .i64 3, .str ⟨#[119, 104, 105, 108, 101]⟩, .int .i64 0, .int .i64 32, .int .i64 2, .str ⟨#[49]⟩, .int .i64 1, .int .i64 38, .int .i64 4, .str ⟨#[123]⟩, .int .i64 0, .int .i64 40, .int .i64 3, .str ⟨#[108, 111, 99, 107]⟩, .int .i64 0, .int .i64 42, .int .i64 1, .str ⟨#[97]⟩, .int .i64 0, .int .i64 47, .int .i64 4, .str ⟨#[59]⟩, .int .i64 0, .int .i64 48, .int .i64 4, .str ⟨#[125]⟩, .int .i64 0, .int .i64 50, .int .i64 4, .str ⟨#[125]⟩, .int .i64 0, .int .i64 52, .int .i64 5, .str ⟨#[]⟩, .int .i64 0, .int .i64 53], .int .i64 53, .int .i64 0]
def mK1 : c6 := [⟨1, true, 0, 0, [], 0⟩, ⟨0, false, 27, 3, [.g6, .g6, .g6], 0⟩]
theorem m1 : ET cfg fV (xR QJ sZ) 50 mA1 mH1 = some (mX1, mK1) := by kernel_rfl
def QK : R6 := (50, mA1, mH1, mX1, mK1) :: QJ
theorem M3 : kY Try.prog cfg QK := kZ (mM z7 eH (lQ M1 jJ)) m1 M1
def mA2 : List AV := [.vec 53 [.int .u8 109, .int .u8 117, .int .u8 116, .int .u8 101, .int .u8 120, .int .u8 32, .int .u8 97, .int .u8 59, .int .u8 32, .int .u8 109, .int .u8 117, .int .u8 116, .int .u8 101, .int .u8 120, .int .u8 32, .int .u8 98, .int .u8 59, .int .u8 32, .int .u8 102, .int .u8 117, .int .u8 110, .int .u8 99, .int .u8 32, .int .u8 109, .int .u8 97, .int .u8 105, .int .u8 110, .int .u8 40, .int .u8 41, .int .u8 32, .int .u8 123, .int .u8 32, .int .u8 119, .int .u8 104, .int .u8 105, .int .u8 108, .int .u8 101, .int .u8 32, .int .u8 49, .int .u8 32, .int .u8 123, .int .u8 32, .int .u8 108, .int .u8 111, .int .u8 99, .int .u8 107, .int .u8 32, .int .u8 97, .int .u8 59, .int .u8 32, .int .u8 125, .int .u8 32, .int .u8 125]]
def mH2 : c6 := [⟨1, true, 0, 0, [], 0⟩]
def mX2 : AV := .tup [.agg [.vec 0 [], .vec 2 [.str ⟨#[97]⟩, .bool false, .int .i64 0, .str ⟨#[98]⟩, .bool false, .int .i64 0], .vec 1 [.str ⟨#[109, 97, 105, 110]⟩, .vec 0 [], .vec 1 [.int .i64 8, .str ⟨#[]⟩, .int .i64 1, .int .i64 1, .str ⟨#[]⟩, .vec 0 [], .str ⟨#[]⟩, .vec 0 [], .vec 0 [], .vec 1 [.int .i64 5, .str ⟨#[]⟩, .int .i64 0, .int .i64 0, .str ⟨#[]⟩, .vec 0 [], .str ⟨#[97]⟩, .vec 0 [], .vec 0 [], .vec 0 [], .vec 0 []], .vec 0 []]]], .int .i64 53, .int .i64 0]
def mK2 : c6 := [⟨1, true, 0, 0, [], 0⟩]
theorem m2 : ET cfg fV (xR QK sZ) 35 mA2 mH2 = some (mX2, mK2) := by kernel_rfl
def QL : R6 := (35, mA2, mH2, mX2, mK2) :: QK
theorem M4 : kY Try.prog cfg QL := kZ (mM z7 eH (lQ M3 jJ)) m2 M3
def mA3 : List AV := [.vec 58 [.int .u8 109, .int .u8 117, .int .u8 116, .int .u8 101, .int .u8 120, .int .u8 32, .int .u8 97, .int .u8 59, .int .u8 10, .int .u8 109, .int .u8 117, .int .u8 116, .int .u8 101, .int .u8 120, .int .u8 32, .int .u8 98, .int .u8 59, .int .u8 10, .int .u8 102, .int .u8 117, .int .u8 110, .int .u8 99, .int .u8 32, .int .u8 109, .int .u8 97, .int .u8 105, .int .u8 110, .int .u8 40, .int .u8 41, .int .u8 32, .int .u8 123, .int .u8 10, .int .u8 9, .int .u8 119, .int .u8 104, .int .u8 105, .int .u8 108, .int .u8 101, .int .u8 32, .int .u8 49, .int .u8 32, .int .u8 123, .int .u8 10, .int .u8 9, .int .u8 9, .int .u8 108, .int .u8 111, .int .u8 99, .int .u8 107, .int .u8 32, .int .u8 97, .int .u8 59, .int .u8 10, .int .u8 9, .int .u8 125, .int .u8 10, .int .u8 125, .int .u8 10]]
def mH3 : c6 := [⟨1, true, 0, 0, [], 0⟩, ⟨0, false, 27, 3, [.vec 0 [], .vec 2 [.str ⟨#[97]⟩, .bool false, .int .i64 0, .str ⟨#[98]⟩, .bool false, .int .i64 0], .vec 1 [.str ⟨#[109, 97, 105, 110]⟩, .vec 0 [], .vec 1 [.int .i64 8, .str ⟨#[]⟩, .int .i64 1, .int .i64 1, .str ⟨#[]⟩, .vec 0 [], .str ⟨#[]⟩, .vec 0 [], .vec 0 [], .vec 1 [.int .i64 5, .str ⟨#[]⟩, .int .i64 0, .int .i64 0, .str ⟨#[]⟩, .vec 0 [], .str ⟨#[97]⟩, .vec 0 [], .vec 0 [], .vec 0 [], .vec 0 []], .vec 0 []]]], 0⟩, ⟨0, false, 27, 3, [.vec 0 [], .vec 2 [.str ⟨#[97]⟩, .bool false, .int .i64 0, .str ⟨#[98]⟩, .bool false, .int .i64 0], .vec 1 [.str ⟨#[109, 97, 105, 110]⟩, .vec 0 [], .vec 1 [.int .i64 8, .str ⟨#[]⟩, .int .i64 1, .int .i64 1, .str ⟨#[]⟩, .vec 0 [], .str ⟨#[]⟩, .vec 0 [], .vec 0 [], .vec 1 [.int .i64 5, .str ⟨#[]⟩, .int .i64 0, .int .i64 0, .str ⟨#[]⟩, .vec 0 [], .str ⟨#[97]⟩, .vec 0 [], .vec 0 [], .vec 0 [], .vec 0 []], .vec 0 []]]], 0⟩, ⟨0, false, 30, 4, [.g6, .g6, .g6, .int .i64 0], 0⟩, ⟨0, false, 27, 3, [.vec 0 [], .vec 2 [.str ⟨#[97]⟩, .bool false, .int .i64 0, .str ⟨#[98]⟩, .bool false, .int .i64 0], .vec 1 [.str ⟨#[109, 97, 105, 110]⟩, .vec 0 [], .vec 1 [.int .i64 8, .str ⟨#[]⟩, .int .i64 1, .int .i64 1, .str ⟨#[]⟩, .vec 0 [], .str ⟨#[]⟩, .vec 0 [], .vec 0 [], .vec 1 [.int .i64 5, .str ⟨#[]⟩, .int .i64 0, .int .i64 0, .str ⟨#[]⟩, .vec 0 [], .str ⟨#[97]⟩, .vec 0 [], .vec 0 [], .vec 0 [], .vec 0 []], .vec 0 []]]], 0⟩, ⟨0, false, 78, 3, [.str ⟨#[97]⟩, .bool false, .int .i64 0], 0⟩, ⟨0, false, 78, 3, [.str ⟨#[98]⟩, .bool false, .int .i64 0], 0⟩, ⟨0, false, 104, 3, [.str ⟨#[109, 97, 105, 110]⟩, .vec 0 [], .vec 1 [.int .i64 8, .str ⟨#[]⟩, .int .i64 1, .int .i64 1, .str ⟨#[]⟩, .vec 0 [], .str ⟨#[]⟩, .vec 0 [], .vec 0 [], .vec 1 [.int .i64 5, .str ⟨#[]⟩, .int .i64 0, .int .i64 0, .str ⟨#[]⟩, .vec 0 [], .str ⟨#[97]⟩, .vec 0 [], .vec 0 [], .vec 0 [], .vec 0 []], .vec 0 []]], 0⟩]
def mX3 : AV := .tup [.vec 20 [.int .i64 3, .str ⟨#[109, 117, 116, 101, 120]⟩, .int .i64 0, .int .i64 0, .int .i64 1, .str ⟨#[97]⟩, .int .i64 0, .int .i64 6, .int .i64 4, .str ⟨#[59]⟩, .int .i64 0, .int .i64 7, .int .i64 3, .str ⟨#[109, 117, 116, 101, 120]⟩, .int .i64 0, .int .i64 9, .int .i64 1, .str ⟨#[98]⟩, .int .i64 0, .int .i64 15, .int .i64 4, .str ⟨#[59]⟩, .int .i64 0, .int .i64 16, .int .i64 3, .str ⟨#[102, 117, 110, 99]⟩, .int .i64 0, .int .i64 18, .int .i64 1, .str ⟨#[109, 97, 105, 110]⟩, .int .i64 0, .int .i64 23, .int .i64 4, .str ⟨#[40]⟩, .int .i64 0, .int .i64 27, .int .i64 4, .str ⟨#[41]⟩, .int .i64 0, .int .i64 28, .int .i64 4, .str ⟨#[123]⟩, .int .i64 0, .int .i64 30, .int .i64 3, .str ⟨#[119, 104, 105, 108, 101]⟩, .int .i64 0, .int .i64 33, .int .i64 2, .str ⟨#[49]⟩, .int .i64 1, .int .i64 39, .int .i64 4, .str ⟨#[123]⟩, .int .i64 0, .int .i64 41, .int .i64 3, .str ⟨#[108, 111, 99, 107]⟩, .int .i64 0, .int .i64 45, .int .i64 1, .str ⟨#[97]⟩, .int .i64 0, .int .i64 50, .int .i64 4, .str ⟨#[59]⟩, .int .i64 0, .int .i64 51, .int .i64 4, .str ⟨#[125]⟩, .int .i64 0, .int .i64 54, .int .i64 4, .str ⟨#[125]⟩, .int .i64 0, .int .i64 56, .int .i64 5, .str ⟨#[]⟩, .int .i64 0, .int .i64 58], .int .i64 58, .int .i64 0]
def mK3 : c6 := [⟨1, true, 0, 0, [], 0⟩, ⟨0, false, 27, 3, [.vec 0 [], .vec 2 [.str ⟨#[97]⟩, .bool false, .int .i64 0, .str ⟨#[98]⟩, .bool false, .int .i64 0], .vec 1 [.str ⟨#[109, 97, 105, 110]⟩, .vec 0 [], .vec 1 [.int .i64 8, .str ⟨#[]⟩, .int .i64 1, .int .i64 1, .str ⟨#[]⟩, .vec 0 [], .str ⟨#[]⟩, .vec 0 [], .vec 0 [], .vec 1 [.int .i64 5, .str ⟨#[]⟩, .int .i64 0, .int .i64 0, .str ⟨#[]⟩, .vec 0 [], .str ⟨#[97]⟩, .vec 0 [], .vec 0 [], .vec 0 [], .vec 0 []], .vec 0 []]]], 0⟩, ⟨0, false, 27, 3, [.vec 0 [], .vec 2 [.str ⟨#[97]⟩, .bool false, .int .i64 0, .str ⟨#[98]⟩, .bool false, .int .i64 0], .vec 1 [.str ⟨#[109, 97, 105, 110]⟩, .vec 0 [], .vec 1 [.int .i64 8, .str ⟨#[]⟩, .int .i64 1, .int .i64 1, .str ⟨#[]⟩, .vec 0 [], .str ⟨#[]⟩, .vec 0 [], .vec 0 [], .vec 1 [.int .i64 5, .str ⟨#[]⟩, .int .i64 0, .int .i64 0, .str ⟨#[]⟩, .vec 0 [], .str ⟨#[97]⟩, .vec 0 [], .vec 0 [], .vec 0 [], .vec 0 []], .vec 0 []]]], 0⟩, ⟨0, false, 30, 4, [.g6, .g6, .g6, .int .i64 0], 0⟩, ⟨0, false, 27, 3, [.vec 0 [], .vec 2 [.str ⟨#[97]⟩, .bool false, .int .i64 0, .str ⟨#[98]⟩, .bool false, .int .i64 0], .vec 1 [.str ⟨#[109, 97, 105, 110]⟩, .vec 0 [], .vec 1 [.int .i64 8, .str ⟨#[]⟩, .int .i64 1, .int .i64 1, .str ⟨#[]⟩, .vec 0 [], .str ⟨#[]⟩, .vec 0 [], .vec 0 [], .vec 1 [.int .i64 5, .str ⟨#[]⟩, .int .i64 0, .int .i64 0, .str ⟨#[]⟩, .vec 0 [], .str ⟨#[97]⟩, .vec 0 [], .vec 0 [], .vec 0 [], .vec 0 []], .vec 0 []]]], 0⟩, ⟨0, false, 78, 3, [.str ⟨#[97]⟩, .bool false, .int .i64 0], 0⟩, ⟨0, false, 78, 3, [.str ⟨#[98]⟩, .bool false, .int .i64 0], 0⟩, ⟨0, false, 104, 3, [.str ⟨#[109, 97, 105, 110]⟩, .vec 0 [], .vec 1 [.int .i64 8, .str ⟨#[]⟩, .int .i64 1, .int .i64 1, .str ⟨#[]⟩, .vec 0 [], .str ⟨#[]⟩, .vec 0 [], .vec 0 [], .vec 1 [.int .i64 5, .str ⟨#[]⟩, .int .i64 0, .int .i64 0, .str ⟨#[]⟩, .vec 0 [], .str ⟨#[97]⟩, .vec 0 [], .vec 0 [], .vec 0 [], .vec 0 []], .vec 0 []]], 0⟩]
theorem m3 : ET cfg fV (xR QL sZ) 50 mA3 mH3 = some (mX3, mK3) := by kernel_rfl
def QM : R6 := (50, mA3, mH3, mX3, mK3) :: QL
theorem M5 : kY Try.prog cfg QM := kZ (mM z7 eH (lQ M4 jJ)) m3 M4
def mA4 : List AV := [.agg [.vec 0 [], .vec 2 [.str ⟨#[97]⟩, .bool false, .int .i64 0, .str ⟨#[98]⟩, .bool false, .int .i64 0], .vec 1 [.str ⟨#[109, 97, 105, 110]⟩, .vec 0 [], .vec 1 [.int .i64 8, .str ⟨#[]⟩, .int .i64 1, .int .i64 1, .str ⟨#[]⟩, .vec 0 [], .str ⟨#[]⟩, .vec 0 [], .vec 0 [], .vec 1 [.int .i64 5, .str ⟨#[]⟩, .int .i64 0, .int .i64 0, .str ⟨#[]⟩, .vec 0 [], .str ⟨#[97]⟩, .vec 0 [], .vec 0 [], .vec 0 [], .vec 0 []], .vec 0 []]]]]
def mH4 : c6 := [⟨1, true, 0, 0, [], 0⟩, ⟨0, false, 27, 3, [.vec 0 [], .vec 2 [.str ⟨#[97]⟩, .bool false, .int .i64 0, .str ⟨#[98]⟩, .bool false, .int .i64 0], .vec 1 [.str ⟨#[109, 97, 105, 110]⟩, .vec 0 [], .vec 1 [.int .i64 8, .str ⟨#[]⟩, .int .i64 1, .int .i64 1, .str ⟨#[]⟩, .vec 0 [], .str ⟨#[]⟩, .vec 0 [], .vec 0 [], .vec 1 [.int .i64 5, .str ⟨#[]⟩, .int .i64 0, .int .i64 0, .str ⟨#[]⟩, .vec 0 [], .str ⟨#[97]⟩, .vec 0 [], .vec 0 [], .vec 0 [], .vec 0 []], .vec 0 []]]], 0⟩, ⟨0, false, 27, 3, [.vec 0 [], .vec 2 [.str ⟨#[97]⟩, .bool false, .int .i64 0, .str ⟨#[98]⟩, .bool false, .int .i64 0], .vec 1 [.str ⟨#[109, 97, 105, 110]⟩, .vec 0 [], .vec 1 [.int .i64 8, .str ⟨#[]⟩, .int .i64 1, .int .i64 1, .str ⟨#[]⟩, .vec 0 [], .str ⟨#[]⟩, .vec 0 [], .vec 0 [], .vec 1 [.int .i64 5, .str ⟨#[]⟩, .int .i64 0, .int .i64 0, .str ⟨#[]⟩, .vec 0 [], .str ⟨#[97]⟩, .vec 0 [], .vec 0 [], .vec 0 [], .vec 0 []], .vec 0 []]]], 0⟩, ⟨0, false, 30, 4, [.g6, .g6, .g6, .int .i64 0], 0⟩]
def mX4 : AV := .bool true
def mK4 : c6 := [⟨1, true, 0, 0, [], 0⟩, ⟨0, false, 27, 3, [.vec 0 [], .vec 2 [.str ⟨#[97]⟩, .bool false, .int .i64 0, .str ⟨#[98]⟩, .bool false, .int .i64 0], .vec 1 [.str ⟨#[109, 97, 105, 110]⟩, .vec 0 [], .vec 1 [.int .i64 8, .str ⟨#[]⟩, .int .i64 1, .int .i64 1, .str ⟨#[]⟩, .vec 0 [], .str ⟨#[]⟩, .vec 0 [], .vec 0 [], .vec 1 [.int .i64 5, .str ⟨#[]⟩, .int .i64 0, .int .i64 0, .str ⟨#[]⟩, .vec 0 [], .str ⟨#[97]⟩, .vec 0 [], .vec 0 [], .vec 0 [], .vec 0 []], .vec 0 []]]], 0⟩, ⟨0, false, 27, 3, [.vec 0 [], .vec 2 [.str ⟨#[97]⟩, .bool false, .int .i64 0, .str ⟨#[98]⟩, .bool false, .int .i64 0], .vec 1 [.str ⟨#[109, 97, 105, 110]⟩, .vec 0 [], .vec 1 [.int .i64 8, .str ⟨#[]⟩, .int .i64 1, .int .i64 1, .str ⟨#[]⟩, .vec 0 [], .str ⟨#[]⟩, .vec 0 [], .vec 0 [], .vec 1 [.int .i64 5, .str ⟨#[]⟩, .int .i64 0, .int .i64 0, .str ⟨#[]⟩, .vec 0 [], .str ⟨#[97]⟩, .vec 0 [], .vec 0 [], .vec 0 [], .vec 0 []], .vec 0 []]]], 0⟩, ⟨0, false, 30, 4, [.g6, .g6, .g6, .int .i64 0], 0⟩]
theorem m4 : ET cfg fV (xR QM sZ) 43 mA4 mH4 = some (mX4, mK4) := by kernel_rfl
def QN : R6 := (43, mA4, mH4, mX4, mK4) :: QM
theorem M6 : kY Try.prog cfg QN := kZ (mM z7 eH (lQ M5 jJ)) m4 M5
def mA5 : List AV := [.agg [.vec 0 [], .vec 2 [.str ⟨#[97]⟩, .bool false, .int .i64 0, .str ⟨#[98]⟩, .bool false, .int .i64 0], .vec 1 [.str ⟨#[109, 97, 105, 110]⟩, .vec 0 [], .vec 1 [.int .i64 8, .str ⟨#[]⟩, .int .i64 1, .int .i64 1, .str ⟨#[]⟩, .vec 0 [], .str ⟨#[]⟩, .vec 0 [], .vec 0 [], .vec 1 [.int .i64 5, .str ⟨#[]⟩, .int .i64 0, .int .i64 0, .str ⟨#[]⟩, .vec 0 [], .str ⟨#[97]⟩, .vec 0 [], .vec 0 [], .vec 0 [], .vec 0 []], .vec 0 []]]]]
def mH5 : c6 := [⟨1, true, 0, 0, [], 0⟩, ⟨0, false, 27, 3, [.vec 0 [], .vec 2 [.str ⟨#[97]⟩, .bool false, .int .i64 0, .str ⟨#[98]⟩, .bool false, .int .i64 0], .vec 1 [.str ⟨#[109, 97, 105, 110]⟩, .vec 0 [], .vec 1 [.int .i64 8, .str ⟨#[]⟩, .int .i64 1, .int .i64 1, .str ⟨#[]⟩, .vec 0 [], .str ⟨#[]⟩, .vec 0 [], .vec 0 [], .vec 1 [.int .i64 5, .str ⟨#[]⟩, .int .i64 0, .int .i64 0, .str ⟨#[]⟩, .vec 0 [], .str ⟨#[97]⟩, .vec 0 [], .vec 0 [], .vec 0 [], .vec 0 []], .vec 0 []]]], 0⟩]
def mX5 : AV := .tup [.agg [.vec 0 [], .vec 2 [.str ⟨#[97]⟩, .bool false, .int .i64 0, .str ⟨#[98]⟩, .bool false, .int .i64 0], .vec 1 [.str ⟨#[109, 97, 105, 110]⟩, .int .i64 0, .int .i64 0, .int .i64 0, .vec 4 [.int .i64 6, .int .i64 3, .bool false, .int .i64 1, .int .i64 1, .str ⟨#[]⟩, .vec 0 [], .bool false, .int .i64 0, .vec 0 [], .vec 0 [], .vec 0 [], .int .i64 4, .int .i64 0, .bool false, .int .i64 0, .int .i64 0, .str ⟨#[]⟩, .vec 0 [], .bool false, .int .i64 0, .vec 0 [], .vec 0 [], .vec 0 [], .int .i64 7, .int .i64 0, .bool false, .int .i64 0, .int .i64 0, .str ⟨#[]⟩, .vec 0 [], .bool false, .int .i64 0, .vec 0 [], .vec 0 [], .vec 0 [], .int .i64 8, .int .i64 0, .bool false, .int .i64 0, .int .i64 0, .str ⟨#[]⟩, .vec 0 [], .bool false, .int .i64 0, .vec 0 [], .vec 0 [], .vec 0 []]], .int .i64 0], .int .i64 0, .int .i64 0, .int .i64 0]
def mK5 : c6 := [⟨1, true, 0, 0, [], 0⟩, ⟨0, false, 27, 3, [.vec 0 [], .vec 2 [.str ⟨#[97]⟩, .bool false, .int .i64 0, .str ⟨#[98]⟩, .bool false, .int .i64 0], .vec 1 [.str ⟨#[109, 97, 105, 110]⟩, .vec 0 [], .vec 1 [.int .i64 8, .str ⟨#[]⟩, .int .i64 1, .int .i64 1, .str ⟨#[]⟩, .vec 0 [], .str ⟨#[]⟩, .vec 0 [], .vec 0 [], .vec 1 [.int .i64 5, .str ⟨#[]⟩, .int .i64 0, .int .i64 0, .str ⟨#[]⟩, .vec 0 [], .str ⟨#[97]⟩, .vec 0 [], .vec 0 [], .vec 0 [], .vec 0 []], .vec 0 []]]], 0⟩]
theorem m5 : ET cfg fV (xR QN sZ) 25 mA5 mH5 = some (mX5, mK5) := by kernel_rfl
def memo5 : R6 := (25, mA5, mH5, mX5, mK5) :: QN
theorem JM : kY Try.prog cfg memo5 := kZ (mM z7 eH (lQ M6 jJ)) m5 M6
theorem JN : ET cfg fV (xR memo5 sZ) 17 [] [] = some (.bool true, []) := by kernel_rfl
theorem kD (h : c6) : CallA Try.prog cfg 17 [] h fun y h' => y = .bool true ∧ h' = h := CallA.frame0 rfl (mM z7 eH (lQ JM jJ) _ _ _ _ _ JN) h
end Go.Proofs.Ytbmaijdkebjnhaa
end
section
namespace Go.Proofs.Ytbmaijdkebjnhaa
open Go.Ab Go.Un
theorem tA {h : c6} {u : Un} {c : Clo} (hu : WU u) (wc : WC u c) (x y : Int) : CallA Try.prog cfg 10 [.agg [.vec u.globals.length (l6 u.globals), .vec u.c4.length (j6 u.c4), .vec u.procs.length (s5 u.procs), .int .i64 u.main], .agg [.vec c.insts.length (aJ c.insts), .vec c.calls.length (dE c.calls), .vec c.roots.length (l6 c.roots)], .int .i64 x, .int .i64 y] h (fun y' h' => (∃ i pc : Nat, i < c.insts.length ∧ pc < (c9 u (c.insts.getD i g7)).length ∧ y' = .tup [.int .i64 ((i : Nat) : Int), .int .i64 ((pc : Nat) : Int)]) ∧ h' = h) := by
  refine (c_site hu wc x y).mono fun y' h' hq => ⟨?_, hq.2⟩
  have hl := wc.len
  have hw1 := @lC x c.insts.length (by omega)
  have hw2 := @lD x c.insts.length (by omega)
  obtain ⟨i, hi⟩ : ∃ i : Nat, within x c.insts.length = (i : Int) := ⟨(within x c.insts.length).toNat, by omega⟩
  rw [hi] at hq hw2
  have hwi : WIt u (c.insts.getD i g7) := wc.wi _ (l7 (by omega))
  have hc1 := (lB hu hwi).1
  have hv1 := @lC y (c9 u (c.insts.getD i g7)).length (by omega)
  have hv2 := @lD y (c9 u (c.insts.getD i g7)).length (by omega)
  simp only [Int.toNat_natCast] at hq
  obtain ⟨k, hk⟩ : ∃ k : Nat, within y (c9 u (c.insts.getD i g7)).length = (k : Int) := ⟨(within y (c9 u (c.insts.getD i g7)).length).toNat, by omega⟩
  rw [hk] at hq hv2
  exact ⟨i, k, by omega, by omega, hq.1⟩
theorem tB {h : c6} (x : Int) {n : Nat} (h0 : 0 < n) (h1 : n < 1000000) : CallA Try.prog cfg 11 [.int .i64 x, .int .i64 ((n : Nat) : Int)] h (fun y' h' => (∃ k : Nat, k < n ∧ y' = .int .i64 ((k : Nat) : Int)) ∧ h' = h) := by
  refine (qR x (n : Int) (by omega) (by omega)).mono fun y' h' hq => ⟨?_, hq.2⟩
  have hw1 := @lC x (n : Int) (by omega)
  have hw2 := @lD x (n : Int) (by omega)
  refine ⟨(within x (n : Int)).toNat, by omega, ?_⟩
  rw [hq.1, Int.toNat_of_nonneg hw1]
theorem DC {h : c6} (a : List Int) (hl : a.length < 1000000) : CallA Try.prog cfg 14 [.vec a.length (l6 a), .vec a.length (l6 a)] h (fun y' h' => y' = .bool true ∧ h' = h) := by
  have := KW (h := h) a a hl
  rw [decide_eq_true rfl] at this
  exact this
theorem DD {h : c6} {x : Ins} {pc : Nat} : CallA Try.prog cfg 14 [iZ x pc, iZ x pc] h (fun y' h' => y' = .bool true ∧ h' = h) :=
  DC _ (by have := oG (x := x) (pc := pc); omega)
theorem LK {it : u6} {x : Ins} {m : Int} : chI it x m ≠ 0 ↔ lkI x ∧ mE it x.pl = m := by
  unfold chI lkI
  split
  · rename_i h; exact ⟨fun _ => ⟨.inl h.1, h.2⟩, fun _ => by omega⟩
  · split
    · rename_i h; exact ⟨fun _ => ⟨.inr h.1, h.2⟩, fun _ => by omega⟩
    · rename_i h1 h2
      exact ⟨fun h => absurd rfl h, fun ⟨h3, h4⟩ => (h3.elim (fun h3 => (h1 ⟨h3, h4⟩).elim) (fun h3 => (h2 ⟨h3, h4⟩).elim))⟩
def zJ (it : u6) (x : Ins) (i : Nat) (n l : Int) : Prop := ((lkI x ∧ mE it x.pl < i) → n = 1 ∧ l = mE it x.pl) ∧ (¬ (lkI x ∧ mE it x.pl < i) → n = 0)
theorem zJ.zero {it : u6} {x : Ins} {l : Int} (h : 0 ≤ mE it x.pl) : zJ it x 0 0 l := ⟨fun h1 => by have := h1.2; omega, fun _ => rfl⟩
theorem zJ.yes {it : u6} {x : Ins} {i : Nat} {n l : Int} (h : zJ it x i n l) (hc : chI it x (i : Int) ≠ 0) : zJ it x (i + 1) (n + 1) (i : Int) := by
  obtain ⟨h1, h2⟩ := LK.1 hc
  have h3 := h.2 (fun h => by have := h.2; omega)
  exact ⟨fun _ => ⟨by omega, h2.symm⟩, fun h4 => absurd ⟨h1, by omega⟩ h4⟩
theorem zJ.no {it : u6} {x : Ins} {i : Nat} {n l : Int} (h : zJ it x i n l) (hc : chI it x (i : Int) = 0) : zJ it x (i + 1) n l := by
  have h1 : ¬ (lkI x ∧ mE it x.pl = i) := fun h2 => absurd hc (LK.2 h2)
  refine ⟨fun h2 => h.1 ⟨h2.1, ?_⟩, fun h2 => h.2 fun h3 => h2 ⟨h3.1, by have := h3.2; omega⟩⟩
  have h3 := h2.2
  have h4 : ¬ mE it x.pl = i := fun e => h1 ⟨h2.1, e⟩
  omega
theorem zJ.zero' {u : Un} (hu : WU u) {it : u6} (w : WIt u it) {pc : Nat} (hpc : pc < (c9 u it).length) {l : Int} : zJ it ((c9 u it).getD pc g9) 0 0 l :=
  ⟨fun h1 => by have := (KY hu w hpc h1.1).1; have := h1.2; omega, fun _ => rfl⟩
theorem zJ.small {it : u6} {x : Ins} {i : Nat} {n l : Int} (h : zJ it x i n l) : 0 ≤ n ∧ n < 1000000 := by
  by_cases h1 : lkI x ∧ mE it x.pl < i
  · have := (h.1 h1).1; omega
  · have := h.2 h1; omega
theorem zJ.done {u : Un} (hu : WU u) {it : u6} (w : WIt u it) {pc : Nat} (hpc : pc < (c9 u it).length) {n l : Int} (h : zJ it ((c9 u it).getD pc g9) u.c4.length n l) : (lkI ((c9 u it).getD pc g9) → n = 1 ∧ l = mE it ((c9 u it).getD pc g9).pl) ∧ (¬ lkI ((c9 u it).getD pc g9) → n = 0) :=
  ⟨fun h1 => h.1 ⟨h1, (KY hu w hpc h1).2⟩, fun h1 => h.2 fun h2 => h1 h2.1⟩
theorem next_8' {x : Ins} {pc : Nat} (h : (((((eV x pc).length : Nat) : Int) == 0) == (x.op == 8)) = false) : False := by
  by_cases h8 : x.op = 8
  · rw [eV, if_pos h8, h8] at h
    exact absurd h (by decide)
  · have h1 := CN (pc := pc) h8
    rw [show ((((eV x pc).length : Nat) : Int) == 0) = false from by simp only [beq_eq_false_iff_ne]; omega, show (x.op == 8) = false from by simpa using h8] at h
    exact absurd h (by decide)
theorem M7 {u : Un} {a b : u6} (h : a.proc = b.proc) : c9 u b = c9 u a := by unfold c9; rw [h]
theorem c_nextG {h : c6} {u : Un} (hu : WU u) {a b : u6} (w : WIt u a) (w' : WIt u b) (hp : a.proc = b.proc) {pc : Nat} (hpc : pc < (c9 u a).length) : CallA Try.prog cfg 18 [.agg [.vec u.globals.length (l6 u.globals), .vec u.c4.length (j6 u.c4), .vec u.procs.length (s5 u.procs), .int .i64 u.main], .agg [.int .i64 b.proc, .vec b.l4.length (l6 b.l4)], .int .i64 ((pc : Nat) : Int)] h (fun y' h' => y' = iZ ((c9 u a).getD pc g9) pc ∧ h' = h) := by
  rw [← M7 (u := u) hp] at hpc ⊢
  exact wR hu w' hpc
theorem DE {h : c6} {u : Un} (hu : WU u) {a b : u6} (w : WIt u a) (w' : WIt u b) (hp : a.proc = b.proc) {pc : Nat} (hpc : pc < (c9 u a).length) (hpar : ((c9 u a).getD pc g9).pl.param = false) (m : Int) : CallA Try.prog cfg 12 [.agg [.vec u.globals.length (l6 u.globals), .vec u.c4.length (j6 u.c4), .vec u.procs.length (s5 u.procs), .int .i64 u.main], .agg [.int .i64 b.proc, .vec b.l4.length (l6 b.l4)], .int .i64 ((pc : Nat) : Int), .int .i64 m] h (fun y' h' => y' = .int .i64 (chI a ((c9 u a).getD pc g9) m) ∧ h' = h) := by
  have e : chI a ((c9 u a).getD pc g9) m = chI b ((c9 u a).getD pc g9) m := by
    unfold chI mE
    rw [hpar]
    rfl
  rw [e]
  rw [← M7 (u := u) hp] at hpc ⊢
  exact oH hu w' hpc m
theorem DF {c : Clo} {i : Nat} (hi : i < c.insts.length) : List.take 2 (List.drop (i * 2) (aJ c.insts)) = [.int .i64 (c.insts.getD i g7).proc, .vec (c.insts.getD i g7).l4.length (l6 (c.insts.getD i g7).l4)] := oE hi
theorem DH {c : Clo} {i : Nat} (hi : i < c.insts.length) : List.take 1 (List.drop (i * 2) (aJ c.insts)) = [.int .i64 (c.insts.getD i g7).proc] := oD hi
attribute [local go_sem] rd cR fE cC s9 n5 Int.natCast_nonneg Int.natCast_inj DH lJ DF L2 zC wP wrap64 beq_self_eq_true
theorem c_law3 (L : List Int) (hL : L.length < 4611686018427387904) (x y m : Int) : CallA Try.prog cfg 3 [.vec L.length (l6 L), .int .i64 x, .int .i64 y, .int .i64 m] [] (fun y' h' => y' = .bool true ∧ h' = []) := by
  refine .b fn3 ntm3 ?_
  refine c96z ?_
  refine l5.cx rfl rfl hb9 (zH L hL) (fun y1 h1 hq1 => ?_)
  obtain ⟨⟨p, u, c, gp, hu, wc, rfl⟩, rfl⟩ := hq1
  have hml := hu.ml
  simp only [yC]
  refine c77z ?_
  refine .c7 [1, 2, 3, 10, 11] ?_
  refine c24z ?_
  refine l5.cx rfl rfl RW (tA hu wc x y) (fun y1 h1 hq1 => ?_)
  obtain ⟨⟨i, pc, hi, hpc, rfl⟩, rfl⟩ := hq1
  have w : WIt u (c.insts.getD i g7) := wc.wi _ (l7 hi)
  have w1 := w.lo; have w2 := w.hi
  refine .n ?_
  refine .c7 [3, 10, 11, 12, 13] ?_
  refine c24z ?_
  refine l5.cx rfl rfl hb11 (tB _ (by omega) (by omega)) (fun y1 h1 hq1 => ?_)
  obtain ⟨⟨k, hk, rfl⟩, rfl⟩ := hq1
  refine .n ?_
  refine .ss z7 (mkP 44 [0, 0, 2, 0, 14, 30, 0, 0, 255, 0, 0, 1024, 0, 7168, 15360, 0, 0, 131071, 262143, 524287, 1048575, 1048575, 3145727, 1048575, 15728639, 32505855, 1048575, 1048575, 268435455, 1048575, 1048575, 1074790399, 1048575, 7517241343, 16107175935, 1048575, 1048575, 137438953471, 274877906943, 549755813887, 1099511627775, 2199023255551, 4398046511103, 8796093022207] []) ?_
  refine .k 8 [] ?_
  refine .ca rfl rfl (oH hu w hpc _) ?_
  refine .k 8 [] ?_
  refine .ca rfl rfl (zE hu w hpc _) ?_
  refine .k 8 [(19, 52)] ?_
  refine .k 2 [(19, 52)] ?_
  refine .ca rfl rfl (c_rel hu w hpc hk) ?_
  refine .k 8 [(19, 52)] ?_
  refine .ca rfl rfl (c_relR hu w hpc hk) ?_
  refine .ca rfl rfl (DC _ (by rw [D3]; have := D4 (m := (u.c4.getD k bL)); omega)) ?_
  refine .k 2 [] ?_
  refine .ca rfl rfl (kD _) ?_
  refine .n [] ?_
  exact .ret (.ex (hq := by rfl))
theorem c_law4 (L : List Int) (hL : L.length < 4611686018427387904) (x y : Int) : CallA Try.prog cfg 4 [.vec L.length (l6 L), .int .i64 x, .int .i64 y] [] (fun y' h' => y' = .bool true ∧ h' = []) := by
  refine .b fn4 ntm4 ?_
  refine c96z ?_
  refine l5.cx rfl rfl hb9 (zH L hL) (fun y1 h1 hq1 => ?_)
  obtain ⟨⟨p, u, c, gp, hu, wc, rfl⟩, rfl⟩ := hq1
  have hml := hu.ml
  simp only [yC]
  refine c77z ?_
  refine .c7 [1, 2, 8, 9] ?_
  refine c24z ?_
  refine l5.cx rfl rfl RW (tA hu wc x y) (fun y1 h1 hq1 => ?_)
  obtain ⟨⟨i, pc, hi, hpc, rfl⟩, rfl⟩ := hq1
  have w : WIt u (c.insts.getD i g7) := wc.wi _ (l7 hi)
  have w1 := w.lo; have w2 := w.hi
  refine .n ?_
  refine .c7 [8, 9, 10, 11] ?_
  refine .ss z7 (mkP 21 [0, 0, 2, 0, 14, 30, 0, 127, 0, 0, 512, 0, 3584, 7680, 0, 32767, 65535, 131071, 262143, 524287, 1048575] []) ?_
  refine .k 7 [] ?_
  refine .ca rfl rfl (wR hu w hpc) ?_
  refine .k 7 [] ?_
  refine .ca rfl rfl (c_nextR hu w hpc) ?_
  refine .ca rfl rfl (DD) ?_
  refine .k 1 [] ?_
  refine .ca rfl rfl (kD _) ?_
  refine .n [] ?_
  exact .ret (.ex (hq := by rfl))
theorem c_law5 (L : List Int) (hL : L.length < 4611686018427387904) (x y : Int) : CallA Try.prog cfg 5 [.vec L.length (l6 L), .int .i64 x, .int .i64 y] [] (fun y' h' => y' = .bool true ∧ h' = []) := by
  refine .b fn5 ntm5 ?_
  refine c96z ?_
  refine l5.cx rfl rfl hb9 (zH L hL) (fun y1 h1 hq1 => ?_)
  obtain ⟨⟨p, u, c, gp, hu, wc, rfl⟩, rfl⟩ := hq1
  have hml := hu.ml
  simp only [yC]
  refine c77z ?_
  refine .c7 [1, 2, 8, 9] ?_
  refine c24z ?_
  refine l5.cx rfl rfl RW (tA hu wc x y) (fun y1 h1 hq1 => ?_)
  obtain ⟨⟨i, pc, hi, hpc, rfl⟩, rfl⟩ := hq1
  have w : WIt u (c.insts.getD i g7) := wc.wi _ (l7 hi)
  have w1 := w.lo; have w2 := w.hi
  refine .n ?_
  refine .c7 [8, 9, 10, 11] ?_
  refine .sm z7 (mkP 16 [0, 1, 0, 4, 0, 28, 60, 124, 255, 511, 1023, 0, 4095, 8191, 0, 32767] [14, 15]) [0, 1, 2, 3, 4, 5, 6, 7, 8, 9, 10, 11, 12, 13] ?_
  refine cO.p (pd := []) 16 ?_
  refine cO.nil t8 ?_
  refine .c7 [8, 9, 10, 11, 12] ?_
  refine c22z ?_
  refine .iB (fun m st => ∃ (k : Nat) (n : Int) (l : Int), (m = u.c4.length - k ∧ (zJ (c.insts.getD i g7) ((c9 u (c.insts.getD i g7)).getD pc g9) k n l ∧ k ≤ u.c4.length)) ∧ st = ⟨mkS 94 [(8, AV.ptr 1 0 0), (9, AV.ptr 2 0 0), (10, AV.int .i64 ((i : Nat) : Int)), (11, AV.int .i64 ((pc : Nat) : Int)), (12, AV.ptr 3 0 0), (13, AV.int .i64 n), (14, AV.int .i64 l), (15, AV.int .i64 ((k : Nat) : Int))], [⟨0, false, 27, 3, [.vec p.globals.length (o7 p.globals), .vec p.c4.length (j6 p.c4), .vec p.funcs.length (n4 p.funcs)], 0⟩, ⟨0, false, 30, 4, [.vec u.globals.length (l6 u.globals), .vec u.c4.length (j6 u.c4), .vec u.procs.length (s5 u.procs), .int .i64 u.main], 0⟩, ⟨0, false, 34, 3, [.vec c.insts.length (aJ c.insts), .vec c.calls.length (dE c.calls), .vec c.roots.length (l6 c.roots)], 0⟩, ⟨0, false, 56, 12, [.int .i64 ((c9 u (c.insts.getD i g7)).getD pc g9).op, .int .i64 ((c9 u (c.insts.getD i g7)).getD pc g9).target, .bool ((c9 u (c.insts.getD i g7)).getD pc g9).global, .int .i64 ((c9 u (c.insts.getD i g7)).getD pc g9).e.op, .int .i64 ((c9 u (c.insts.getD i g7)).getD pc g9).e.num, .str ((c9 u (c.insts.getD i g7)).getD pc g9).e.name, .vec ((c9 u (c.insts.getD i g7)).getD pc g9).e.args.length (m7 ((c9 u (c.insts.getD i g7)).getD pc g9).e.args), .bool ((c9 u (c.insts.getD i g7)).getD pc g9).pl.param, .int .i64 ((c9 u (c.insts.getD i g7)).getD pc g9).pl.index, .vec ((c9 u (c.insts.getD i g7)).getD pc g9).pl.at'.length (m7 ((c9 u (c.insts.getD i g7)).getD pc g9).pl.at'), .vec ((c9 u (c.insts.getD i g7)).getD pc g9).ints.length (m7 ((c9 u (c.insts.getD i g7)).getD pc g9).ints), .vec ((c9 u (c.insts.getD i g7)).getD pc g9).y0.length (dD ((c9 u (c.insts.getD i g7)).getD pc g9).y0)], 0⟩]⟩) _ (.v ⟨0, 0, (-1), ⟨rfl, ⟨zJ.zero' hu w hpc, by omega⟩⟩, rfl⟩) ?_
  rintro m sl h' ⟨k, n, l, ⟨hm, ⟨hC, hk⟩⟩, hst⟩
  obtain ⟨rfl, rfl⟩ := St.mk.inj hst
  have hkk := hC.small
  refine c0z ?_
  refine .spl 48 rfl rfl (fun e1 => ?_) (fun e1 => ?_)
  ·try simp only [e1]
   have qe1 := fact e1
   refine c11z ?_
   refine .ss z7 (mkP 10 [0, 0, 2, 0, 14, 30, 0, 0, 255, 511] []) ?_
   refine .k 8 [] ?_
   refine .ca rfl rfl (oH hu w hpc _) ?_
   refine .n [] ?_
   refine .spl 60 rfl rfl (fun e2 => ?_) (fun e2 => ?_)
   ·try simp only [e2]
    have qe2 := fact e2
    refine .T ?_
    refine .c7 [8, 9, 10, 11, 12, 13, 15] ?_
    refine c32z ?_
    exact ⟨_, by omega, .v ⟨(k + 1), (n + 1), ((k : Nat) : Int), ⟨rfl, ⟨hC.yes (by assumption), by omega⟩⟩, rfl⟩⟩
   try simp only [e2]
   have qe2 := fact e2
   refine c13z ?_
   refine .c7 [8, 9, 10, 11, 12, 13, 14, 15] ?_
   refine .rz ?_
   exact ⟨_, by omega, .v ⟨(k + 1), n, l, ⟨rfl, ⟨hC.no (by omega), by omega⟩⟩, rfl⟩⟩
  try simp only [e1]
  have qe1 := fact e1
  refine c3z ?_
  obtain rfl : k = u.c4.length := by omega
  have hend := hC.done hu w hpc
  change c8 ..
  refine .seq ?_
  refine .c7 [9, 10, 12, 13, 14] ?_
  refine c24z ?_
  refine .spl 67 rfl rfl (fun e3 => ?_) (fun e3 => ?_)
  ·try simp only [e3]
   have qe3 := fact e3
   refine .m [(3, 67)] ?_
   refine .T ?_
   refine .c7 [9, 10, 12, 13, 14] ?_
   refine .ss z7 (mkP 18 [0, 1, 3, 7, 7, 23, 7, 119, 247, 7, 519, 2039, 4095, 8191, 16383, 32767, 65535, 131071] []) ?_
   refine .k 3 [] ?_
   refine .spl 74 rfl rfl (fun e4 => ?_) (fun e4 => by exfalso; have q := fact e4; first | exact absurd (hend.1 t88) (by omega) | exact absurd (hend.2 t88) (by omega))
   try simp only [e4]
   have qe4 := fact e4
   refine .k 8 [(2, 74)] ?_
   refine .ca rfl rfl (L4 (c.insts.getD i g7) ((c9 u (c.insts.getD i g7)).getD pc g9).pl (D5 hu w hpc (by omega))) ?_
   refine .k 3 [(2, 74)] ?_
   refine .spl 86 rfl rfl (fun e5 => ?_) (fun e5 => by exfalso; have q := fact e5; first | exact absurd (hend.1 t88) (by omega) | exact absurd (hend.2 t88) (by omega))
   try simp only [e5]
   have qe5 := fact e5
   refine .ca rfl rfl (kD _) ?_
   refine .n [] ?_
   exact .ret (.ex (hq := by rfl))
  try simp only [e3]
  have qe3 := fact e3
  refine .m [(3, 67)] ?_
  refine .spl 71 rfl rfl (fun e6 => ?_) (fun e6 => ?_)
  ·try simp only [e6]
   have qe6 := fact e6
   refine .T ?_
   refine .c7 [9, 10, 12, 13, 14] ?_
   refine .ss z7 (mkP 18 [0, 1, 3, 7, 7, 23, 7, 119, 247, 7, 519, 2039, 4095, 8191, 16383, 32767, 65535, 131071] []) ?_
   refine .k 3 [] ?_
   refine .spl 74 rfl rfl (fun e7 => ?_) (fun e7 => by exfalso; have q := fact e7; first | exact absurd (hend.1 t88) (by omega) | exact absurd (hend.2 t88) (by omega))
   try simp only [e7]
   have qe7 := fact e7
   refine .k 8 [(2, 74)] ?_
   refine .ca rfl rfl (L4 (c.insts.getD i g7) ((c9 u (c.insts.getD i g7)).getD pc g9).pl (D5 hu w hpc (by omega))) ?_
   refine .k 3 [(2, 74)] ?_
   refine .spl 86 rfl rfl (fun e8 => ?_) (fun e8 => by exfalso; have q := fact e8; first | exact absurd (hend.1 t88) (by omega) | exact absurd (hend.2 t88) (by omega))
   try simp only [e8]
   have qe8 := fact e8
   refine .ca rfl rfl (kD _) ?_
   refine .n [] ?_
   exact .ret (.ex (hq := by rfl))
  try simp only [e6]
  have qe6 := fact e6
  refine c4z ?_
  refine .c7 [13] ?_
  refine c20z ?_
  refine .spl 91 rfl rfl (fun e9 => ?_) (fun e9 => by exfalso; have q := fact e9; first | exact absurd (hend.1 t88) (by omega) | exact absurd (hend.2 t88) (by omega))
  try simp only [e9]
  have qe9 := fact e9
  refine .ca rfl rfl (kD _) ?_
  refine .n ?_
  exact .ret (.ex (hq := by rfl))
theorem c_law6 (L : List Int) (hL : L.length < 4611686018427387904) (x y : Int) : CallA Try.prog cfg 6 [.vec L.length (l6 L), .int .i64 x, .int .i64 y] [] (fun y' h' => y' = .bool true ∧ h' = []) := by
  refine .b fn6 ntm6 ?_
  refine c96z ?_
  refine l5.cx rfl rfl hb9 (zH L hL) (fun y1 h1 hq1 => ?_)
  obtain ⟨⟨p, u, c, gp, hu, wc, rfl⟩, rfl⟩ := hq1
  have hml := hu.ml
  simp only [yC]
  refine c77z ?_
  refine .c7 [1, 2, 8, 9] ?_
  refine c24z ?_
  refine l5.cx rfl rfl RW (tA hu wc x y) (fun y1 h1 hq1 => ?_)
  obtain ⟨⟨i, pc, hi, hpc, rfl⟩, rfl⟩ := hq1
  have w : WIt u (c.insts.getD i g7) := wc.wi _ (l7 hi)
  have w1 := w.lo; have w2 := w.hi
  refine .n ?_
  refine .c7 [8, 9, 10, 11] ?_
  refine .ss z7 (mkP 12 [0, 1, 0, 4, 0, 28, 60, 124, 255, 511, 1023, 2047] []) ?_
  refine c167z ?_
  refine .c7 [8, 9, 10, 11, 12] ?_
  refine .ss z7 (mkP 9 [0, 0, 2, 0, 14, 30, 0, 127, 255] []) ?_
  refine .k 7 [] ?_
  refine .ca rfl rfl (wR hu w hpc) ?_
  refine .n [] ?_
  refine .seq ?_
  refine .c7 [11, 12, 13] ?_
  refine c28z ?_
  refine .iB (fun m st => ∃ (k : Nat), (m = (eV ((c9 u (c.insts.getD i g7)).getD pc g9) pc).length - k ∧ k ≤ (eV ((c9 u (c.insts.getD i g7)).getD pc g9) pc).length) ∧ st = ⟨mkS 102 [(11, AV.int .i64 ((pc : Nat) : Int)), (12, AV.vec (c9 u (c.insts.getD i g7)).length (o6 (c9 u (c.insts.getD i g7)))), (13, AV.vec (eV ((c9 u (c.insts.getD i g7)).getD pc g9) pc).length (l6 (eV ((c9 u (c.insts.getD i g7)).getD pc g9) pc))), (14, AV.int .i64 ((k : Nat) : Int))], [⟨0, false, 27, 3, [.vec p.globals.length (o7 p.globals), .vec p.c4.length (j6 p.c4), .vec p.funcs.length (n4 p.funcs)], 0⟩, ⟨0, false, 30, 4, [.vec u.globals.length (l6 u.globals), .vec u.c4.length (j6 u.c4), .vec u.procs.length (s5 u.procs), .int .i64 u.main], 0⟩, ⟨0, false, 34, 3, [.vec c.insts.length (aJ c.insts), .vec c.calls.length (dE c.calls), .vec c.roots.length (l6 c.roots)], 0⟩]⟩) _ (.v ⟨0, ⟨rfl, by omega⟩, rfl⟩) ?_
  rintro m sl h' ⟨k, ⟨hm, hk⟩, hst⟩
  obtain ⟨rfl, rfl⟩ := St.mk.inj hst
  have hnl := oG (x := ((c9 u (c.insts.getD i g7)).getD pc g9)) (pc := pc)
  refine c0z ?_
  refine .spl 51 rfl rfl (fun e1 => ?_) (fun e1 => ?_)
  ·try simp only [e1]
   have qe1 := fact e1
   refine c11z ?_
   refine .ss z7 (mkP 30 [0, 0, 3, 7, 15, 31, 63, 63, 255, 511, 63, 1087, 4095, 8191, 16383, 32767, 65535, 131071, 262143, 262143, 1048575, 2097151, 262143, 262143, 8650751, 29622271, 63176703, 134217727, 268435455, 536870911] []) ?_
   refine .k 6 [] ?_
   refine .spl 59 rfl rfl (fun e2 => by exfalso; have q := fact e2; have hin := CM hu w hpc k (by omega); omega) (fun e2 => ?_)
   try simp only [e2]
   have qe2 := fact e2
   refine .k 8 [(5, 59)] ?_
   refine .k 1 [] ?_
   refine .spl 68 rfl rfl (fun e3 => by exfalso; have q := fact e3; have hin := CM hu w hpc k (by omega); omega) (fun e3 => ?_)
   try simp only [e3]
   have qe3 := fact e3
   refine .k 3 [(14, 68)] ?_
   refine .spl 71 rfl rfl (fun e4 => ?_) (fun e4 => ?_)
   ·try simp only [e4]
    have qe4 := fact e4
    refine .k 8 [(17, 71)] ?_
    refine .n [(14, 68), (17, 71)] ?_
    refine .spl 83 rfl rfl (fun e5 => by exfalso; have q := fact e5; have hin := next_up (x := ((c9 u (c.insts.getD i g7)).getD pc g9)) (pc := pc) (k := k) (by omega) (by omega); omega) (fun e5 => ?_)
    try simp only [e5]
    have qe5 := fact e5
    refine c13z ?_
    refine .c7 [11, 12, 13, 14] ?_
    refine .rz ?_
    exact ⟨_, by omega, .v ⟨(k + 1), ⟨rfl, by omega⟩, rfl⟩⟩
   try simp only [e4]
   have qe4 := fact e4
   refine .k 8 [(17, 71)] ?_
   refine .n [(14, 68), (17, 71)] ?_
   refine c13z ?_
   refine .c7 [11, 12, 13, 14] ?_
   refine .rz ?_
   exact ⟨_, by omega, .v ⟨(k + 1), ⟨rfl, by omega⟩, rfl⟩⟩
  try simp only [e1]
  have qe1 := fact e1
  refine c3z ?_
  obtain rfl : k = (eV ((c9 u (c.insts.getD i g7)).getD pc g9) pc).length := by omega
  change c8 ..
  refine .s ?_
  refine .e 8 ?_
  refine .e 3 ?_
  refine .spl 94 rfl rfl (fun e6 => ?_) (fun e6 => by exfalso; exact next_8' e6)
  try simp only [e6]
  have qe6 := fact e6
  refine .k 5 [(10, 94)] ?_
  refine .spl 99 rfl rfl (fun e7 => ?_) (fun e7 => by exfalso; have q := fact e7; have := oG (x := ((c9 u (c.insts.getD i g7)).getD pc g9)) (pc := pc); omega)
  try simp only [e7]
  have qe7 := fact e7
  refine .ca rfl rfl (kD _) ?_
  refine .n ?_
  exact .ret (.ex (hq := by rfl))
theorem c_law7 (L : List Int) (hL : L.length < 4611686018427387904) (x y oth m : Int) : CallA Try.prog cfg 7 [.vec L.length (l6 L), .int .i64 x, .int .i64 y, .int .i64 oth, .int .i64 m] [] (fun y' h' => y' = .bool true ∧ h' = []) := by
  refine .b fn7 ntm7 ?_
  refine c96z ?_
  refine l5.cx rfl rfl hb9 (zH L hL) (fun y1 h1 hq1 => ?_)
  obtain ⟨⟨p, u, c, gp, hu, wc, rfl⟩, rfl⟩ := hq1
  have hml := hu.ml
  simp only [yC]
  refine c77z ?_
  refine .c7 [1, 2, 3, 4, 12, 13] ?_
  refine c24z ?_
  refine l5.cx rfl rfl RW (tA hu wc x y) (fun y1 h1 hq1 => ?_)
  obtain ⟨⟨i, pc, hi, hpc, rfl⟩, rfl⟩ := hq1
  have w : WIt u (c.insts.getD i g7) := wc.wi _ (l7 hi)
  have w1 := w.lo; have w2 := w.hi
  refine .n ?_
  refine .c7 [3, 4, 12, 13, 14, 15] ?_
  refine c24z ?_
  refine l5.cx rfl rfl hb11 (tB _ (by have := wc.len; omega) (by have := wc.len; omega)) (fun y1 h1 hq1 => ?_)
  obtain ⟨⟨j, hj, rfl⟩, rfl⟩ := hq1
  have w' : WIt u (c.insts.getD j g7) := wc.wi _ (l7 hj)
  have w3 := w'.lo; have w4 := w'.hi
  refine .n ?_
  refine .sg z7 (mkG 14 [0, 1, 0, 7, 15, 0, 32, 0, 224, 480, 0, 0, 3103, 8191] [10, 11, 12, 13] [0, 0, 0, 0, 0, 0, 0, 0, 0, 0, 0, 0, 3072, 7168] [12288, 12288, 12288, 12288, 12288, 8192, 8192, 8192, 8192, 8192, 12288, 12288, 8192, 0] [(10, 0), (11, 1)] [0, 1024, 2048, 3072, 7168, 15360] [0, 1, 2, 3, 4, 5, 6, 7, 8, 9, 10]) 2 ?_
  refine c30z ?_
  refine .p 2 ?_
  refine c84z ?_
  refine .p 2 ?_
  refine .rm [true] ?_
  refine .em [true] [1024, 0] [_] ?_
  refine .en [true, true] [3072, 2048, 1024, 0] [_, _] ?_
  refine .en [true, false, false, false] [7168, 3072, 2048, 1024, 0] [_] ?_
  refine .en [true, false, false, false, false] [15360, 7168, 3072, 2048, 1024, 0] [_] ?_
  refine .po [false, false, false, true, false, true] ?_
  refine .po [false, true, true, true, true, true] ?_
  refine .po [false, true, true, true, true, true] ?_
  refine .po [false, false, true, true, true, true] ?_
  refine .po [false, false, true, true, true, true] ?_
  refine u9.nil rfl ?_
  refine .seq ?_
  refine .c7 [4, 12, 15, 17, 18] ?_
  refine .z ?_
  refine .spl 53 rfl rfl (fun e1 => ?_) (fun e1 => ?_)
  ·try simp only [e1]
   have qe1 := fact e1
   refine .T ?_
   refine .c7 [] ?_
   refine .s ?_
   refine .ca rfl rfl (kD _) ?_
   refine .n ?_
   exact .ret (.ex (hq := by rfl))
  try simp only [e1]
  have qe1 := fact e1
  refine c4z ?_
  have hpr : (c.insts.getD i g7).proc = (c.insts.getD j g7).proc := by omega
  refine c24z ?_
  refine l5.cx rfl rfl hb11 (tB _ (by omega) (by omega)) (fun y1 h1 hq1 => ?_)
  obtain ⟨⟨k, hk, rfl⟩, rfl⟩ := hq1
  refine .n ?_
  refine .c7 [4, 12, 15, 17, 18] ?_
  refine .s ?_
  refine c77z ?_
  refine .seq ?_
  refine .c7 [4, 12, 15, 17, 18, 19] ?_
  refine .ss z7 (mkP 10 [0, 0, 0, 7, 0, 0, 0, 127, 255, 511] []) ?_
  refine .k 3 [] ?_
  refine .ca rfl rfl (wR hu w hpc) ?_
  refine .k 3 [] ?_
  refine .ca rfl rfl (c_nextG hu w w' hpr hpc) ?_
  refine .ca rfl rfl (DD) ?_
  refine .n [] ?_
  refine c4z ?_
  refine .c7 [4, 12, 15, 17, 18, 19] ?_
  refine .ss z7 (mkP 20 [0, 1, 3, 7, 15, 15, 15, 15, 255, 15, 15, 15, 15, 8191, 16383, 32767, 65535, 131071, 262143, 524287] []) ?_
  refine .k 4 [] ?_
  refine .spl 83 rfl rfl (fun e2 => ?_) (fun e2 => ?_)
  ·try simp only [e2]
   have qe2 := fact e2
   refine .k 8 [(3, 83)] ?_
   refine .k 5 [(3, 83)] ?_
   refine .ca rfl rfl (kD _) ?_
   refine .n [] ?_
   exact .ret (.ex (hq := by rfl))
  try simp only [e2]
  have qe2 := fact e2
  refine .k 4 [(3, 83)] ?_
  refine .ca rfl rfl (oH hu w hpc _) ?_
  refine .k 4 [(3, 83)] ?_
  refine .ca rfl rfl (DE hu w w' hpr hpc (by assumption) _) ?_
  refine .k 3 [(3, 83)] ?_
  refine .spl 96 rfl rfl (fun e3 => ?_) (fun e3 => by exfalso; first | cases e3 | (have q := fact e3; omega))
  try simp only [e3]
  have qe3 := fact e3
  refine .ca rfl rfl (kD _) ?_
  refine .n [] ?_
  exact .ret (.ex (hq := by rfl))
end Go.Proofs.Ytbmaijdkebjnhaa
end
section
namespace Go.Ab
open Go.RowKit
def R5 (w : World) : List Value → List AV → Prop
 | [], [] => True
 | v :: vs, x :: xs => kE w (fun k _ => k < w.heap.size) v x ∧ R5 w vs xs
 | _, _ => False
theorem R5.get {w : World} : ∀ {vs : List Value} {xs : List AV}, R5 w vs xs → vs.length = xs.length ∧ ∀ (j : Nat) v x, vs[j]? = some v → xs[j]? = some x → kE w (fun k _ => k < w.heap.size) v x
 | [], [], _ => ⟨rfl, fun j v x h => by simp at h⟩
 | v :: vs, x :: xs, h => by
  obtain ⟨h1, h2⟩ := h
  obtain ⟨k1, k2⟩ := R5.get h2
  refine ⟨by simp [k1], fun j u y hu hy => ?_⟩
  match j with
  | 0 => simp at hu hy; subst hu hy; exact h1
  | j + 1 => exact k2 j u y t92 (by simpa using hy)
 | [], _ :: _, h => h.elim
 | _ :: _, [], h => h.elim
theorem CallA.law {P : Program} {C : Cfg} {f : FuncId} {args : List AV} (hG : C.eD = fun _ => .any) (r : CallA P C f args [] (fun x h' => x = .bool true ∧ h' = [])) (w : World) (cargs : Array Value) (hr : R5 w cargs.toList args) :
  Calls P f cargs w fun e w' => e = .returned (.bool true) ∧ Below w.heap.size w w' := by
 obtain ⟨k1, k2⟩ := R5.get hr
 exact CallA.top hG (r.mono fun _ _ h => h.1) w cargs (by simpa using k1) fun j v x h1 h2 => k2 j v x t97 h2
theorem prel_ints {w : World} {a : Option Addr} {len cap : Nat} {zs : List Int}
  (h : (a = none ∧ len = 0 ∧ cap = 0 ∧ zs = []) ∨ ∃ x, a = some x ∧ len ≤ cap ∧ cap ≤ maxLen ∧ zs.length = cap ∧ (∀ i, i < zs.length → w.cell? (x.add i) = some (.int .i64 (zs.getD i 0))) ∧ ∀ n ∈ zs, (Lit.int .i64 n).wf = true) :
  kE w (fun k _ => k < w.heap.size) (.slice a len cap) (RD (zs.take len)) ∧ (zs.take len).length = len ∧ len ≤ maxLen ∧ ∀ n ∈ zs.take len, -9223372036854775808 ≤ n ∧ n < 9223372036854775808 := by
 rcases h with ⟨rfl, rfl, rfl, rfl⟩ | ⟨x, rfl, h1, h2, h3, h4, h5⟩
 ·exact ⟨ED _ _, rfl, by omega, by simp⟩
 ·refine ⟨EE h1 h3 h4, by simp; omega, by omega, fun n hn => ?_⟩
  have := h5 n (List.mem_of_mem_take hn)
  simp only [Lit.wf, Bool.and_eq_true, decide_eq_true_eq] at this
  have e1 : IntKind.min .i64 = -9223372036854775808 := rfl
  have e2 : IntKind.max .i64 = 9223372036854775807 := rfl
  rw [e1, e2] at this
  omega
end Go.Ab
end
