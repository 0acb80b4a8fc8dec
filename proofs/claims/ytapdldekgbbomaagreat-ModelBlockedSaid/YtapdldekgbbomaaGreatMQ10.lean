/- My own texts, put together by a program of mine. -/
import Derived.Test.YtapdldekgbbomaaGreatMQ9
set_option linter.unusedSimpArgs false
set_option linter.unusedVariables false
set_option maxRecDepth 100000
set_option maxHeartbeats 4000000
section
namespace Go.Proofs.YtapdldekgbbomaaGreat
open Go.Ab
set_option maxRecDepth 1000000
def plainF (f : FuncId) : Bool := Nat.beq f 63 || Nat.beq f 64 || Nat.beq f 65 || Nat.beq f 82 || Nat.beq f 83 || Nat.beq f 84 || Nat.beq f 85 || Nat.beq f 86 || Nat.beq f 87 || Nat.beq f 92 || Nat.beq f 93 || Nat.beq f 94 || Nat.beq f 95 || Nat.beq f 96 || Nat.beq f 97 || Nat.beq f 106 || Nat.beq f 111 || Nat.beq f 112 || Nat.beq f 113 || Nat.beq f 114 || Nat.beq f 115 || Nat.beq f 116 || Nat.beq f 119 || Nat.beq f 120
def NT : xE := []
theorem EO : fJ Tryz.prog cfg NT := G5
noncomputable def evalH : dO := p7 cfg dP 100
theorem LK : evalH.ok Tryz.prog cfg := vB u0 aC 100
noncomputable def kC : dO := ON plainF (nD NT evalH)
theorem cM : kC.ok Tryz.prog cfg := GI (dJ EO LK)
def TU : xE := []
theorem N2 : fJ Tryz.prog cfg TU := G5
def mA1 : List AV := [.vec 58 [.int .u8 109, .int .u8 117, .int .u8 116, .int .u8 101, .int .u8 120, .int .u8 32, .int .u8 97, .int .u8 59, .int .u8 32, .int .u8 102, .int .u8 117, .int .u8 110, .int .u8 99, .int .u8 32, .int .u8 109, .int .u8 97, .int .u8 105, .int .u8 110, .int .u8 40, .int .u8 41, .int .u8 32, .int .u8 123, .int .u8 32, .int .u8 108, .int .u8 111, .int .u8 99, .int .u8 107, .int .u8 32, .int .u8 97, .int .u8 59, .int .u8 32, .int .u8 102, .int .u8 40, .int .u8 41, .int .u8 59, .int .u8 32, .int .u8 125, .int .u8 32, .int .u8 102, .int .u8 117, .int .u8 110, .int .u8 99, .int .u8 32, .int .u8 102, .int .u8 40, .int .u8 41, .int .u8 32, .int .u8 123, .int .u8 32, .int .u8 114, .int .u8 101, .int .u8 116, .int .u8 117, .int .u8 114, .int .u8 110, .int .u8 59, .int .u8 32, .int .u8 125]]
def mH1 : c7 := [⟨1, true, 0, 0, [], 0⟩, ⟨0, false, 27, 3, [.j7, .j7, .j7], 0⟩]
def mX1 : AV := .tup [.vec 25 [.int .i64 3, .str ⟨#[109, 117, 116, 101, 120]⟩, .int .i64 0, .int .i64 0, .int .i64 1, .str ⟨#[97]⟩, .int .i64 0, .int .i64 6, .int .i64 4, .str ⟨#[59]⟩, .int .i64 0, .int .i64 7, .int .i64 3, .str ⟨#[102, 117, 110, 99]⟩, .int .i64 0, .int .i64 9, .int .i64 1, .str ⟨#[109, 97, 105, 110]⟩, .int .i64 0, .int .i64 14, .int .i64 4, .str ⟨#[40]⟩, .int .i64 0, .int .i64 18, .int .i64 4, .str ⟨#[41]⟩, .int .i64 0, .int .i64 19, .int .i64 4, .str ⟨#[123]⟩, .int .i64 0, .int .i64 21, .int .i64 3, .str ⟨#[108, 111, 99, 107]⟩, .int .i64 0, .int .i64 23, .int .i64 1, .str ⟨#[97]⟩, .int .i64 0, .int .i64 28, .int .i64 4, .str ⟨#[59]⟩, .int .i64 0, .int .i64 29, .int .i64 1, .str ⟨#[102]⟩, .int .i64 0, .int .i64 31, .int .i64 4, .str ⟨#[40]⟩, .int .i64 0, .int .i64 32, .int .i64 4, .str ⟨#[41]⟩, .int .i64 0, .int .i64 33, .int .i64 4, .str ⟨#[59]⟩, .int .i64 0, .int .i64 34, .int .i64 4, .str ⟨#[125]⟩, .int .i64 0, .int .i64 36, .int .i64 3, .str ⟨#[102, 117, 110, 99]⟩, .int .i64 0, .int .i64 38, .int .i64 1, .str ⟨#[102]⟩, .int .i64 0, .int .i64 43, .int .i64 4, .str ⟨#[40]⟩, .int .i64 0, .int .i64 44, .int .i64 4, .str ⟨#[41]⟩, .int .i64 0, .int .i64 45, .int .i64 4, .str ⟨#[123]⟩, .int .i64 0, .int .i64 47, .int .i64 3, .str ⟨#[114, 101, 116, 117, 114, 110]⟩, .int .i64 0, .int .i64 49, .int .i64 4, .str ⟨#[59]⟩, .int .i64 0, .int .i64 55, .int .i64 4, .str ⟨#[125]⟩, .int .i64 0, .int .i64 57, .int .i64 5, .str ⟨#[]⟩, .int .i64 0, .int .i64 58], .int .i64 58, .int .i64 0]
def mK1 : c7 := [⟨1, true, 0, 0, [], 0⟩, ⟨0, false, 27, 3, [.j7, .j7, .j7], 0⟩]
theorem m1 : G4 cfg dP (nD TU kC) 50 mA1 mH1 = some (mX1, mK1) := by kernel_rfl
def TV : xE := (50, mA1, mH1, mX1, mK1) :: TU
theorem N4 : fJ Tryz.prog cfg TV := dE (fR u0 aC (dJ N2 cM)) m1 N2
end Go.Proofs.YtapdldekgbbomaaGreat
end
