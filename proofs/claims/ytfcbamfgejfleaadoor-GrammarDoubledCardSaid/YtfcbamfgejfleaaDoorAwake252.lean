/-
  THE CHECK OF LAW 25 ON A FIXED PROGRAM. Written by a program of mine (mkawake.py); worked out by the kernel. Conditions: none.
-/
import Derived.Test.YtfcbamfgejfleaaDoorAwake251
namespace Go.Proofs.YtfcbamfgejfleaaDoor
open Go.Ab
set_option maxRecDepth 1000000
def mA2 : List AV := [.vec 65 [.int .u8 109, .int .u8 117, .int .u8 116, .int .u8 101, .int .u8 120, .int .u8 32, .int .u8 97, .int .u8 59, .int .u8 32, .int .u8 102, .int .u8 117, .int .u8 110, .int .u8 99, .int .u8 32, .int .u8 109, .int .u8 97, .int .u8 105, .int .u8 110, .int .u8 40, .int .u8 41, .int .u8 32, .int .u8 123, .int .u8 32, .int .u8 102, .int .u8 40, .int .u8 41, .int .u8 59, .int .u8 32, .int .u8 102, .int .u8 40, .int .u8 41, .int .u8 59, .int .u8 32, .int .u8 125, .int .u8 32, .int .u8 102, .int .u8 117, .int .u8 110, .int .u8 99, .int .u8 32, .int .u8 102, .int .u8 40, .int .u8 41, .int .u8 32, .int .u8 123, .int .u8 32, .int .u8 108, .int .u8 111, .int .u8 99, .int .u8 107, .int .u8 32, .int .u8 97, .int .u8 59, .int .u8 32, .int .u8 117, .int .u8 110, .int .u8 108, .int .u8 111, .int .u8 99, .int .u8 107, .int .u8 32, .int .u8 97, .int .u8 59, .int .u8 32, .int .u8 125]]
def mH2 : Heap := [⟨0, false, 38, 4, [.nils, .nils, .nils, .int .i64 0], 0⟩, ⟨0, false, 42, 3, [.nils, .nils, .nils], 0⟩, ⟨0, false, 28, 5, [.int .i64 0, .int .i64 0, .int .i64 0, .int .i64 0, .nils], 0⟩, ⟨1, true, 0, 0, [], 0⟩]
def mX2 : AV := .tup [.agg [.vec 0 [], .vec 1 [.str ⟨#[97]⟩, .bool false, .int .i64 0], .vec 2 [.str ⟨#[109, 97, 105, 110]⟩, .vec 0 [], .vec 2 [.int .i64 3, .str ⟨#[102]⟩, .int .i64 0, .int .i64 0, .str ⟨#[]⟩, .vec 0 [], .str ⟨#[]⟩, .vec 0 [], .vec 0 [], .vec 0 [], .vec 0 [], .int .i64 3, .str ⟨#[102]⟩, .int .i64 0, .int .i64 0, .str ⟨#[]⟩, .vec 0 [], .str ⟨#[]⟩, .vec 0 [], .vec 0 [], .vec 0 [], .vec 0 []], .str ⟨#[102]⟩, .vec 0 [], .vec 2 [.int .i64 5, .str ⟨#[]⟩, .int .i64 0, .int .i64 0, .str ⟨#[]⟩, .vec 0 [], .str ⟨#[97]⟩, .vec 0 [], .vec 0 [], .vec 0 [], .vec 0 [], .int .i64 6, .str ⟨#[]⟩, .int .i64 0, .int .i64 0, .str ⟨#[]⟩, .vec 0 [], .str ⟨#[97]⟩, .vec 0 [], .vec 0 [], .vec 0 [], .vec 0 []]]], .int .i64 65, .int .i64 0]
def mK2 : Heap := [⟨0, false, 38, 4, [.nils, .nils, .nils, .int .i64 0], 0⟩, ⟨0, false, 42, 3, [.nils, .nils, .nils], 0⟩, ⟨0, false, 28, 5, [.int .i64 0, .int .i64 0, .int .i64 0, .int .i64 0, .nils], 0⟩, ⟨1, true, 0, 0, [], 0⟩]
theorem m2 : runE cfg plans (callM memo1 evalM0) 12 mA2 mH2 = some (mX2, mK2) := by kernel_rfl
def memo2 : Memo := (12, mA2, mH2, mX2, mK2) :: memo1
theorem memo2_ok : MemoOk Tryd.prog cfg memo2 := memo_cons (runE_ok good plansRight (callM_ok memo1_ok evalM0_ok)) m2 memo1_ok
end Go.Proofs.YtfcbamfgejfleaaDoor
