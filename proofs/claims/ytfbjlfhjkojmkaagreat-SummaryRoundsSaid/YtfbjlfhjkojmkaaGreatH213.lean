/- My own texts, put together by a program of mine. -/
import Derived.Test.YtfbjlfhjkojmkaaGreatH212
set_option linter.unusedSimpArgs false
set_option linter.unusedVariables false
set_option maxRecDepth 100000
set_option maxHeartbeats 4000000
section
namespace Go.Proofs.YtfbjlfhjkojmkaaGreat
open Go.Ab
set_option maxRecDepth 1000000
def mA4 : List AV := [.agg wL0]
def mH4 : c6 := [⟨1, true, 0, 0, [], 0⟩, ⟨0, false, 27, 3, wL0, 0⟩, ⟨0, false, 27, 3, wL0, 0⟩, ⟨0, false, 30, 4, [.j6, .j6, .j6, .int .i64 0], 0⟩]
def mX4 : AV := .bool true
theorem m4 : F4 cfg iS (wW YC vZ) 49 mA4 mH4 = some (mX4, mH4) := by kernel_rfl
def YD : vE := (49, mA4, mH4, mX4, mH4) :: YC
theorem U9 : gD Tryz.prog cfg YD := iI (eD s9 z4 (jA U8 lF)) m4 U8
def mA5 : List AV := [.agg wL0]
def mH5 : c6 := [⟨1, true, 0, 0, [], 0⟩, ⟨0, false, 27, 3, wL0, 0⟩]
def mX5 : AV := .tup [.agg [.vec 0 [], .vec 1 [.str ⟨#[97]⟩, .bool false, .int .i64 0], .vec 3 [.str ⟨#[109, 97, 105, 110]⟩, .int .i64 0, .int .i64 0, .int .i64 0, .vec 3 [.int .i64 2, .int .i64 1, .bool false, .int .i64 0, .int .i64 0, .str ⟨#[]⟩, .vec 0 [], .bool false, .int .i64 0, .vec 0 [], .vec 0 [], .vec 0 [], .int .i64 2, .int .i64 2, .bool false, .int .i64 0, .int .i64 0, .str ⟨#[]⟩, .vec 0 [], .bool false, .int .i64 0, .vec 0 [], .vec 0 [], .vec 0 [], .int .i64 8, .int .i64 0, .bool false, .int .i64 0, .int .i64 0, .str ⟨#[]⟩, .vec 0 [], .bool false, .int .i64 0, .vec 0 [], .vec 0 [], .vec 0 []], .str ⟨#[102]⟩, .int .i64 0, .int .i64 0, .int .i64 0, .vec 2 [.int .i64 4, .int .i64 0, .bool false, .int .i64 0, .int .i64 0, .str ⟨#[]⟩, .vec 0 [], .bool false, .int .i64 0, .vec 0 [], .vec 0 [], .vec 0 [], .int .i64 8, .int .i64 0, .bool false, .int .i64 0, .int .i64 0, .str ⟨#[]⟩, .vec 0 [], .bool false, .int .i64 0, .vec 0 [], .vec 0 [], .vec 0 []], .str ⟨#[103]⟩, .int .i64 0, .int .i64 0, .int .i64 0, .vec 5 [.int .i64 6, .int .i64 4, .bool false, .int .i64 1, .int .i64 1, .str ⟨#[]⟩, .vec 0 [], .bool false, .int .i64 0, .vec 0 [], .vec 0 [], .vec 0 [], .int .i64 4, .int .i64 0, .bool false, .int .i64 0, .int .i64 0, .str ⟨#[]⟩, .vec 0 [], .bool false, .int .i64 0, .vec 0 [], .vec 0 [], .vec 0 [], .int .i64 5, .int .i64 0, .bool false, .int .i64 0, .int .i64 0, .str ⟨#[]⟩, .vec 0 [], .bool false, .int .i64 0, .vec 0 [], .vec 0 [], .vec 0 [], .int .i64 2, .int .i64 2, .bool false, .int .i64 0, .int .i64 0, .str ⟨#[]⟩, .vec 0 [], .bool false, .int .i64 0, .vec 0 [], .vec 0 [], .vec 0 [], .int .i64 8, .int .i64 0, .bool false, .int .i64 0, .int .i64 0, .str ⟨#[]⟩, .vec 0 [], .bool false, .int .i64 0, .vec 0 [], .vec 0 [], .vec 0 []]], .int .i64 0], .int .i64 0, .int .i64 0, .int .i64 0]
theorem m5 : F4 cfg iS (wW YD vZ) 28 mA5 mH5 = some (mX5, mH5) := by kernel_rfl
def YE : vE := (28, mA5, mH5, mX5, mH5) :: YD
theorem PG : gD Tryz.prog cfg YE := iI (eD s9 z4 (jA U9 lF)) m5 U9
end Go.Proofs.YtfbjlfhjkojmkaaGreat
end
