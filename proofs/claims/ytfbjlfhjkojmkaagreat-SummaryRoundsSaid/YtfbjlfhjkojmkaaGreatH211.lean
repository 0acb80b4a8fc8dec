/- My own texts, put together by a program of mine. -/
import Derived.Test.YtfbjlfhjkojmkaaGreatH210
set_option linter.unusedSimpArgs false
set_option linter.unusedVariables false
set_option maxRecDepth 100000
set_option maxHeartbeats 4000000
section
namespace Go.Proofs.YtfbjlfhjkojmkaaGreat
open Go.Ab
set_option maxRecDepth 1000000
def mA2 : List AV := [.vec 100 wL1]
def mH2 : c6 := [⟨1, true, 0, 0, [], 0⟩]
def wL3 : List AV := [.int .i64 7, .str ⟨#[]⟩, .int .i64 1, .int .i64 1, .str ⟨#[]⟩, .vec 0 [], .str ⟨#[]⟩, .vec 0 [], .vec 0 [], .vec 3 [.int .i64 5, .str ⟨#[]⟩, .int .i64 0, .int .i64 0, .str ⟨#[]⟩, .vec 0 [], .str ⟨#[97]⟩, .vec 0 [], .vec 0 [], .vec 0 [], .vec 0 [], .int .i64 6, .str ⟨#[]⟩, .int .i64 0, .int .i64 0, .str ⟨#[]⟩, .vec 0 [], .str ⟨#[97]⟩, .vec 0 [], .vec 0 [], .vec 0 [], .vec 0 [], .int .i64 3, .str ⟨#[103]⟩, .int .i64 0, .int .i64 0, .str ⟨#[]⟩, .vec 0 [], .str ⟨#[]⟩, .vec 0 [], .vec 0 [], .vec 0 [], .vec 0 []], .vec 0 []]
def wL4 : List AV := [.int .i64 3, .str ⟨#[102]⟩, .int .i64 0, .int .i64 0, .str ⟨#[]⟩, .vec 0 [], .str ⟨#[]⟩, .vec 0 [], .vec 0 [], .vec 0 [], .vec 0 [], .int .i64 3, .str ⟨#[103]⟩, .int .i64 0, .int .i64 0, .str ⟨#[]⟩, .vec 0 [], .str ⟨#[]⟩, .vec 0 [], .vec 0 [], .vec 0 [], .vec 0 []]
def wL5 : List AV := [.int .i64 5, .str ⟨#[]⟩, .int .i64 0, .int .i64 0, .str ⟨#[]⟩, .vec 0 [], .str ⟨#[97]⟩, .vec 0 [], .vec 0 [], .vec 0 [], .vec 0 []]
def wL0 : List AV := [.vec 0 [], .vec 1 [.str ⟨#[97]⟩, .bool false, .int .i64 0], .vec 3 [.str ⟨#[109, 97, 105, 110]⟩, .vec 0 [], .vec 2 wL4, .str ⟨#[102]⟩, .vec 0 [], .vec 1 wL5, .str ⟨#[103]⟩, .vec 0 [], .vec 1 wL3]]
def mX2 : AV := .tup [.agg wL0, .int .i64 100, .int .i64 0]
theorem m2 : F4 cfg iS (wW YA vZ) 35 mA2 mH2 = some (mX2, mH2) := by kernel_rfl
def YB : vE := (35, mA2, mH2, mX2, mH2) :: YA
theorem U7 : gD Tryz.prog cfg YB := iI (eD s9 z4 (jA U6 lF)) m2 U6
end Go.Proofs.YtfbjlfhjkojmkaaGreat
end
