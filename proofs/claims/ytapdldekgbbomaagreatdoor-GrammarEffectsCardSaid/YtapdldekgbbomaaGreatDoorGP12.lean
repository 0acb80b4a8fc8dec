/- My own texts, put together by a program of mine. -/
import Derived.Test.YtapdldekgbbomaaGreatDoorGP11
set_option linter.unusedSimpArgs false
set_option linter.unusedVariables false
section
namespace Go.Proofs.YtapdldekgbbomaaGreatDoor
open Go.Ab
set_option maxRecDepth 1000000
def mA6:List AV:=[.vec 70 (wvB [109,117,116,101,120,32,97,59,10,102,117,110,99,32,109,97,105,110,40,41,32,123,10,9,102,40,41,59,10,9,102,40,41,59,10,125,10,102,117,110,99,32,102,40,41,32,123,10,9,108,111,99,107,32,97,59,10,9,117,110,108,111,99,107,32,97,59,10,125,10])]
def mH6:c8:=[wv3,wv4,wv6,wv7,oG,oG,wv3,oG,UH,UI,Ch]
def mX6:AV:=.tup [.vec 30 (wvI 3::wv9::wvP wv5 (oC::JM::wv2::wvI 6::wvP KJ (wvI 7::wvI 3::wv14::wv2::wvI 9::oC::Mk::wv2::wvI 14::sI::UF::wv2::wvI 18::sI::UG::wv2::wvI 19::sI::wv18::wv2::wvI 21::oC::JN::wv2::wvI 24::sI::UF::wv2::wvI 25::sI::UG::wv2::wvI 26::wvP KJ (wvI 27::oC::JN::wv2::wvI 30::sI::UF::wv2::wvI 31::sI::UG::wv2::wvI 32::wvP KJ (wvI 33::sI::wv20::wv2::wvI 35::wvI 3::wv14::wv2::wvI 37::oC::JN::wv2::wvI 42::sI::UF::wv2::wvI 43::sI::UG::wv2::wvI 44::sI::wv18::wv2::wvI 46::wvI 3::.str ⟨#[108,111,99,107]⟩::wv2::wvI 49::oC::JM::wv2::wvI 54::wvP KJ (wvI 55::wvI 3::wv21::wv2::wvI 58::oC::JM::wv2::wvI 65::wvP KJ [wvI 66,sI,wv20,wv2,wvI 68,wvI 5,Be,wv2,wvI 70])))))),wvI 70,wv2]
def mK6:c8:=[wv3,wv4,wv6,wv7,oG,oG,wv3,oG,UH,UI,Ch]
theorem m6:A9 cfg dO (mK Bk iI) 69 mA6 mH6=some (mX6,mK6):=by kernel_rfl
def Bl:wB:=(69,mA6,mH6,mX6,mK6)::Bk
theorem Z0:eM Tryz.prog cfg Bl:=bS (eI u9 z7 (cG Y9 bH)) m6 Y9
end Go.Proofs.YtapdldekgbbomaaGreatDoor
end
