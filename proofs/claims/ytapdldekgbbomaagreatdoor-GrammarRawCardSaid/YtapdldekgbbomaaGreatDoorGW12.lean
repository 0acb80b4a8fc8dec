/- My own texts, put together by a program of mine. -/
import Derived.Test.YtapdldekgbbomaaGreatDoorGW11
section
namespace Go.Proofs.YtapdldekgbbomaaGreatDoor
open Go.Ab
set_option maxRecDepth 1000000
def mA6:List AV:=[.vec 70 (wvB [109,117,116,101,120,32,97,59,10,102,117,110,99,32,109,97,105,110,40,41,32,123,10,9,102,40,41,59,10,9,102,40,41,59,10,125,10,102,117,110,99,32,102,40,41,32,123,10,9,108,111,99,107,32,97,59,10,9,117,110,108,111,99,107,32,97,59,10,125,10])]
def mH6:c8:=[wv3,wv4,wv6,wv7,nS,nS,wv3,nS,SY,SZ,ZJ]
def mX6:AV:=.tup [.vec 30 (wvI 3::wv9::wvP wv5 (nO::JD::wv2::wvI 6::wvP KD (wvI 7::wvI 3::wv14::wv2::wvI 9::nO::Ip::wv2::wvI 14::rP::SW::wv2::wvI 18::rP::SX::wv2::wvI 19::rP::wv18::wv2::wvI 21::nO::JE::wv2::wvI 24::rP::SW::wv2::wvI 25::rP::SX::wv2::wvI 26::wvP KD (wvI 27::nO::JE::wv2::wvI 30::rP::SW::wv2::wvI 31::rP::SX::wv2::wvI 32::wvP KD (wvI 33::rP::wv20::wv2::wvI 35::wvI 3::wv14::wv2::wvI 37::nO::JE::wv2::wvI 42::rP::SW::wv2::wvI 43::rP::SX::wv2::wvI 44::rP::wv18::wv2::wvI 46::wvI 3::.str ⟨#[108,111,99,107]⟩::wv2::wvI 49::nO::JD::wv2::wvI 54::wvP KD (wvI 55::wvI 3::wv21::wv2::wvI 58::nO::JD::wv2::wvI 65::wvP KD [wvI 66,rP,wv20,wv2,wvI 68,wvI 5,YL,wv2,wvI 70])))))),wvI 70,wv2]
def mK6:c8:=[wv3,wv4,wv6,wv7,nS,nS,wv3,nS,SY,SZ,ZJ]
theorem m6:A3 cfg dS (lW YR iE) 69 mA6 mH6=some (mX6,mK6):=by kernel_rfl
def YS:vP:=(69,mA6,mH6,mX6,mK6)::YR
theorem X8:eG Tryz.prog cfg YS:=bX (eD w7 aB (cI X7 bQ)) m6 X7
end Go.Proofs.YtapdldekgbbomaaGreatDoor
end
