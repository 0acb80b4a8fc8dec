/- My own texts, put together by a program of mine. -/
import Derived.Test.YtonbocmibeikmaaGreatRS11
set_option linter.unusedSimpArgs false
set_option linter.unusedVariables false
set_option maxRecDepth 100000
set_option maxHeartbeats 4000000
section
namespace Go.Proofs.YtonbocmibeikmaaGreat
open Go.Ab
set_option maxRecDepth 1000000
def mA6:List AV:=[.vec 73 (wvB [109,117,116,101,120,32,97,59,10,102,117,110,99,32,109,97,105,110,40,41,32,123,10,9,108,111,99,107,32,97,59,10,9,102,40,41,59,10,9,117,110,108,111,99,107,32,97,59,10,125,10,102,117,110,99,32,102,40,41,32,123,10,9,114,101,116,117,114,110,59,10,125,10])]
def mH6:c7:=[wv2,dT,dT,NY,dT,XV,XW,Fi]
def mX6:AV:=.tup [.vec 28 (wvI 3::wv4::wvP wv6 (wvI 1::wv7::wv5::wvI 6::wvP wv8 (wvI 7::wvI 3::wv9::wv5::wvI 9::wvI 1::Sh::wv5::wvI 14::wvI 4::Fg::wv5::wvI 18::wvI 4::Fh::wv5::wvI 19::wvI 4::wv13::wv5::wvI 21::wvI 3::.str ⟨#[108,111,99,107]⟩::wv5::wvI 24::wvI 1::wv7::wv5::wvI 29::wvP wv8 (wvI 30::wvI 1::XT::wv5::wvI 33::wvI 4::Fg::wv5::wvI 34::wvI 4::Fh::wv5::wvI 35::wvP wv8 (wvI 36::wvI 3::wv15::wv5::wvI 39::wvI 1::wv7::wv5::wvI 46::wvP wv8 (wvI 47::wvI 4::wv16::wv5::wvI 49::wvI 3::wv9::wv5::wvI 51::wvI 1::XT::wv5::wvI 56::wvI 4::Fg::wv5::wvI 57::wvI 4::Fh::wv5::wvI 58::wvI 4::wv13::wv5::wvI 60::wvI 3::wv17::wv5::wvI 63::wvP wv8 [wvI 69,wvI 4,wv16,wv5,wvI 71,wvI 5,XU,wv5,wvI 73])))))),wvI 73,wv5]
def mK6:c7:=[wv2,dT,dT,NY,dT,XV,XW,Fi]
theorem m6:oB dX aY (eL En bM) 95 mA6 mH6=some (mX6,mK6):=by kernel_rfl
def Eo:mD:=(95,mA6,mH6,mX6,mK6)::En
theorem CC:aD Tryz.prog dX Eo:=p7 (v8 fG l5 (s3 CA o8)) m6 CA
def mA7:List AV:=[.agg Si]
def mH7:c7:=[wv2,dT,dT,NY]
def mX7:AV:=.bool true
def mK7:c7:=[wv2,dT,dT,NY]
theorem m7:oB dX aY (eL Eo bM) 87 mA7 mH7=some (mX7,mK7):=by kernel_rfl
def Ep:mD:=(87,mA7,mH7,mX7,mK7)::Eo
theorem CD:aD Tryz.prog dX Ep:=p7 (v8 fG l5 (s3 CC o8)) m7 CC
def mA8:List AV:=[.agg Si]
def mH8:c7:=[wv2,dT]
def mX8:AV:=.tup (.agg wv31::wvP wv6 [wv5])
def mK8:c7:=[wv2,dT]
theorem m8:oB dX aY (eL Ep bM) 54 mA8 mH8=some (mX8,mK8):=by kernel_rfl
def Er:mD:=(54,mA8,mH8,mX8,mK8)::Ep
theorem CE:aD Tryz.prog dX Er:=p7 (v8 fG l5 (s3 CD o8)) m8 CD
end Go.Proofs.YtonbocmibeikmaaGreat
end
