/- My own texts, put together by a program of mine. -/
import Derived.Test.YtonbocmibeikmaaGreatIX12
set_option linter.unusedSimpArgs false
set_option linter.unusedVariables false
set_option maxRecDepth 100000
set_option maxHeartbeats 4000000
section
namespace Go.Proofs.YtonbocmibeikmaaGreat
open Go.Ab
set_option maxRecDepth 1000000
def mA5:List AV:=[.vec 45 (wvB [109,117,116,101,120,32,97,59,10,102,117,110,99,32,109,97,105,110,40,41,32,123,10,9,108,111,99,107,32,97,59,10,9,117,110,108,111,99,107,32,97,59,10,125,10])]
def mH5:c6:=[wv2,kE,kE,YY,kE,Hg,Hh]
def mX5:AV:=.tup [.vec 16 (wvI 3::wv4::wvP wv6 [wvI 1,wv7,wv5,wvI 6,wvI 4,wv8,wv5,wvI 7,wvI 3,.str ⟨#[102,117,110,99]⟩,wv5,wvI 9,wvI 1,wv9,wv5,wvI 14,wvI 4,.str ⟨#[40]⟩,wv5,wvI 18,wvI 4,.str ⟨#[41]⟩,wv5,wvI 19,wvI 4,.str ⟨#[123]⟩,wv5,wvI 21,wvI 3,.str ⟨#[108,111,99,107]⟩,wv5,wvI 24,wvI 1,wv7,wv5,wvI 29,wvI 4,wv8,wv5,wvI 30,wvI 3,wv10,wv5,wvI 33,wvI 1,wv7,wv5,wvI 40,wvI 4,wv8,wv5,wvI 41,wvI 4,.str ⟨#[125]⟩,wv5,wvI 43,wvI 5,VY,wv5,wvI 45]),wvI 45,wv5]
def mK5:c6:=[wv2,kE,kE,YY,kE,Hg,Hh]
theorem m5:xX jU fJ (kG Gf gG) 95 mA5 mH5=some (mX5,mK5):=by kernel_rfl
def Gg:sX:=(95,mA5,mH5,mX5,mK5)::Gf
theorem DC:dN Tryz.prog jU Gg:=aM (cZ lS s7 (bB DB aE)) m5 DB
end Go.Proofs.YtonbocmibeikmaaGreat
end
