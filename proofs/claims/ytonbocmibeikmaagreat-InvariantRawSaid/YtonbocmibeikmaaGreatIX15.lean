/- My own texts, put together by a program of mine. -/
import Derived.Test.YtonbocmibeikmaaGreatIX14
set_option linter.unusedSimpArgs false
set_option linter.unusedVariables false
set_option maxRecDepth 100000
set_option maxHeartbeats 4000000
section
namespace Go.Proofs.YtonbocmibeikmaaGreat
open Go.Ab
set_option maxRecDepth 1000000
def mA10:List AV:=YZ
def mH10:c6:=[wv2,kE,iK,iV,iK,iV,vD,vD,iK,iV,iK,iV,ZA,ZB,ZB]
def mX10:AV:=Hj
def mK10:c6:=[wv2,kE,iK,iV,iK,iV,vD,vD,iK,iV,iK,iV,ZA,ZB,ZB]
theorem m10:xX jU fJ (kG Gk gG) 23 mA10 mH10=some (mX10,mK10):=by kernel_rfl
def NT:sX:=(23,mA10,mH10,mX10,mK10)::Gk
theorem P9:dN Tryz.prog jU NT:=aM (cZ lS s7 (bB DH aE)) m10 DH
end Go.Proofs.YtonbocmibeikmaaGreat
end
