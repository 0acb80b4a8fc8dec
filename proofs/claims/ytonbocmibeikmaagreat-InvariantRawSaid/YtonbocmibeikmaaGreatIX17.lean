/- My own texts, put together by a program of mine. -/
import Derived.Test.YtonbocmibeikmaaGreatIX16
set_option linter.unusedSimpArgs false
set_option linter.unusedVariables false
set_option maxRecDepth 100000
set_option maxHeartbeats 4000000
section
namespace Go.Proofs.YtonbocmibeikmaaGreat
open Go.Ab
set_option maxRecDepth 1000000
def mA12:List AV:=YZ
def mH12:c6:=[wv2,kE,iK,iV,iK,iV,vD,vD,iK,iV,iK,iV,ZA,wv31,ZB]
def mX12:AV:=Hj
def mK12:c6:=[wv2,kE,iK,iV,iK,iV,vD,vD,iK,iV,iK,iV,ZA,wv31,ZB]
theorem m12:xX jU fJ (kG NU gG) 23 mA12 mH12=some (mX12,mK12):=by kernel_rfl
def NV:sX:=(23,mA12,mH12,mX12,mK12)::NU
theorem Q1:dN Tryz.prog jU NV:=aM (cZ lS s7 (bB Q0 aE)) m12 Q0
end Go.Proofs.YtonbocmibeikmaaGreat
end
