/- My own texts, put together by a program of mine. -/
import Derived.Test.YtonbocmibeikmaaGreatIX15
set_option linter.unusedSimpArgs false
set_option linter.unusedVariables false
set_option maxRecDepth 100000
set_option maxHeartbeats 4000000
section
namespace Go.Proofs.YtonbocmibeikmaaGreat
open Go.Ab
set_option maxRecDepth 1000000
def mA11:List AV:=YZ
def mH11:c6:=[wv2,kE,iK,iV,iK,iV,vD,vD,iK,iV,iK,iV,ZA,ZB,wv30]
def mX11:AV:=Hj
def mK11:c6:=[wv2,kE,iK,iV,iK,iV,vD,vD,iK,iV,iK,iV,ZA,ZB,wv30]
theorem m11:xX jU fJ (kG NT gG) 23 mA11 mH11=some (mX11,mK11):=by kernel_rfl
def NU:sX:=(23,mA11,mH11,mX11,mK11)::NT
theorem Q0:dN Tryz.prog jU NU:=aM (cZ lS s7 (bB P9 aE)) m11 P9
end Go.Proofs.YtonbocmibeikmaaGreat
end
