/- My own texts, put together by a program of mine. -/
import Derived.Test.YtonbocmibeikmaaGreatRS13
set_option linter.unusedSimpArgs false
set_option linter.unusedVariables false
set_option maxRecDepth 100000
set_option maxHeartbeats 4000000
section
namespace Go.Proofs.YtonbocmibeikmaaGreat
open Go.Ab
set_option maxRecDepth 1000000
def mA11:List AV:=E4
def mH11:c7:=[wv2,dT,aH,aI,aH,aI,aH,aI,tS,cW,EX]
def mX11:AV:=EP
def mK11:c7:=[wv2,dT,aH,aI,aH,aI,aH,aI,tS,cW,EX]
theorem m11:oB dX aY (eL MT bM) 23 mA11 mH11=some (mX11,mK11):=by kernel_rfl
def MU:mD:=(23,mA11,mH11,mX11,mK11)::MT
theorem N0:aD Tryz.prog dX MU:=p7 (v8 fG l5 (s3 M9 o8)) m11 M9
def mA12:List AV:=E4
def mH12:c7:=[wv2,dT,aH,aI,aH,aI,aH,aI,tS,EY,cW]
def mX12:AV:=EP
def mK12:c7:=[wv2,dT,aH,aI,aH,aI,aH,aI,tS,EY,cW]
theorem m12:oB dX aY (eL MU bM) 23 mA12 mH12=some (mX12,mK12):=by kernel_rfl
def MV:mD:=(23,mA12,mH12,mX12,mK12)::MU
theorem N1:aD Tryz.prog dX MV:=p7 (v8 fG l5 (s3 N0 o8)) m12 N0
end Go.Proofs.YtonbocmibeikmaaGreat
end
