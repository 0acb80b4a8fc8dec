/- My own texts, put together by a program of mine. -/
import Derived.Test.YtonbocmibeikmaaGreatRS23
set_option linter.unusedSimpArgs false
set_option linter.unusedVariables false
set_option maxRecDepth 100000
set_option maxHeartbeats 4000000
section
namespace Go.Proofs.YtonbocmibeikmaaGreat
open Go.Ab
set_option maxRecDepth 1000000
def mA26:List AV:=E4
def mH26:c7:=[wv2,dT,aH,aI,tT,tU,EZ,aH,aI,aH,aI]
def mX26:AV:=wv43
def mK26:c7:=[wv2,dT,aH,aI,tT,tU,EZ,aH,aI,aH,aI]
theorem m26:oB dX aY (eL NJ bM) 60 mA26 mH26=some (mX26,mK26):=by kernel_rfl
def NK:mD:=(60,mA26,mH26,mX26,mK26)::NJ
theorem O6:aD Tryz.prog dX NK:=p7 (v8 fG l5 (s3 O5 o8)) m26 O5
end Go.Proofs.YtonbocmibeikmaaGreat
end
