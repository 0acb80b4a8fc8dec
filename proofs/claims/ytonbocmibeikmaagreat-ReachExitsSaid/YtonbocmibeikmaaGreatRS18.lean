/- My own texts, put together by a program of mine. -/
import Derived.Test.YtonbocmibeikmaaGreatRS22
set_option linter.unusedSimpArgs false
set_option linter.unusedVariables false
set_option maxRecDepth 100000
set_option maxHeartbeats 4000000
section
namespace Go.Proofs.YtonbocmibeikmaaGreat
open Go.Ab
set_option maxRecDepth 1000000
def mA22:List AV:=E4
def mH22:c7:=[wv2,dT,aH,aI,tT,tU,EZ,aH,aI,aH,aI,aH,aI,tS,cW,cW]
def mX22:AV:=EP
def mK22:c7:=[wv2,dT,aH,aI,tT,tU,EZ,aH,aI,aH,aI,aH,aI,tS,cW,cW]
theorem m22:oB dX aY (eL NF bM) 23 mA22 mH22=some (mX22,mK22):=by kernel_rfl
def NG:mD:=(23,mA22,mH22,mX22,mK22)::NF
theorem O2:aD Tryz.prog dX NG:=p7 (v8 fG l5 (s3 O1 o8)) m22 O1
end Go.Proofs.YtonbocmibeikmaaGreat
end
