/- My own texts, put together by a program of mine. -/
import Derived.Test.YtonbocmibeikmaaGreatRS17
set_option linter.unusedSimpArgs false
set_option linter.unusedVariables false
set_option maxRecDepth 100000
set_option maxHeartbeats 4000000
section
namespace Go.Proofs.YtonbocmibeikmaaGreat
open Go.Ab
set_option maxRecDepth 1000000
def mA20:List AV:=E4
def mH20:c7:=[wv2,dT,aH,aI,tT,tU,aH,aI]
def mX20:AV:=wv43
def mK20:c7:=[wv2,dT,aH,aI,tT,tU,aH,aI]
theorem m20:oB dX aY (eL NC bM) 60 mA20 mH20=some (mX20,mK20):=by kernel_rfl
def ND:mD:=(60,mA20,mH20,mX20,mK20)::NC
theorem O0:aD Tryz.prog dX ND:=p7 (v8 fG l5 (s3 N9 o8)) m20 N9
def mA21:List AV:=E4
def mH21:c7:=[wv2,dT,aH,aI,tT,tU]
def mX21:AV:=Sj
def mK21:c7:=[wv2,dT,aH,aI,tT,tU]
theorem m21:oB dX aY (eL ND bM) 28 mA21 mH21=some (mX21,mK21):=by kernel_rfl
def NF:mD:=(28,mA21,mH21,mX21,mK21)::ND
theorem O1:aD Tryz.prog dX NF:=p7 (v8 fG l5 (s3 O0 o8)) m21 O0
end Go.Proofs.YtonbocmibeikmaaGreat
end
