/- My own texts, put together by a program of mine. -/
import Derived.Test.YtonbocmibeikmaaGreatRS19
set_option linter.unusedSimpArgs false
set_option linter.unusedVariables false
set_option maxRecDepth 100000
set_option maxHeartbeats 4000000
section
namespace Go.Proofs.YtonbocmibeikmaaGreat
open Go.Ab
set_option maxRecDepth 1000000
def mA25:List AV:=E4
def mH25:c7:=[wv2,dT,aH,aI,tT,tU,EZ,aH,aI,aH,aI,aH,aI,tS,EY,EX]
def mX25:AV:=EP
def mK25:c7:=[wv2,dT,aH,aI,tT,tU,EZ,aH,aI,aH,aI,aH,aI,tS,EY,EX]
theorem m25:oB dX aY (eL NI bM) 23 mA25 mH25=some (mX25,mK25):=by kernel_rfl
def NJ:mD:=(23,mA25,mH25,mX25,mK25)::NI
theorem O5:aD Tryz.prog dX NJ:=p7 (v8 fG l5 (s3 O4 o8)) m25 O4
end Go.Proofs.YtonbocmibeikmaaGreat
end
