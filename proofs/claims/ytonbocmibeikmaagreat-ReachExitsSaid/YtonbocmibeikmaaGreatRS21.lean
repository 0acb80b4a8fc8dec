/- My own texts, put together by a program of mine. -/
import Derived.Test.YtonbocmibeikmaaGreatRS14
set_option linter.unusedSimpArgs false
set_option linter.unusedVariables false
set_option maxRecDepth 100000
set_option maxHeartbeats 4000000
section
namespace Go.Proofs.YtonbocmibeikmaaGreat
open Go.Ab
set_option maxRecDepth 1000000
def mA13:List AV:=E4
def mH13:c7:=[wv2,dT,aH,aI,aH,aI,aH,aI,tS,EY,EX]
def mX13:AV:=EP
def mK13:c7:=[wv2,dT,aH,aI,aH,aI,aH,aI,tS,EY,EX]
theorem m13:oB dX aY (eL MV bM) 23 mA13 mH13=some (mX13,mK13):=by kernel_rfl
def MW:mD:=(23,mA13,mH13,mX13,mK13)::MV
theorem N2:aD Tryz.prog dX MW:=p7 (v8 fG l5 (s3 N1 o8)) m13 N1
end Go.Proofs.YtonbocmibeikmaaGreat
end
