/- My own texts, put together by a program of mine. -/
import Derived.Test.YtonbocmibeikmaaGreatRS15
set_option linter.unusedSimpArgs false
set_option linter.unusedVariables false
set_option maxRecDepth 100000
set_option maxHeartbeats 4000000
section
namespace Go.Proofs.YtonbocmibeikmaaGreat
open Go.Ab
set_option maxRecDepth 1000000
def mA16:List AV:=E4
def mH16:c7:=[wv2,dT,aH,aI,tT,tU,aH,aI,aH,aI,tS,cW,cW]
def mX16:AV:=EP
def mK16:c7:=[wv2,dT,aH,aI,tT,tU,aH,aI,aH,aI,tS,cW,cW]
theorem m16:oB dX aY (eL MY bM) 23 mA16 mH16=some (mX16,mK16):=by kernel_rfl
def MZ:mD:=(23,mA16,mH16,mX16,mK16)::MY
theorem N6:aD Tryz.prog dX MZ:=p7 (v8 fG l5 (s3 N5 o8)) m16 N5
def mA17:List AV:=E4
def mH17:c7:=[wv2,dT,aH,aI,tT,tU,aH,aI,aH,aI,tS,cW,EX]
def mX17:AV:=EP
def mK17:c7:=[wv2,dT,aH,aI,tT,tU,aH,aI,aH,aI,tS,cW,EX]
theorem m17:oB dX aY (eL MZ bM) 23 mA17 mH17=some (mX17,mK17):=by kernel_rfl
def NA:mD:=(23,mA17,mH17,mX17,mK17)::MZ
theorem N7:aD Tryz.prog dX NA:=p7 (v8 fG l5 (s3 N6 o8)) m17 N6
end Go.Proofs.YtonbocmibeikmaaGreat
end
