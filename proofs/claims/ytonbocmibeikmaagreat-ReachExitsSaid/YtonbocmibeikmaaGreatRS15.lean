/- My own texts, put together by a program of mine. -/
import Derived.Test.YtonbocmibeikmaaGreatRS21
set_option linter.unusedSimpArgs false
set_option linter.unusedVariables false
set_option maxRecDepth 100000
set_option maxHeartbeats 4000000
section
namespace Go.Proofs.YtonbocmibeikmaaGreat
open Go.Ab
set_option maxRecDepth 1000000
def mA14:List AV:=E4
def mH14:c7:=[wv2,dT,aH,aI,aH,aI]
def mX14:AV:=wv43
def mK14:c7:=[wv2,dT,aH,aI,aH,aI]
theorem m14:oB dX aY (eL MW bM) 60 mA14 mH14=some (mX14,mK14):=by kernel_rfl
def MX:mD:=(60,mA14,mH14,mX14,mK14)::MW
theorem N4:aD Tryz.prog dX MX:=p7 (v8 fG l5 (s3 N2 o8)) m14 N2
def mA15:List AV:=E4
def mH15:c7:=[wv2,dT,aH,aI]
def mX15:AV:=wv44
def mK15:c7:=[wv2,dT,aH,aI]
theorem m15:oB dX aY (eL MX bM) 22 mA15 mH15=some (mX15,mK15):=by kernel_rfl
def MY:mD:=(22,mA15,mH15,mX15,mK15)::MX
theorem N5:aD Tryz.prog dX MY:=p7 (v8 fG l5 (s3 N4 o8)) m15 N4
end Go.Proofs.YtonbocmibeikmaaGreat
end
