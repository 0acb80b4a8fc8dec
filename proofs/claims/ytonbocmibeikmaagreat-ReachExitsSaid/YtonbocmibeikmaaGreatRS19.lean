/- My own texts, put together by a program of mine. -/
import Derived.Test.YtonbocmibeikmaaGreatRS18
set_option linter.unusedSimpArgs false
set_option linter.unusedVariables false
set_option maxRecDepth 100000
set_option maxHeartbeats 4000000
section
namespace Go.Proofs.YtonbocmibeikmaaGreat
open Go.Ab
set_option maxRecDepth 1000000
def mA23:List AV:=E4
def mH23:c7:=[wv2,dT,aH,aI,tT,tU,EZ,aH,aI,aH,aI,aH,aI,tS,cW,EX]
def mX23:AV:=EP
def mK23:c7:=[wv2,dT,aH,aI,tT,tU,EZ,aH,aI,aH,aI,aH,aI,tS,cW,EX]
theorem m23:oB dX aY (eL NG bM) 23 mA23 mH23=some (mX23,mK23):=by kernel_rfl
def NH:mD:=(23,mA23,mH23,mX23,mK23)::NG
theorem O3:aD Tryz.prog dX NH:=p7 (v8 fG l5 (s3 O2 o8)) m23 O2
def mA24:List AV:=E4
def mH24:c7:=[wv2,dT,aH,aI,tT,tU,EZ,aH,aI,aH,aI,aH,aI,tS,EY,cW]
def mX24:AV:=EP
def mK24:c7:=[wv2,dT,aH,aI,tT,tU,EZ,aH,aI,aH,aI,aH,aI,tS,EY,cW]
theorem m24:oB dX aY (eL NH bM) 23 mA24 mH24=some (mX24,mK24):=by kernel_rfl
def NI:mD:=(23,mA24,mH24,mX24,mK24)::NH
theorem O4:aD Tryz.prog dX NI:=p7 (v8 fG l5 (s3 O3 o8)) m24 O3
end Go.Proofs.YtonbocmibeikmaaGreat
end
