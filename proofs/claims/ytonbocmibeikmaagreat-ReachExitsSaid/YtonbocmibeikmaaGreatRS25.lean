/- My own texts, put together by a program of mine. -/
import Derived.Test.YtonbocmibeikmaaGreatRS24
set_option linter.unusedSimpArgs false
set_option linter.unusedVariables false
set_option maxRecDepth 100000
set_option maxHeartbeats 4000000
section
namespace Go.Proofs.YtonbocmibeikmaaGreat
open Go.Ab
set_option maxRecDepth 1000000
def mA27:List AV:=E4
def mH27:c7:=[wv2,dT,aH,aI,tT,tU,EZ,aH,aI]
def mX27:AV:=wv44
def mK27:c7:=[wv2,dT,aH,aI,tT,tU,EZ,aH,aI]
theorem m27:oB dX aY (eL NK bM) 22 mA27 mH27=some (mX27,mK27):=by kernel_rfl
def XY:mD:=(22,mA27,mH27,mX27,mK27)::NK
theorem NL:aD Tryz.prog dX XY:=p7 (v8 fG l5 (s3 O6 o8)) m27 O6
end Go.Proofs.YtonbocmibeikmaaGreat
end
