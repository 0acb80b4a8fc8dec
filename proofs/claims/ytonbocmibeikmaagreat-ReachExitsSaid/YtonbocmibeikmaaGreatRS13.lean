/- My own texts, put together by a program of mine. -/
import Derived.Test.YtonbocmibeikmaaGreatRS12
set_option linter.unusedSimpArgs false
set_option linter.unusedVariables false
set_option maxRecDepth 100000
set_option maxHeartbeats 4000000
section
namespace Go.Proofs.YtonbocmibeikmaaGreat
open Go.Ab
set_option maxRecDepth 1000000
def mA9:List AV:=[.agg wv31]
def mH9:c7:=[wv2,dT,aH]
def mX9:AV:=.tup [.agg wv33,wv5]
def mK9:c7:=[wv2,dT,aH]
theorem m9:oB dX aY (eL Er bM) 55 mA9 mH9=some (mX9,mK9):=by kernel_rfl
def Et:mD:=(55,mA9,mH9,mX9,mK9)::Er
theorem CF:aD Tryz.prog dX Et:=p7 (v8 fG l5 (s3 CE o8)) m9 CE
def mA10:List AV:=E4
def mH10:c7:=[wv2,dT,aH,aI,aH,aI,aH,aI,tS,cW,cW]
def mX10:AV:=EP
def mK10:c7:=[wv2,dT,aH,aI,aH,aI,aH,aI,tS,cW,cW]
theorem m10:oB dX aY (eL Et bM) 23 mA10 mH10=some (mX10,mK10):=by kernel_rfl
def MT:mD:=(23,mA10,mH10,mX10,mK10)::Et
theorem M9:aD Tryz.prog dX MT:=p7 (v8 fG l5 (s3 CF o8)) m10 CF
end Go.Proofs.YtonbocmibeikmaaGreat
end
