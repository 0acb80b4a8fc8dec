/- My own texts, put together by a program of mine. -/
import Derived.Test.YtonbocmibeikmaaGreatRS25
set_option linter.unusedSimpArgs false
set_option linter.unusedVariables false
set_option maxRecDepth 100000
set_option maxHeartbeats 4000000
section
namespace Go.Proofs.YtonbocmibeikmaaGreat
open Go.Ab
set_option maxRecDepth 1000000
def mA28:List AV:=[.agg wv31,.agg wv33,wv5,wvI 1,wv5]
def mH28:c7:=[wv2,dT,aH,aI,tT,tU,EZ]
theorem m28:oB dX aY (eL XY bM) 20 mA28 mH28=some (.bool true,mH28):=by kernel_rfl
def XY1:mD:=(20,mA28,mH28,.bool true,mH28)::XY
theorem NL1:aD Tryz.prog dX XY1:=p7 (v8 fG l5 (s3 NL o8)) m28 NL
def mA29:List AV:=[.agg wv31,.agg wv33,wv5,wv5,wv5]
theorem m29:oB dX aY (eL XY1 bM) 19 mA29 mH28=some (.bool false,mH28):=by kernel_rfl
def XY2:mD:=(19,mA29,mH28,.bool false,mH28)::XY1
theorem NL2:aD Tryz.prog dX XY2:=p7 (v8 fG l5 (s3 NL1 o8)) m29 NL1
theorem VC:oB dX aY (eL XY2 bM) 21 [] []=some (.bool true,[]):=by kernel_rfl
theorem D7 (h:c7):CallA Tryz.prog cfg 21 [] h fun y h'=>y=.bool true∧h'=h:=CallA.frame0 (C:=dX) rfl (v8 fG l5 (s3 NL2 o8) _ _ _ _ _ VC) h
end Go.Proofs.YtonbocmibeikmaaGreat
end
