/- My own texts, put together by a program of mine. -/
import Derived.Test.YtonbocmibeikmaaGreatRS16
set_option linter.unusedSimpArgs false
set_option linter.unusedVariables false
set_option maxRecDepth 100000
set_option maxHeartbeats 4000000
section
namespace Go.Proofs.YtonbocmibeikmaaGreat
open Go.Ab
set_option maxRecDepth 1000000
def mA18:List AV:=E4
def mH18:c7:=[wv2,dT,aH,aI,tT,tU,aH,aI,aH,aI,tS,EY,cW]
def mX18:AV:=EP
def mK18:c7:=[wv2,dT,aH,aI,tT,tU,aH,aI,aH,aI,tS,EY,cW]
theorem m18:oB dX aY (eL NA bM) 23 mA18 mH18=some (mX18,mK18):=by kernel_rfl
def NB:mD:=(23,mA18,mH18,mX18,mK18)::NA
theorem N8:aD Tryz.prog dX NB:=p7 (v8 fG l5 (s3 N7 o8)) m18 N7
def mA19:List AV:=E4
def mH19:c7:=[wv2,dT,aH,aI,tT,tU,aH,aI,aH,aI,tS,EY,EX]
def mX19:AV:=EP
def mK19:c7:=[wv2,dT,aH,aI,tT,tU,aH,aI,aH,aI,tS,EY,EX]
theorem m19:oB dX aY (eL NB bM) 23 mA19 mH19=some (mX19,mK19):=by kernel_rfl
def NC:mD:=(23,mA19,mH19,mX19,mK19)::NB
theorem N9:aD Tryz.prog dX NC:=p7 (v8 fG l5 (s3 N8 o8)) m19 N8
end Go.Proofs.YtonbocmibeikmaaGreat
end
