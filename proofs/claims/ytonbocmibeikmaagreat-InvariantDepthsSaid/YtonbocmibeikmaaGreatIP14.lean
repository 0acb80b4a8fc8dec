/- My own texts, put together by a program of mine. -/
import Derived.Test.YtonbocmibeikmaaGreatIP13
set_option linter.unusedSimpArgs false
set_option linter.unusedVariables false
set_option maxRecDepth 100000
set_option maxHeartbeats 4000000
section
namespace Go.Proofs.YtonbocmibeikmaaGreat
open Go.Ab
set_option maxRecDepth 1000000
def mA10:List AV:=XH
def mH10:c5:=[wv2,jA,gK,gU,gK,gU,tZ,tZ,gK,gU,gK,gU,XI,XJ,XJ]
def mX10:AV:=Fa
def mK10:c5:=[wv2,jA,gK,gU,gK,gU,tZ,tZ,gK,gU,gK,gU,XI,XJ,XJ]
theorem m10:wQ iN eD (jB Ei eT) 23 mA10 mH10=some (mX10,mK10):=by kernel_rfl
def MB:sD:=(23,mA10,mH10,mX10,mK10)::Ei
theorem M6:cK Tryz.prog iN MB:=z7 (bY kP o8 (aJ BW w7)) m10 BW
end Go.Proofs.YtonbocmibeikmaaGreat
end
