/- My own texts, put together by a program of mine. -/
import Derived.Test.YtonbocmibeikmaaGreatIP15
set_option linter.unusedSimpArgs false
set_option linter.unusedVariables false
set_option maxRecDepth 100000
set_option maxHeartbeats 4000000
section
namespace Go.Proofs.YtonbocmibeikmaaGreat
open Go.Ab
set_option maxRecDepth 1000000
def mA12:List AV:=XH
def mH12:c5:=[wv2,jA,gK,gU,gK,gU,tZ,tZ,gK,gU,gK,gU,XI,wv31,XJ]
def mX12:AV:=Fa
def mK12:c5:=[wv2,jA,gK,gU,gK,gU,tZ,tZ,gK,gU,gK,gU,XI,wv31,XJ]
theorem m12:wQ iN eD (jB MC eT) 23 mA12 mH12=some (mX12,mK12):=by kernel_rfl
def MD:sD:=(23,mA12,mH12,mX12,mK12)::MC
theorem M8:cK Tryz.prog iN MD:=z7 (bY kP o8 (aJ M7 w7)) m12 M7
end Go.Proofs.YtonbocmibeikmaaGreat
end
