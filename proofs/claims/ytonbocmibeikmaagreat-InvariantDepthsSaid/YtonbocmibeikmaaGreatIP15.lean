/- My own texts, put together by a program of mine. -/
import Derived.Test.YtonbocmibeikmaaGreatIP14
set_option linter.unusedSimpArgs false
set_option linter.unusedVariables false
set_option maxRecDepth 100000
set_option maxHeartbeats 4000000
section
namespace Go.Proofs.YtonbocmibeikmaaGreat
open Go.Ab
set_option maxRecDepth 1000000
def mA11:List AV:=XH
def mH11:c5:=[wv2,jA,gK,gU,gK,gU,tZ,tZ,gK,gU,gK,gU,XI,XJ,wv30]
def mX11:AV:=Fa
def mK11:c5:=[wv2,jA,gK,gU,gK,gU,tZ,tZ,gK,gU,gK,gU,XI,XJ,wv30]
theorem m11:wQ iN eD (jB MB eT) 23 mA11 mH11=some (mX11,mK11):=by kernel_rfl
def MC:sD:=(23,mA11,mH11,mX11,mK11)::MB
theorem M7:cK Tryz.prog iN MC:=z7 (bY kP o8 (aJ M6 w7)) m11 M6
end Go.Proofs.YtonbocmibeikmaaGreat
end
