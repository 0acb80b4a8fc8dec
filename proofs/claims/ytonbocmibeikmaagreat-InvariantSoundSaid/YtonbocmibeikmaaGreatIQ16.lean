/- My own texts, put together by a program of mine. -/
import Derived.Test.YtonbocmibeikmaaGreatIQ15
set_option linter.unusedSimpArgs false
set_option linter.unusedVariables false
set_option maxRecDepth 100000
set_option maxHeartbeats 4000000
section
namespace Go.Proofs.YtonbocmibeikmaaGreat
open Go.Ab
set_option maxRecDepth 1000000
def mA11:List AV:=ZD
def mH11:c7:=[wv2,jG,gJ,gY,gJ,gY,uL,uL,gJ,gY,gJ,gY,ZE,ZF,wv30]
def mX11:AV:=Hn
def mK11:c7:=[wv2,jG,gJ,gY,gJ,gY,uL,uL,gJ,gY,gJ,gY,ZE,ZF,wv30]
theorem m11:wZ iZ eI (jI NV eV) 23 mA11 mH11=some (mX11,mK11):=by kernel_rfl
def NX:sJ:=(23,mA11,mH11,mX11,mK11)::NV
theorem P6:cM Tryz.prog iZ NX:=y0 (bY lB p9 (aG P5 w4)) m11 P5
end Go.Proofs.YtonbocmibeikmaaGreat
end
