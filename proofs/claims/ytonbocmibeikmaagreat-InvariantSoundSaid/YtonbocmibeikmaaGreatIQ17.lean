/- My own texts, put together by a program of mine. -/
import Derived.Test.YtonbocmibeikmaaGreatIQ16
set_option linter.unusedSimpArgs false
set_option linter.unusedVariables false
set_option maxRecDepth 100000
set_option maxHeartbeats 4000000
section
namespace Go.Proofs.YtonbocmibeikmaaGreat
open Go.Ab
set_option maxRecDepth 1000000
def mA12:List AV:=ZD
def mH12:c7:=[wv2,jG,gJ,gY,gJ,gY,uL,uL,gJ,gY,gJ,gY,ZE,wv31,ZF]
def mX12:AV:=Hn
def mK12:c7:=[wv2,jG,gJ,gY,gJ,gY,uL,uL,gJ,gY,gJ,gY,ZE,wv31,ZF]
theorem m12:wZ iZ eI (jI NX eV) 23 mA12 mH12=some (mX12,mK12):=by kernel_rfl
def NY:sJ:=(23,mA12,mH12,mX12,mK12)::NX
theorem P7:cM Tryz.prog iZ NY:=y0 (bY lB p9 (aG P6 w4)) m12 P6
end Go.Proofs.YtonbocmibeikmaaGreat
end
