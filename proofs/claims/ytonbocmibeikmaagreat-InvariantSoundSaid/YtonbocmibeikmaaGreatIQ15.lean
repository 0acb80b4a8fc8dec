/- My own texts, put together by a program of mine. -/
import Derived.Test.YtonbocmibeikmaaGreatIQ14
set_option linter.unusedSimpArgs false
set_option linter.unusedVariables false
set_option maxRecDepth 100000
set_option maxHeartbeats 4000000
section
namespace Go.Proofs.YtonbocmibeikmaaGreat
open Go.Ab
set_option maxRecDepth 1000000
def mA10:List AV:=ZD
def mH10:c7:=[wv2,jG,gJ,gY,gJ,gY,uL,uL,gJ,gY,gJ,gY,ZE,ZF,ZF]
def mX10:AV:=Hn
def mK10:c7:=[wv2,jG,gJ,gY,gJ,gY,uL,uL,gJ,gY,gJ,gY,ZE,ZF,ZF]
theorem m10:wZ iZ eI (jI Gv eV) 23 mA10 mH10=some (mX10,mK10):=by kernel_rfl
def NV:sJ:=(23,mA10,mH10,mX10,mK10)::Gv
theorem P5:cM Tryz.prog iZ NV:=y0 (bY lB p9 (aG DH w4)) m10 DH
end Go.Proofs.YtonbocmibeikmaaGreat
end
