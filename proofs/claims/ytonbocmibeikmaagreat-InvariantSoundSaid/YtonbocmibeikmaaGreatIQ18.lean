/- My own texts, put together by a program of mine. -/
import Derived.Test.YtonbocmibeikmaaGreatIQ17
set_option linter.unusedSimpArgs false
set_option linter.unusedVariables false
set_option maxRecDepth 100000
set_option maxHeartbeats 4000000
section
namespace Go.Proofs.YtonbocmibeikmaaGreat
open Go.Ab
set_option maxRecDepth 1000000
def mA13:List AV:=ZD
def mH13:c7:=[wv2,jG,gJ,gY,gJ,gY,uL,uL,gJ,gY,gJ,gY,ZE,wv31,wv30]
def mX13:AV:=Hn
def mK13:c7:=[wv2,jG,gJ,gY,gJ,gY,uL,uL,gJ,gY,gJ,gY,ZE,wv31,wv30]
theorem m13:wZ iZ eI (jI NY eV) 23 mA13 mH13=some (mX13,mK13):=by kernel_rfl
def NZ:sJ:=(23,mA13,mH13,mX13,mK13)::NY
theorem P8:cM Tryz.prog iZ NZ:=y0 (bY lB p9 (aG P7 w4)) m13 P7
def mA14:List AV:=ZD
def mH14:c7:=[wv2,jG,gJ,gY,gJ,gY,uL,uL,gJ,gY]
def mX14:AV:=.agg [Hn,.vec 1 Us,wv32]
def mK14:c7:=[wv2,jG,gJ,gY,gJ,gY,uL,uL,gJ,gY]
theorem m14:wZ iZ eI (jI NZ eV) 60 mA14 mH14=some (mX14,mK14):=by kernel_rfl
def OA:sJ:=(60,mA14,mH14,mX14,mK14)::NZ
theorem P9:cM Tryz.prog iZ OA:=y0 (bY lB p9 (aG P8 w4)) m14 P8
def mA15:List AV:=ZD
def mH15:c7:=[wv2,jG,gJ,gY,gJ,gY,uL,uL]
def mX15:AV:=wv32
def mK15:c7:=[wv2,jG,gJ,gY,gJ,gY,uL,uL]
theorem m15:wZ iZ eI (jI OA eV) 28 mA15 mH15=some (mX15,mK15):=by kernel_rfl
def OB:sJ:=(28,mA15,mH15,mX15,mK15)::OA
theorem Q0:cM Tryz.prog iZ OB:=y0 (bY lB p9 (aG P9 w4)) m15 P9
end Go.Proofs.YtonbocmibeikmaaGreat
end
