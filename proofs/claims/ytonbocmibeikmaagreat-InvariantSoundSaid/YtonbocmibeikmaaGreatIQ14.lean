/- My own texts, put together by a program of mine. -/
import Derived.Test.YtonbocmibeikmaaGreatIQ13
set_option linter.unusedSimpArgs false
set_option linter.unusedVariables false
set_option maxRecDepth 100000
set_option maxHeartbeats 4000000
section
namespace Go.Proofs.YtonbocmibeikmaaGreat
open Go.Ab
set_option maxRecDepth 1000000
def mA6:List AV:=[.agg Uq]
def mH6:c7:=[wv2,jG,jG,ZC]
def mX6:AV:=.bool true
def mK6:c7:=[wv2,jG,jG,ZC]
theorem m6:wZ iZ eI (jI Gr eV) 87 mA6 mH6=some (mX6,mK6):=by kernel_rfl
def Gs:sJ:=(87,mA6,mH6,mX6,mK6)::Gr
theorem DD:cM Tryz.prog iZ Gs:=y0 (bY lB p9 (aG DC w4)) m6 DC
def mA7:List AV:=[.agg Uq]
def mH7:c7:=[wv2,jG]
def mX7:AV:=.tup (.agg Hm::wvP wv6 [wv5])
def mK7:c7:=[wv2,jG]
theorem m7:wZ iZ eI (jI Gs eV) 54 mA7 mH7=some (mX7,mK7):=by kernel_rfl
def Gt:sJ:=(54,mA7,mH7,mX7,mK7)::Gs
theorem DE:cM Tryz.prog iZ Gt:=y0 (bY lB p9 (aG DD w4)) m7 DD
def mA8:List AV:=[.agg Hm]
def mH8:c7:=[wv2,jG,gJ]
def mX8:AV:=.tup [.agg Ur,wv5]
def mK8:c7:=[wv2,jG,gJ]
theorem m8:wZ iZ eI (jI Gt eV) 55 mA8 mH8=some (mX8,mK8):=by kernel_rfl
def Gu:sJ:=(55,mA8,mH8,mX8,mK8)::Gt
theorem DF:cM Tryz.prog iZ Gu:=y0 (bY lB p9 (aG DE w4)) m8 DE
def mA9:List AV:=ZD
def mH9:c7:=[wv2,jG,gJ,gY,gJ,gY]
def mX9:AV:=Hn
def mK9:c7:=[wv2,jG,gJ,gY,gJ,gY]
theorem m9:wZ iZ eI (jI Gu eV) 23 mA9 mH9=some (mX9,mK9):=by kernel_rfl
def Gv:sJ:=(23,mA9,mH9,mX9,mK9)::Gu
theorem DH:cM Tryz.prog iZ Gv:=y0 (bY lB p9 (aG DF w4)) m9 DF
end Go.Proofs.YtonbocmibeikmaaGreat
end
