/- My own texts, put together by a program of mine. -/
import Derived.Test.YtonbocmibeikmaaGreatIQ11
set_option linter.unusedSimpArgs false
set_option linter.unusedVariables false
set_option maxRecDepth 100000
set_option maxHeartbeats 4000000
section
namespace Go.Proofs.YtonbocmibeikmaaGreat
open Go.Ab
set_option maxRecDepth 1000000
def mA2:List AV:=wv1
def mH2:c7:=[wv2]
def mX2:AV:=.tup [.agg Uq,wvI 42,wv5]
def mK2:c7:=[wv2]
theorem m2:wZ iZ eI (jI Gm eV) 59 mA2 mH2=some (mX2,mK2):=by kernel_rfl
def Gn:sJ:=(59,mA2,mH2,mX2,mK2)::Gm
theorem CZ:cM Tryz.prog iZ Gn:=y0 (bY lB p9 (aG CY w4)) m2 CY
def mA3:List AV:=[wv14,wv5]
def mH3:c7:=[wv2,jG,jG,ZC,jG,Hj,Hk]
def mX3:AV:=.bool true
def mK3:c7:=[wv2,jG,jG,ZC,jG,Hj,Hk]
theorem m3:wZ iZ eI (jI Gn eV) 131 mA3 mH3=some (mX3,mK3):=by kernel_rfl
def Gp:sJ:=(131,mA3,mH3,mX3,mK3)::Gn
theorem DA:cM Tryz.prog iZ Gp:=y0 (bY lB p9 (aG CZ w4)) m3 CZ
def mA4:List AV:=[.agg Uq]
def mH4:c7:=[wv2,jG,jG,ZC,jG,Hj,Hk]
def mX4:AV:=.str ⟨#[109,117,116,101,120,32,97,59,10,102,117,110,99,32,109,97,105,110,40,41,32,123,10,9,108,111,99,107,32,97,59,10,9,117,110,108,111,99,107,32,97,59,10,125,10]⟩
def mK4:c7:=[wv2,jG,jG,ZC,jG,Hj,Hk]
theorem m4:wZ iZ eI (jI Gp eV) 132 mA4 mH4=some (mX4,mK4):=by kernel_rfl
def Gq:sJ:=(132,mA4,mH4,mX4,mK4)::Gp
theorem DB:cM Tryz.prog iZ Gq:=y0 (bY lB p9 (aG DA w4)) m4 DA
end Go.Proofs.YtonbocmibeikmaaGreat
end
