/- My own texts, put together by a program of mine. -/
import Derived.Test.YtonbocmibeikmaaGreatIP10
set_option linter.unusedSimpArgs false
set_option linter.unusedVariables false
set_option maxRecDepth 100000
set_option maxHeartbeats 4000000
section
namespace Go.Proofs.YtonbocmibeikmaaGreat
open Go.Ab
set_option maxRecDepth 1000000
def mA2:List AV:=wv1
def mH2:c5:=[wv2]
def mX2:AV:=.tup [.agg Sg,wvI 42,wv5]
def mK2:c5:=[wv2]
theorem m2:wQ iN eD (jB Dz eT) 59 mA2 mH2=some (mX2,mK2):=by kernel_rfl
def Ea:sD:=(59,mA2,mH2,mX2,mK2)::Dz
theorem BO:cK Tryz.prog iN Ea:=z7 (bY kP o8 (aJ BN w7)) m2 BN
def mA3:List AV:=[wv14,wv5]
def mH3:c5:=[wv2,jA,jA,XG,jA,Ew,Ey]
def mX3:AV:=.bool true
def mK3:c5:=[wv2,jA,jA,XG,jA,Ew,Ey]
theorem m3:wQ iN eD (jB Ea eT) 131 mA3 mH3=some (mX3,mK3):=by kernel_rfl
def Ec:sD:=(131,mA3,mH3,mX3,mK3)::Ea
theorem BP:cK Tryz.prog iN Ec:=z7 (bY kP o8 (aJ BO w7)) m3 BO
def mA4:List AV:=[.agg Sg]
def mH4:c5:=[wv2,jA,jA,XG,jA,Ew,Ey]
def mX4:AV:=.str ⟨#[109,117,116,101,120,32,97,59,10,102,117,110,99,32,109,97,105,110,40,41,32,123,10,9,108,111,99,107,32,97,59,10,9,117,110,108,111,99,107,32,97,59,10,125,10]⟩
def mK4:c5:=[wv2,jA,jA,XG,jA,Ew,Ey]
theorem m4:wQ iN eD (jB Ec eT) 132 mA4 mH4=some (mX4,mK4):=by kernel_rfl
def Ed:sD:=(132,mA4,mH4,mX4,mK4)::Ec
theorem BQ:cK Tryz.prog iN Ed:=z7 (bY kP o8 (aJ BP w7)) m4 BP
end Go.Proofs.YtonbocmibeikmaaGreat
end
