/- My own texts, put together by a program of mine. -/
import Derived.Test.YtonbocmibeikmaaGreatIP12
set_option linter.unusedSimpArgs false
set_option linter.unusedVariables false
set_option maxRecDepth 100000
set_option maxHeartbeats 4000000
section
namespace Go.Proofs.YtonbocmibeikmaaGreat
open Go.Ab
set_option maxRecDepth 1000000
def mA6:List AV:=[.agg Sg]
def mH6:c5:=[wv2,jA,jA,XG]
def mX6:AV:=.bool true
def mK6:c5:=[wv2,jA,jA,XG]
theorem m6:wQ iN eD (jB Ee eT) 87 mA6 mH6=some (mX6,mK6):=by kernel_rfl
def Ef:sD:=(87,mA6,mH6,mX6,mK6)::Ee
theorem BT:cK Tryz.prog iN Ef:=z7 (bY kP o8 (aJ BS w7)) m6 BS
def mA7:List AV:=[.agg Sg]
def mH7:c5:=[wv2,jA]
def mX7:AV:=.tup (.agg Ez::wvP wv6 [wv5])
def mK7:c5:=[wv2,jA]
theorem m7:wQ iN eD (jB Ef eT) 54 mA7 mH7=some (mX7,mK7):=by kernel_rfl
def Eg:sD:=(54,mA7,mH7,mX7,mK7)::Ef
theorem BU:cK Tryz.prog iN Eg:=z7 (bY kP o8 (aJ BT w7)) m7 BT
def mA8:List AV:=[.agg Ez]
def mH8:c5:=[wv2,jA,gK]
def mX8:AV:=.tup [.agg Sh,wv5]
def mK8:c5:=[wv2,jA,gK]
theorem m8:wQ iN eD (jB Eg eT) 55 mA8 mH8=some (mX8,mK8):=by kernel_rfl
def Eh:sD:=(55,mA8,mH8,mX8,mK8)::Eg
theorem BV:cK Tryz.prog iN Eh:=z7 (bY kP o8 (aJ BU w7)) m8 BU
def mA9:List AV:=XH
def mH9:c5:=[wv2,jA,gK,gU,gK,gU]
def mX9:AV:=Fa
def mK9:c5:=[wv2,jA,gK,gU,gK,gU]
theorem m9:wQ iN eD (jB Eh eT) 23 mA9 mH9=some (mX9,mK9):=by kernel_rfl
def Ei:sD:=(23,mA9,mH9,mX9,mK9)::Eh
theorem BW:cK Tryz.prog iN Ei:=z7 (bY kP o8 (aJ BV w7)) m9 BV
end Go.Proofs.YtonbocmibeikmaaGreat
end
