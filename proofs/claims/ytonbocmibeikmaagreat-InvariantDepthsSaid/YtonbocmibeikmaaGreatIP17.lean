/- My own texts, put together by a program of mine. -/
import Derived.Test.YtonbocmibeikmaaGreatIP16
set_option linter.unusedSimpArgs false
set_option linter.unusedVariables false
set_option maxRecDepth 100000
set_option maxHeartbeats 4000000
section
namespace Go.Proofs.YtonbocmibeikmaaGreat
open Go.Ab
set_option maxRecDepth 1000000
def mA13:List AV:=XH
def mH13:c5:=[wv2,jA,gK,gU,gK,gU,tZ,tZ,gK,gU,gK,gU,XI,wv31,wv30]
def mX13:AV:=Fa
def mK13:c5:=[wv2,jA,gK,gU,gK,gU,tZ,tZ,gK,gU,gK,gU,XI,wv31,wv30]
theorem m13:wQ iN eD (jB MD eT) 23 mA13 mH13=some (mX13,mK13):=by kernel_rfl
def ME:sD:=(23,mA13,mH13,mX13,mK13)::MD
theorem M9:cK Tryz.prog iN ME:=z7 (bY kP o8 (aJ M8 w7)) m13 M8
def mA14:List AV:=XH
def mH14:c5:=[wv2,jA,gK,gU,gK,gU,tZ,tZ,gK,gU]
def mX14:AV:=.agg [Fa,.vec 1 Si,wv32]
def mK14:c5:=[wv2,jA,gK,gU,gK,gU,tZ,tZ,gK,gU]
theorem m14:wQ iN eD (jB ME eT) 60 mA14 mH14=some (mX14,mK14):=by kernel_rfl
def MF:sD:=(60,mA14,mH14,mX14,mK14)::ME
theorem N0:cK Tryz.prog iN MF:=z7 (bY kP o8 (aJ M9 w7)) m14 M9
def mA15:List AV:=XH
def mH15:c5:=[wv2,jA,gK,gU,gK,gU,tZ,tZ]
def mX15:AV:=wv32
def mK15:c5:=[wv2,jA,gK,gU,gK,gU,tZ,tZ]
theorem m15:wQ iN eD (jB MF eT) 28 mA15 mH15=some (mX15,mK15):=by kernel_rfl
def MG:sD:=(28,mA15,mH15,mX15,mK15)::MF
theorem N1:cK Tryz.prog iN MG:=z7 (bY kP o8 (aJ N0 w7)) m15 N0
end Go.Proofs.YtonbocmibeikmaaGreat
end
