/- My own texts, put together by a program of mine. -/
import Derived.Test.YtonbocmibeikmaaGreatIX17
set_option linter.unusedSimpArgs false
set_option linter.unusedVariables false
set_option maxRecDepth 100000
set_option maxHeartbeats 4000000
section
namespace Go.Proofs.YtonbocmibeikmaaGreat
open Go.Ab
set_option maxRecDepth 1000000
def mA13:List AV:=YZ
def mH13:c6:=[wv2,kE,iK,iV,iK,iV,vD,vD,iK,iV,iK,iV,ZA,wv31,wv30]
def mX13:AV:=Hj
def mK13:c6:=[wv2,kE,iK,iV,iK,iV,vD,vD,iK,iV,iK,iV,ZA,wv31,wv30]
theorem m13:xX jU fJ (kG NV gG) 23 mA13 mH13=some (mX13,mK13):=by kernel_rfl
def NX:sX:=(23,mA13,mH13,mX13,mK13)::NV
theorem Q2:dN Tryz.prog jU NX:=aM (cZ lS s7 (bB Q1 aE)) m13 Q1
def mA14:List AV:=YZ
def mH14:c6:=[wv2,kE,iK,iV,iK,iV,vD,vD,iK,iV]
def mX14:AV:=.agg [Hj,.vec 1 Uq,wv32]
def mK14:c6:=[wv2,kE,iK,iV,iK,iV,vD,vD,iK,iV]
theorem m14:xX jU fJ (kG NX gG) 60 mA14 mH14=some (mX14,mK14):=by kernel_rfl
def NY:sX:=(60,mA14,mH14,mX14,mK14)::NX
theorem Q3:dN Tryz.prog jU NY:=aM (cZ lS s7 (bB Q2 aE)) m14 Q2
def mA15:List AV:=YZ
def mH15:c6:=[wv2,kE,iK,iV,iK,iV,vD,vD]
def mX15:AV:=wv32
def mK15:c6:=[wv2,kE,iK,iV,iK,iV,vD,vD]
theorem m15:xX jU fJ (kG NY gG) 28 mA15 mH15=some (mX15,mK15):=by kernel_rfl
def NZ:sX:=(28,mA15,mH15,mX15,mK15)::NY
theorem Q4:dN Tryz.prog jU NZ:=aM (cZ lS s7 (bB Q3 aE)) m15 Q3
end Go.Proofs.YtonbocmibeikmaaGreat
end
