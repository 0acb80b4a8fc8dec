/- My own texts, put together by a program of mine. -/
import Derived.Test.YtonbocmibeikmaaGreatIX13
set_option linter.unusedSimpArgs false
set_option linter.unusedVariables false
set_option maxRecDepth 100000
set_option maxHeartbeats 4000000
section
namespace Go.Proofs.YtonbocmibeikmaaGreat
open Go.Ab
set_option maxRecDepth 1000000
def mA6:List AV:=[.agg Uo]
def mH6:c6:=[wv2,kE,kE,YY]
def mX6:AV:=.bool true
def mK6:c6:=[wv2,kE,kE,YY]
theorem m6:xX jU fJ (kG Gg gG) 87 mA6 mH6=some (mX6,mK6):=by kernel_rfl
def Gh:sX:=(87,mA6,mH6,mX6,mK6)::Gg
theorem DD:dN Tryz.prog jU Gh:=aM (cZ lS s7 (bB DC aE)) m6 DC
def mA7:List AV:=[.agg Uo]
def mH7:c6:=[wv2,kE]
def mX7:AV:=.tup (.agg Hi::wvP wv6 [wv5])
def mK7:c6:=[wv2,kE]
theorem m7:xX jU fJ (kG Gh gG) 54 mA7 mH7=some (mX7,mK7):=by kernel_rfl
def Gi:sX:=(54,mA7,mH7,mX7,mK7)::Gh
theorem DE:dN Tryz.prog jU Gi:=aM (cZ lS s7 (bB DD aE)) m7 DD
def mA8:List AV:=[.agg Hi]
def mH8:c6:=[wv2,kE,iK]
def mX8:AV:=.tup [.agg Up,wv5]
def mK8:c6:=[wv2,kE,iK]
theorem m8:xX jU fJ (kG Gi gG) 55 mA8 mH8=some (mX8,mK8):=by kernel_rfl
def Gj:sX:=(55,mA8,mH8,mX8,mK8)::Gi
theorem DF:dN Tryz.prog jU Gj:=aM (cZ lS s7 (bB DE aE)) m8 DE
def mA9:List AV:=YZ
def mH9:c6:=[wv2,kE,iK,iV,iK,iV]
def mX9:AV:=Hj
def mK9:c6:=[wv2,kE,iK,iV,iK,iV]
theorem m9:xX jU fJ (kG Gj gG) 23 mA9 mH9=some (mX9,mK9):=by kernel_rfl
def Gk:sX:=(23,mA9,mH9,mX9,mK9)::Gj
theorem DH:dN Tryz.prog jU Gk:=aM (cZ lS s7 (bB DF aE)) m9 DF
end Go.Proofs.YtonbocmibeikmaaGreat
end
