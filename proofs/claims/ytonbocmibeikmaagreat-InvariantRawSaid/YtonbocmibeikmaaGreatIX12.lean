/- My own texts, put together by a program of mine. -/
import Derived.Test.YtonbocmibeikmaaGreatIX11
set_option linter.unusedSimpArgs false
set_option linter.unusedVariables false
set_option maxRecDepth 100000
set_option maxHeartbeats 4000000
section
namespace Go.Proofs.YtonbocmibeikmaaGreat
open Go.Ab
set_option maxRecDepth 1000000
def mA2:List AV:=wv1
def mH2:c6:=[wv2]
def mX2:AV:=.tup [.agg Uo,wvI 42,wv5]
def mK2:c6:=[wv2]
theorem m2:xX jU fJ (kG Gc gG) 59 mA2 mH2=some (mX2,mK2):=by kernel_rfl
def Gd:sX:=(59,mA2,mH2,mX2,mK2)::Gc
theorem CZ:dN Tryz.prog jU Gd:=aM (cZ lS s7 (bB CY aE)) m2 CY
def mA3:List AV:=[wv14,wv5]
def mH3:c6:=[wv2,kE,kE,YY,kE,Hg,Hh]
def mX3:AV:=.bool true
def mK3:c6:=[wv2,kE,kE,YY,kE,Hg,Hh]
theorem m3:xX jU fJ (kG Gd gG) 131 mA3 mH3=some (mX3,mK3):=by kernel_rfl
def Ge:sX:=(131,mA3,mH3,mX3,mK3)::Gd
theorem DA:dN Tryz.prog jU Ge:=aM (cZ lS s7 (bB CZ aE)) m3 CZ
def mA4:List AV:=[.agg Uo]
def mH4:c6:=[wv2,kE,kE,YY,kE,Hg,Hh]
def mX4:AV:=.str ⟨#[109,117,116,101,120,32,97,59,10,102,117,110,99,32,109,97,105,110,40,41,32,123,10,9,108,111,99,107,32,97,59,10,9,117,110,108,111,99,107,32,97,59,10,125,10]⟩
def mK4:c6:=[wv2,kE,kE,YY,kE,Hg,Hh]
theorem m4:xX jU fJ (kG Ge gG) 132 mA4 mH4=some (mX4,mK4):=by kernel_rfl
def Gf:sX:=(132,mA4,mH4,mX4,mK4)::Ge
theorem DB:dN Tryz.prog jU Gf:=aM (cZ lS s7 (bB DA aE)) m4 DA
end Go.Proofs.YtonbocmibeikmaaGreat
end
