/- My own texts, put together by a program of mine. -/
import Derived.Test.YtonbocmibeikmaaGreatCW11
set_option linter.unusedSimpArgs false
set_option linter.unusedVariables false
set_option maxRecDepth 100000
set_option maxHeartbeats 4000000
section
namespace Go.Proofs.YtonbocmibeikmaaGreat
open Go.Ab
set_option maxRecDepth 1000000
def mA2:List AV:=wv1
def mH2:c6:=[wv2]
def mX2:AV:=.tup [.agg Tu,wvI 58,wv5]
def mK2:c6:=[wv2]
theorem m2:W4 cfg kL (pC Fc lS) 59 mA2 mH2=some (mX2,mK2):=by kernel_rfl
def Fe:F0:=(59,mA2,mH2,mX2,mK2)::Fc
theorem BO:gK Tryz.prog cfg Fe:=dS (gU u4 aG (dZ BN dC)) m2 BN
def mA3:List AV:=[wv22,wv5]
def mH3:c6:=[wv2,nM,nM,NM,nM,XW,XX]
def mX3:AV:=.bool true
def mK3:c6:=[wv2,nM,nM,NM,nM,XW,XX]
theorem m3:W4 cfg kL (pC Fe lS) 131 mA3 mH3=some (mX3,mK3):=by kernel_rfl
def Ff:F0:=(131,mA3,mH3,mX3,mK3)::Fe
theorem BP:gK Tryz.prog cfg Ff:=dS (gU u4 aG (dZ BO dC)) m3 BO
def mA4:List AV:=[wv23,wv5]
def mH4:c6:=[wv2,nM,nM,NM,nM,XW,XX,Gh]
def mX4:AV:=.bool true
def mK4:c6:=[wv2,nM,nM,NM,nM,XW,XX,Gh]
theorem m4:W4 cfg kL (pC Ff lS) 131 mA4 mH4=some (mX4,mK4):=by kernel_rfl
def Fg:F0:=(131,mA4,mH4,mX4,mK4)::Ff
theorem BQ:gK Tryz.prog cfg Fg:=dS (gU u4 aG (dZ BP dC)) m4 BP
def mA5:List AV:=[.agg Tu]
def mH5:c6:=[wv2,nM,nM,NM,nM,XW,XX,Gh]
def mX5:AV:=.str ⟨#[109,117,116,101,120,32,97,59,10,102,117,110,99,32,109,97,105,110,40,41,32,123,10,9,108,111,99,107,32,97,59,10,9,102,40,41,59,10,125,10,102,117,110,99,32,102,40,41,32,123,10,9,114,101,116,117,114,110,59,10,125,10]⟩
def mK5:c6:=[wv2,nM,nM,NM,nM,XW,XX,Gh]
theorem m5:W4 cfg kL (pC Fg lS) 132 mA5 mH5=some (mX5,mK5):=by kernel_rfl
def Fh:F0:=(132,mA5,mH5,mX5,mK5)::Fg
theorem BS:gK Tryz.prog cfg Fh:=dS (gU u4 aG (dZ BQ dC)) m5 BQ
end Go.Proofs.YtonbocmibeikmaaGreat
end
