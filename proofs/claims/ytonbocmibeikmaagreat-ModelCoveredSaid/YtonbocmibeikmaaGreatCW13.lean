/- My own texts, put together by a program of mine. -/
import Derived.Test.YtonbocmibeikmaaGreatCW12
set_option linter.unusedSimpArgs false
set_option linter.unusedVariables false
set_option maxRecDepth 100000
set_option maxHeartbeats 4000000
section
namespace Go.Proofs.YtonbocmibeikmaaGreat
open Go.Ab
set_option maxRecDepth 1000000
def mA6:List AV:=[.vec 62 (wvB [109,117,116,101,120,32,97,59,10,102,117,110,99,32,109,97,105,110,40,41,32,123,10,9,108,111,99,107,32,97,59,10,9,102,40,41,59,10,125,10,102,117,110,99,32,102,40,41,32,123,10,9,114,101,116,117,114,110,59,10,125,10])]
def mH6:c6:=[wv2,nM,nM,NM,nM,XW,XX,Gh]
def mX6:AV:=.tup [.vec 25 (wvI 3::wv4::wvP wv6 [wvI 1,wv7,wv5,wvI 6,wv8,wv9,wv5,wvI 7,wvI 3,wv10,wv5,wvI 9,wvI 1,Tt,wv5,wvI 14,wv8,Gf,wv5,wvI 18,wv8,Gg,wv5,wvI 19,wv8,wv14,wv5,wvI 21,wvI 3,.str ⟨#[108,111,99,107]⟩,wv5,wvI 24,wvI 1,wv7,wv5,wvI 29,wv8,wv9,wv5,wvI 30,wvI 1,XV,wv5,wvI 33,wv8,Gf,wv5,wvI 34,wv8,Gg,wv5,wvI 35,wv8,wv9,wv5,wvI 36,wv8,wv16,wv5,wvI 38,wvI 3,wv10,wv5,wvI 40,wvI 1,XV,wv5,wvI 45,wv8,Gf,wv5,wvI 46,wv8,Gg,wv5,wvI 47,wv8,wv14,wv5,wvI 49,wvI 3,wv17,wv5,wvI 52,wv8,wv9,wv5,wvI 58,wv8,wv16,wv5,wvI 60,wvI 5,BL,wv5,wvI 62]),wvI 62,wv5]
def mK6:c6:=[wv2,nM,nM,NM,nM,XW,XX,Gh]
theorem m6:W4 cfg kL (pC Fh lS) 95 mA6 mH6=some (mX6,mK6):=by kernel_rfl
def Fi:F0:=(95,mA6,mH6,mX6,mK6)::Fh
theorem BT:gK Tryz.prog cfg Fi:=dS (gU u4 aG (dZ BS dC)) m6 BS
def mA7:List AV:=[.agg Tu]
def mH7:c6:=[wv2,nM,nM,NM]
def mX7:AV:=.bool true
def mK7:c6:=[wv2,nM,nM,NM]
theorem m7:W4 cfg kL (pC Fi lS) 87 mA7 mH7=some (mX7,mK7):=by kernel_rfl
def Fj:F0:=(87,mA7,mH7,mX7,mK7)::Fi
theorem BU:gK Tryz.prog cfg Fj:=dS (gU u4 aG (dZ BT dC)) m7 BT
def mA8:List AV:=[.agg Tu]
def mH8:c6:=[wv2,nM]
def mX8:AV:=.tup (.agg wv30::wvP wv6 [wv5])
def mK8:c6:=[wv2,nM]
theorem m8:W4 cfg kL (pC Fj lS) 54 mA8 mH8=some (mX8,mK8):=by kernel_rfl
def Fk:F0:=(54,mA8,mH8,mX8,mK8)::Fj
theorem BV:gK Tryz.prog cfg Fk:=dS (gU u4 aG (dZ BU dC)) m8 BU
def mA9:List AV:=[.agg wv30]
def mH9:c6:=[wv2,nM,wv31]
def mX9:AV:=.tup [.agg wv32,wv5]
def mK9:c6:=[wv2,nM,wv31]
theorem m9:W4 cfg kL (pC Fk lS) 55 mA9 mH9=some (mX9,mK9):=by kernel_rfl
def Fl:F0:=(55,mA9,mH9,mX9,mK9)::Fk
theorem BW:gK Tryz.prog cfg Fl:=dS (gU u4 aG (dZ BV dC)) m9 BV
end Go.Proofs.YtonbocmibeikmaaGreat
end
