/- My own texts, put together by a program of mine. -/
import Derived.Test.YtapdldekgbbomaaGreatDoorGP10
set_option linter.unusedSimpArgs false
set_option linter.unusedVariables false
section
namespace Go.Proofs.YtapdldekgbbomaaGreatDoor
open Go.Ab
set_option maxRecDepth 1000000
def mA2:List AV:=wv1
def mH2:c8:=[wv3,wv4,wv6,wv7]
def mX2:AV:=.tup [.agg Ml,wvI 65,wv2]
def mK2:c8:=[wv3,wv4,wv6,wv7]
theorem m2:A9 cfg dO (mK Bg iI) 62 mA2 mH2=some (mX2,mK2):=by kernel_rfl
def Bh:wB:=(62,mA2,mH2,mX2,mK2)::Bg
theorem Y6:eM Tryz.prog cfg Bh:=bS (eI u9 z7 (cG Y5 bH)) m2 Y5
def mA3:List AV:=[wv27,wv2]
def mH3:c8:=[wv3,wv4,wv6,wv7,oG,oG,wv3,oG,UH,UI]
def mX3:AV:=.bool true
def mK3:c8:=[wv3,wv4,wv6,wv7,oG,oG,wv3,oG,UH,UI]
theorem m3:A9 cfg dO (mK Bh iI) 68 mA3 mH3=some (mX3,mK3):=by kernel_rfl
def Bi:wB:=(68,mA3,mH3,mX3,mK3)::Bh
theorem Y7:eM Tryz.prog cfg Bi:=bS (eI u9 z7 (cG Y6 bH)) m3 Y6
def mA4:List AV:=[wv28,wv2]
def mH4:c8:=[wv3,wv4,wv6,wv7,oG,oG,wv3,oG,UH,UI,Ch]
def mX4:AV:=.bool true
def mK4:c8:=[wv3,wv4,wv6,wv7,oG,oG,wv3,oG,UH,UI,Ch]
theorem m4:A9 cfg dO (mK Bi iI) 68 mA4 mH4=some (mX4,mK4):=by kernel_rfl
def Bj:wB:=(68,mA4,mH4,mX4,mK4)::Bi
theorem Y8:eM Tryz.prog cfg Bj:=bS (eI u9 z7 (cG Y7 bH)) m4 Y7
def mA5:List AV:=[.agg Ml]
def mH5:c8:=[wv3,wv4,wv6,wv7,oG,oG,wv3,oG,UH,UI,Ch]
def mX5:AV:=.str ⟨#[109,117,116,101,120,32,97,59,10,102,117,110,99,32,109,97,105,110,40,41,32,123,10,9,102,40,41,59,10,9,102,40,41,59,10,125,10,102,117,110,99,32,102,40,41,32,123,10,9,108,111,99,107,32,97,59,10,9,117,110,108,111,99,107,32,97,59,10,125,10]⟩
def mK5:c8:=[wv3,wv4,wv6,wv7,oG,oG,wv3,oG,UH,UI,Ch]
theorem m5:A9 cfg dO (mK Bj iI) 70 mA5 mH5=some (mX5,mK5):=by kernel_rfl
def Bk:wB:=(70,mA5,mH5,mX5,mK5)::Bj
theorem Y9:eM Tryz.prog cfg Bk:=bS (eI u9 z7 (cG Y8 bH)) m5 Y8
end Go.Proofs.YtapdldekgbbomaaGreatDoor
end
