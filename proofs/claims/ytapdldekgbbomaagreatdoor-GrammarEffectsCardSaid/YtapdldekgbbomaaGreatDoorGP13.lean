/- My own texts, put together by a program of mine. -/
import Derived.Test.YtapdldekgbbomaaGreatDoorGP12
set_option linter.unusedSimpArgs false
set_option linter.unusedVariables false
section
namespace Go.Proofs.YtapdldekgbbomaaGreatDoor
open Go.Ab
set_option maxRecDepth 1000000
def mA7:List AV:=[.agg Ml]
def mH7:c8:=[wv3,wv4,wv6,wv7,oG,oG,wv3]
def mX7:AV:=.bool true
def mK7:c8:=[wv3,wv4,wv6,wv7,oG,oG,wv3]
theorem m7:A9 cfg dO (mK Bl iI) 46 mA7 mH7=some (mX7,mK7):=by kernel_rfl
def Bm:wB:=(46,mA7,mH7,mX7,mK7)::Bl
theorem Z1:eM Tryz.prog cfg Bm:=bS (eI u9 z7 (cG Z0 bH)) m7 Z0
def mA8:List AV:=[.agg Ml]
def mH8:c8:=[wv3,wv4,wv6,wv7,oG]
def mX8:AV:=.tup (.agg Mm::wvP wv5 [wv2])
def mK8:c8:=[wv3,wv4,wv6,wv7,oG]
theorem m8:A9 cfg dO (mK Bm iI) 26 mA8 mH8=some (mX8,mK8):=by kernel_rfl
def Bn:wB:=(26,mA8,mH8,mX8,mK8)::Bm
theorem Z2:eM Tryz.prog cfg Bn:=bS (eI u9 z7 (cG Z1 bH)) m8 Z1
def mA9:List AV:=[.agg Mm]
def mH9:c8:=[wv3,wv4,wv6,wv7,oG,KL]
def mX9:AV:=.tup [.agg wv37,wv2]
def mK9:c8:=[wv3,wv4,wv6,wv7,oG,KL]
theorem m9:A9 cfg dO (mK Bn iI) 27 mA9 mH9=some (mX9,mK9):=by kernel_rfl
def Bo:wB:=(27,mA9,mH9,mX9,mK9)::Bn
theorem Z3:eM Tryz.prog cfg Bo:=bS (eI u9 z7 (cG Z2 bH)) m9 Z2
end Go.Proofs.YtapdldekgbbomaaGreatDoor
end
