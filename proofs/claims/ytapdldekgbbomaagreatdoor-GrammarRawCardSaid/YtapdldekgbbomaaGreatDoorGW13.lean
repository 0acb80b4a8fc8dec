/- My own texts, put together by a program of mine. -/
import Derived.Test.YtapdldekgbbomaaGreatDoorGW12
section
namespace Go.Proofs.YtapdldekgbbomaaGreatDoor
open Go.Ab
set_option maxRecDepth 1000000
def mA7:List AV:=[.agg Iq]
def mH7:c8:=[wv3,wv4,wv6,wv7,nS,nS,wv3]
def mX7:AV:=.bool true
def mK7:c8:=[wv3,wv4,wv6,wv7,nS,nS,wv3]
theorem m7:A3 cfg dS (lW YS iE) 46 mA7 mH7=some (mX7,mK7):=by kernel_rfl
def YT:vP:=(46,mA7,mH7,mX7,mK7)::YS
theorem X9:eG Tryz.prog cfg YT:=bX (eD w7 aB (cI X8 bQ)) m7 X8
def mA8:List AV:=[.agg Iq]
def mH8:c8:=[wv3,wv4,wv6,wv7,nS]
def mX8:AV:=.tup (.agg Ir::wvP wv5 [wv2])
def mK8:c8:=[wv3,wv4,wv6,wv7,nS]
theorem m8:A3 cfg dS (lW YT iE) 26 mA8 mH8=some (mX8,mK8):=by kernel_rfl
def YU:vP:=(26,mA8,mH8,mX8,mK8)::YT
theorem Y0:eG Tryz.prog cfg YU:=bX (eD w7 aB (cI X9 bQ)) m8 X9
def mA9:List AV:=[.agg Ir]
def mH9:c8:=[wv3,wv4,wv6,wv7,nS,KF]
def mX9:AV:=.tup [.agg wv37,wv2]
def mK9:c8:=[wv3,wv4,wv6,wv7,nS,KF]
theorem m9:A3 cfg dS (lW YU iE) 27 mA9 mH9=some (mX9,mK9):=by kernel_rfl
def YV:vP:=(27,mA9,mH9,mX9,mK9)::YU
theorem Y1:eG Tryz.prog cfg YV:=bX (eD w7 aB (cI Y0 bQ)) m9 Y0
end Go.Proofs.YtapdldekgbbomaaGreatDoor
end
