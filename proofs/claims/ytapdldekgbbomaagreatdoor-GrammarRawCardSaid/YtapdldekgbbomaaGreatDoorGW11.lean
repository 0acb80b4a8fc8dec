/- My own texts, put together by a program of mine. -/
import Derived.Test.YtapdldekgbbomaaGreatDoorGW10
section
namespace Go.Proofs.YtapdldekgbbomaaGreatDoor
open Go.Ab
set_option maxRecDepth 1000000
def mA2:List AV:=wv1
def mH2:c8:=[wv3,wv4,wv6,wv7]
def mX2:AV:=.tup [.agg Iq,wvI 65,wv2]
def mK2:c8:=[wv3,wv4,wv6,wv7]
theorem m2:A3 cfg dS (lW YN iE) 62 mA2 mH2=some (mX2,mK2):=by kernel_rfl
def YO:vP:=(62,mA2,mH2,mX2,mK2)::YN
theorem X4:eG Tryz.prog cfg YO:=bX (eD w7 aB (cI X3 bQ)) m2 X3
def mA3:List AV:=[wv27,wv2]
def mH3:c8:=[wv3,wv4,wv6,wv7,nS,nS,wv3,nS,SY,SZ]
def mX3:AV:=.bool true
def mK3:c8:=[wv3,wv4,wv6,wv7,nS,nS,wv3,nS,SY,SZ]
theorem m3:A3 cfg dS (lW YO iE) 68 mA3 mH3=some (mX3,mK3):=by kernel_rfl
def YP:vP:=(68,mA3,mH3,mX3,mK3)::YO
theorem X5:eG Tryz.prog cfg YP:=bX (eD w7 aB (cI X4 bQ)) m3 X4
def mA4:List AV:=[wv28,wv2]
def mH4:c8:=[wv3,wv4,wv6,wv7,nS,nS,wv3,nS,SY,SZ,ZJ]
def mX4:AV:=.bool true
def mK4:c8:=[wv3,wv4,wv6,wv7,nS,nS,wv3,nS,SY,SZ,ZJ]
theorem m4:A3 cfg dS (lW YP iE) 68 mA4 mH4=some (mX4,mK4):=by kernel_rfl
def YQ:vP:=(68,mA4,mH4,mX4,mK4)::YP
theorem X6:eG Tryz.prog cfg YQ:=bX (eD w7 aB (cI X5 bQ)) m4 X5
def mA5:List AV:=[.agg Iq]
def mH5:c8:=[wv3,wv4,wv6,wv7,nS,nS,wv3,nS,SY,SZ,ZJ]
def mX5:AV:=.str ⟨#[109,117,116,101,120,32,97,59,10,102,117,110,99,32,109,97,105,110,40,41,32,123,10,9,102,40,41,59,10,9,102,40,41,59,10,125,10,102,117,110,99,32,102,40,41,32,123,10,9,108,111,99,107,32,97,59,10,9,117,110,108,111,99,107,32,97,59,10,125,10]⟩
def mK5:c8:=[wv3,wv4,wv6,wv7,nS,nS,wv3,nS,SY,SZ,ZJ]
theorem m5:A3 cfg dS (lW YQ iE) 70 mA5 mH5=some (mX5,mK5):=by kernel_rfl
def YR:vP:=(70,mA5,mH5,mX5,mK5)::YQ
theorem X7:eG Tryz.prog cfg YR:=bX (eD w7 aB (cI X6 bQ)) m5 X6
end Go.Proofs.YtapdldekgbbomaaGreatDoor
end
