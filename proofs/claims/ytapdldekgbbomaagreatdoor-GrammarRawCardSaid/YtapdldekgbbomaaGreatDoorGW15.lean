/- My own texts, put together by a program of mine. -/
import Derived.Test.YtapdldekgbbomaaGreatDoorGW14
section
namespace Go.Proofs.YtapdldekgbbomaaGreatDoor
open Go.Ab
set_option maxRecDepth 1000000
def mA12:List AV:=[.agg ZK]
def mH12:c8:=[KF,TA,KG,KG]
def mX12:AV:=wvI 9
def mK12:c8:=[KF,TA,KG,KG]
theorem m12:A3 cfg dS (lW JH iE) 18 mA12 mH12=some (mX12,mK12):=by kernel_rfl
def JI:vP:=(18,mA12,mH12,mX12,mK12)::JH
theorem H8:eG Tryz.prog cfg JI:=bX (eD w7 aB (cI H7 bQ)) m12 H7
def mA13:List AV:=[.agg ZK,wvI 9]
def mH13:c8:=[KF,TA,KG]
def mX13:AV:=.tup [.vec 9 (wvP wv5 (wv2::nO::nO::nO::wvI 2::nO::nO::wvP wv5 [nO,nO,nO,wvI 2,nO,wvI 2,wv2])),.bool true]
def mK13:c8:=[KF,TA,KG]
theorem m13:A3 cfg dS (lW JI iE) 16 mA13 mH13=some (mX13,mK13):=by kernel_rfl
def JJ:vP:=(16,mA13,mH13,mX13,mK13)::JI
theorem H9:eG Tryz.prog cfg JJ:=bX (eD w7 aB (cI H8 bQ)) m13 H8
def mA14:List AV:=[.agg ZK]
def mH14:c8:=[KF,TA,KG]
def mX14:AV:=wvI 9
def mK14:c8:=[KF,TA,KG]
theorem m14:A3 cfg dS (lW JJ iE) 18 mA14 mH14=some (mX14,mK14):=by kernel_rfl
def TC:vP:=(18,mA14,mH14,mX14,mK14)::JJ
theorem JK:eG Tryz.prog cfg TC:=bX (eD w7 aB (cI H9 bQ)) m14 H9
end Go.Proofs.YtapdldekgbbomaaGreatDoor
end
