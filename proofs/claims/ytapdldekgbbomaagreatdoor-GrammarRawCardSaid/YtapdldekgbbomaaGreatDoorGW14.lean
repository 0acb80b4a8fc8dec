/- My own texts, put together by a program of mine. -/
import Derived.Test.YtapdldekgbbomaaGreatDoorGW13
section
namespace Go.Proofs.YtapdldekgbbomaaGreatDoor
open Go.Ab
set_option maxRecDepth 1000000
def mA10:List AV:=[]
def mH10:c8:=[]
def mX10:AV:=.tup [.agg Ir,.agg wv37,.agg ZK]
def mK10:c8:=[]
theorem m10:A3 cfg dS (lW YV iE) 37 mA10 mH10=some (mX10,mK10):=by kernel_rfl
def JG:vP:=(37,mA10,mH10,mX10,mK10)::YV
theorem H6:eG Tryz.prog cfg JG:=bX (eD w7 aB (cI Y1 bQ)) m10 Y1
def mA11:List AV:=[.agg Ir,.agg wv37,.agg ZK]
def mH11:c8:=[KF,TA,KG]
def mX11:AV:=.tup [.vec 2 (wv2::nO::wvP wv5 [nO,wv2]),wvI 2,wv2]
def mK11:c8:=[KF,TA,KG]
theorem m11:A3 cfg dS (lW JG iE) 10 mA11 mH11=some (mX11,mK11):=by kernel_rfl
def JH:vP:=(10,mA11,mH11,mX11,mK11)::JG
theorem H7:eG Tryz.prog cfg JH:=bX (eD w7 aB (cI H6 bQ)) m11 H6
end Go.Proofs.YtapdldekgbbomaaGreatDoor
end
