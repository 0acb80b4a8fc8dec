/- My own texts, put together by a program of mine. -/
import Derived.Test.YtapdldekgbbomaaGreatDoorGP13
set_option linter.unusedSimpArgs false
set_option linter.unusedVariables false
section
namespace Go.Proofs.YtapdldekgbbomaaGreatDoor
open Go.Ab
set_option maxRecDepth 1000000
def mA10:List AV:=[]
def mH10:c8:=[]
def mX10:AV:=.tup [.agg Mm,.agg wv37,.agg Ci]
def mK10:c8:=[]
theorem m10:A9 cfg dO (mK Bo iI) 37 mA10 mH10=some (mX10,mK10):=by kernel_rfl
def JP:wB:=(37,mA10,mH10,mX10,mK10)::Bo
theorem I6:eM Tryz.prog cfg JP:=bS (eI u9 z7 (cG Z3 bH)) m10 Z3
def mA11:List AV:=[.agg Mm,.agg wv37,.agg Ci]
def mH11:c8:=[KL,UJ,KM]
def mX11:AV:=.tup [.vec 2 (wv2::oC::wvP wv5 [oC,wv2]),wvI 2,wv2]
def mK11:c8:=[KL,UJ,KM]
theorem m11:A9 cfg dO (mK JP iI) 10 mA11 mH11=some (mX11,mK11):=by kernel_rfl
def JQ:wB:=(10,mA11,mH11,mX11,mK11)::JP
theorem I7:eM Tryz.prog cfg JQ:=bS (eI u9 z7 (cG I6 bH)) m11 I6
end Go.Proofs.YtapdldekgbbomaaGreatDoor
end
