/- My own texts, put together by a program of mine. -/
import Derived.Test.YtapdldekgbbomaaGreatDoorGP14
set_option linter.unusedSimpArgs false
set_option linter.unusedVariables false
section
namespace Go.Proofs.YtapdldekgbbomaaGreatDoor
open Go.Ab
set_option maxRecDepth 1000000
def mA12:List AV:=[.agg Ci]
def mH12:c8:=[KL,UJ,KM,KM]
def mX12:AV:=wvI 9
def mK12:c8:=[KL,UJ,KM,KM]
theorem m12:A9 cfg dO (mK JQ iI) 18 mA12 mH12=some (mX12,mK12):=by kernel_rfl
def JR:wB:=(18,mA12,mH12,mX12,mK12)::JQ
theorem I8:eM Tryz.prog cfg JR:=bS (eI u9 z7 (cG I7 bH)) m12 I7
def mA13:List AV:=[.agg Ci,wvI 9]
def mH13:c8:=[KL,UJ,KM]
def mX13:AV:=.tup [.vec 9 (wvP wv5 (wv2::oC::oC::oC::wvI 2::oC::oC::wvP wv5 [oC,oC,oC,wvI 2,oC,wvI 2,wv2])),.bool true]
def mK13:c8:=[KL,UJ,KM]
theorem m13:A9 cfg dO (mK JR iI) 16 mA13 mH13=some (mX13,mK13):=by kernel_rfl
def JS:wB:=(16,mA13,mH13,mX13,mK13)::JR
theorem I9:eM Tryz.prog cfg JS:=bS (eI u9 z7 (cG I8 bH)) m13 I8
def mA14:List AV:=[.agg Ci]
def mH14:c8:=[KL,UJ,KM]
def mX14:AV:=wvI 9
def mK14:c8:=[KL,UJ,KM]
theorem m14:A9 cfg dO (mK JS iI) 18 mA14 mH14=some (mX14,mK14):=by kernel_rfl
def UL:wB:=(18,mA14,mH14,mX14,mK14)::JS
theorem JT:eM Tryz.prog cfg UL:=bS (eI u9 z7 (cG I9 bH)) m14 I9
end Go.Proofs.YtapdldekgbbomaaGreatDoor
end
