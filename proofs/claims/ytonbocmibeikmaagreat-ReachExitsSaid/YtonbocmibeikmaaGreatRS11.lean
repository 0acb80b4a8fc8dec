/- My own texts, put together by a program of mine. -/
import Derived.Test.YtonbocmibeikmaaGreatRS10
set_option linter.unusedSimpArgs false
set_option linter.unusedVariables false
set_option maxRecDepth 100000
set_option maxHeartbeats 4000000
section
namespace Go.Proofs.YtonbocmibeikmaaGreat
open Go.Ab
set_option maxRecDepth 1000000
def mA2:List AV:=wv1
def mH2:c7:=[wv2]
def mX2:AV:=.tup [.agg Si,wvI 68,wv5]
def mK2:c7:=[wv2]
theorem m2:oB dX aY (eL Ej bM) 59 mA2 mH2=some (mX2,mK2):=by kernel_rfl
def Ek:mD:=(59,mA2,mH2,mX2,mK2)::Ej
theorem BX:aD Tryz.prog dX Ek:=p7 (v8 fG l5 (s3 BW o8)) m2 BW
def mA3:List AV:=[wv23,wv5]
def mH3:c7:=[wv2,dT,dT,NY,dT,XV,XW]
def mX3:AV:=.bool true
def mK3:c7:=[wv2,dT,dT,NY,dT,XV,XW]
theorem m3:oB dX aY (eL Ek bM) 131 mA3 mH3=some (mX3,mK3):=by kernel_rfl
def El:mD:=(131,mA3,mH3,mX3,mK3)::Ek
theorem BY:aD Tryz.prog dX El:=p7 (v8 fG l5 (s3 BX o8)) m3 BX
def mA4:List AV:=[wv24,wv5]
def mH4:c7:=[wv2,dT,dT,NY,dT,XV,XW,Fi]
def mX4:AV:=.bool true
def mK4:c7:=[wv2,dT,dT,NY,dT,XV,XW,Fi]
theorem m4:oB dX aY (eL El bM) 131 mA4 mH4=some (mX4,mK4):=by kernel_rfl
def Em:mD:=(131,mA4,mH4,mX4,mK4)::El
theorem BZ:aD Tryz.prog dX Em:=p7 (v8 fG l5 (s3 BY o8)) m4 BY
def mA5:List AV:=[.agg Si]
def mH5:c7:=[wv2,dT,dT,NY,dT,XV,XW,Fi]
def mX5:AV:=.str ⟨#[109,117,116,101,120,32,97,59,10,102,117,110,99,32,109,97,105,110,40,41,32,123,10,9,108,111,99,107,32,97,59,10,9,102,40,41,59,10,9,117,110,108,111,99,107,32,97,59,10,125,10,102,117,110,99,32,102,40,41,32,123,10,9,114,101,116,117,114,110,59,10,125,10]⟩
def mK5:c7:=[wv2,dT,dT,NY,dT,XV,XW,Fi]
theorem m5:oB dX aY (eL Em bM) 132 mA5 mH5=some (mX5,mK5):=by kernel_rfl
def En:mD:=(132,mA5,mH5,mX5,mK5)::Em
theorem CA:aD Tryz.prog dX En:=p7 (v8 fG l5 (s3 BZ o8)) m5 BZ
end Go.Proofs.YtonbocmibeikmaaGreat
end
