/- My own texts, put together by a program of mine. -/
import Derived.Test.YtonbocmibeikmaaGreatRS9
set_option linter.unusedSimpArgs false
set_option linter.unusedVariables false
set_option maxRecDepth 100000
set_option maxHeartbeats 4000000
section
namespace Go.Proofs.YtonbocmibeikmaaGreat
open Go.Ab Go.Un
theorem VA {h:c7}{p:Go.Un.Pg}(hp:GP p){u:Un}(hu:dB p=u):CB 54 [.agg [.vec p.globals.length (p4 p.globals),.vec p.mutexes.length (c9 p.mutexes),.vec p.funcs.length (n8 p.funcs)]] h (.tup [.agg [.vec u.globals.length (g6 u.globals),.vec u.mutexes.length (c9 u.mutexes),.vec u.procs.length (g7 u.procs),.int .i64 u.main],.int .i64 0,.int .i64 0,.int .i64 0]):=by subst hu;exact c_lower hp
attribute [local go_sem] rd w6 aN Int.natCast_nonneg Int.natCast_inj nD dE nE
theorem yN (L:List Int)(hL:L.length<4611686018427387904):CallA Tryz.prog cfg 15 [.vec L.length (g6 L)] [] (fun y' h'=>(∃p u c,GP p∧WU u∧WC u c∧y'=.tup [.agg (PR p),.agg [.vec u.globals.length (g6 u.globals),.vec u.mutexes.length (c9 u.mutexes),.vec u.procs.length (g7 u.procs),.int .i64 u.main],.agg [.vec c.insts.length (g9 c.insts),.vec c.calls.length (j8 c.calls),.vec c.roots.length (g6 c.roots)]])∧h'=[]):=by
 refine .bz Tryz.f15 29 ?_;refine c128z ?_;refine o1.cx rfl rfl hb53 (MR L hL) (fun y1 h1 hq1=>?_);obtain ⟨⟨p,hp,rfl⟩,rfl⟩:=hq1;generalize hup:dB p=u;have hu:WU u:=by rw[←hup];exact unit_ok hp
 simp only[PR];refine .n ?_;refine c63z ?_;refine .ca rfl rfl (VA hp hup) ?_;refine c217z ?_;refine .c5 [2,3,4,5,6] ?_;refine c63z ?_;refine o1.cx rfl rfl hb55 (c_close hu) (fun y1 h1 hq1=>?_);obtain ⟨⟨c,wc,rfl⟩,rfl⟩:=hq1;simp only[YX];refine .n ?_;refine .sg u9 (mkH 6 [0,0,0,1,11,31] [3,4,5] [] [0,8,24,56] [1,2]) 0 ?_;refine .rn [true] ?_;refine .rm [true] ?_;refine .rm [true] ?_;refine .en [true] [8,0] [_] ?_;refine .en [true,false] [24,8,0] [_] ?_;refine .en [true,false,false] [56,24,8,0] [_] ?_;refine .po [false,true,true,true] ?_;refine c27z ?_;exact .ret (.ex (hq:=by exact ⟨p,u,c,hp,hu,wc,rfl⟩))
theorem c_site {h:c7}{u:Un}{c:Clo}(hu:WU u)(wc:WC u c)(x y:Int):CB 17 [.agg [.vec u.globals.length (g6 u.globals),.vec u.mutexes.length (c9 u.mutexes),.vec u.procs.length (g7 u.procs),.int .i64 u.main],.agg [.vec c.insts.length (g9 c.insts),.vec c.calls.length (j8 c.calls),.vec c.roots.length (g6 c.roots)],.int .i64 x,.int .i64 y] h (.tup [.int .i64 (within x c.insts.length),.int .i64 (within y (c6 u (c.insts.getD (within x c.insts.length).toNat l6)).length)]):=by refine .bz Tryz.f17 31 ?_;have hl:=wc.len;have hw1:=@mF x c.insts.length (by omega);have hw2:=@pM x c.insts.length (by omega);have hwi:WIt u (c.insts.getD (within x c.insts.length).toNat l6):=wc.wi _ (j7 (by omega));have hi1:=hwi.lo;have hi2:=hwi.hi;have hcl:=n6 hu hwi;have hc1:=(dC hu hwi).1;refine .z ?_;refine c28z ?_;refine .ca rfl rfl (mZ _ _ (by omega) (by omega)) ?_;refine .n ?_;refine .c5 [3,4,5,10] ?_;refine .ss u9 (mkP 17 [0,0,0,4,0,16,0,112,240,496,1020,2044,4092,8188,16382,32767,65535] []) ?_;refine .k 8 [] ?_;refine .k 6 [] ?_;refine .ca rfl rfl (mZ _ _ (by omega) (by omega)) ?_;refine .n [] ?_;exact .ret (.ex (hq:=by rfl))
end Go.Proofs.YtonbocmibeikmaaGreat
end
section
namespace Go.Proofs.YtonbocmibeikmaaGreat
open Go.Ab
set_option maxRecDepth 1000000
abbrev wvI (n:Int):AV:=.int .i64 n
def wvB (l:List Int):List AV:=l.map fun n=>.int .u8 n
abbrev wvP (a b:List AV):List AV:=List.append a b
def wv1:List AV:=[.vec 68 (wvB [109,117,116,101,120,32,97,59,32,102,117,110,99,32,109,97,105,110,40,41,32,123,32,108,111,99,107,32,97,59,32,102,40,41,59,32,117,110,108,111,99,107,32,97,59,32,125,32,102,117,110,99,32,102,40,41,32,123,32,114,101,116,117,114,110,59,32,125])]
def wv2:Blk:=⟨1,true,0,0,[],0⟩
def wv3:Blk:=⟨0,false,27,3,[.nils,.nils,.nils],0⟩
def wv4:AV:=.str ⟨#[109,117,116,101,120]⟩
def wv5:AV:=wvI 0
def wv6:List AV:=[wv5,wv5]
def wv7:AV:=.str ⟨#[97]⟩
def wv8:List AV:=[wvI 4,.str ⟨#[59]⟩,wv5]
def wv9:AV:=.str ⟨#[102,117,110,99]⟩
def Sh:AV:=.str ⟨#[109,97,105,110]⟩
def Fg:AV:=.str ⟨#[40]⟩
def Fh:AV:=.str ⟨#[41]⟩
def wv13:AV:=.str ⟨#[123]⟩
def XT:AV:=.str ⟨#[102]⟩
def wv15:AV:=.str ⟨#[117,110,108,111,99,107]⟩
def wv16:AV:=.str ⟨#[125]⟩
def wv17:AV:=.str ⟨#[114,101,116,117,114,110]⟩
def XU:AV:=.str ⟨#[]⟩
def M8:AV:=.vec 0 []
def V7:AV:=.bool false
def NX:List AV:=wvP wv6 [XU,M8]
def BT:List AV:=[M8,M8]
def wv23:AV:=.vec 3 (wvI 5::XU::wvP NX (wv7::wvP BT (wvP BT (wvI 3::XT::wvP NX (XU::wvP BT (wvP BT (wvI 6::XU::wvP NX (wv7::wvP BT BT))))))))
def wv24:AV:=.vec 1 (wvI 9::XU::wvP NX (XU::wvP BT BT))
def Si:List AV:=[M8,.vec 1 [wv7,V7,wv5],.vec 2 [Sh,M8,wv23,XT,M8,wv24]]
def dT:Blk:=⟨0,false,27,3,Si,0⟩
def NY:Blk:=⟨0,false,30,4,[.nils,.nils,.nils,wv5],0⟩
def XV:Blk:=⟨0,false,66,3,[wv7,V7,wv5],0⟩
def XW:Blk:=⟨0,false,136,3,[Sh,M8,wv23],0⟩
def Fi:Blk:=⟨0,false,136,3,[XT,M8,wv24],0⟩
def wv31:List AV:=[M8,.vec 1 [wv7,V7,wv5],.vec 2 (Sh::wvP wv6 (wv5::(.vec 4 (wvI 4::wv5::V7::wvP NX (V7::wv5::wvP BT (M8::wvI 2::wvI 1::V7::wvP NX (V7::wv5::wvP BT (M8::wvI 5::wv5::V7::wvP NX (V7::wv5::wvP BT (M8::wvI 8::wv5::V7::wvP NX (V7::wv5::wvP BT [M8])))))))))::XT::wvP wv6 [wv5,.vec 2 (wvI 8::wv5::V7::wvP NX (V7::wv5::wvP BT (M8::wvI 8::wv5::V7::wvP NX (V7::wv5::wvP BT [M8]))))])),wv5]
def aH:Blk:=⟨0,false,30,4,wv31,0⟩
def wv33:List AV:=[.vec 2 [wv5,M8,wvI 1,M8],.vec 2 [.vec 4 [wvI (-1),wvI 1,wvI (-1),wvI (-1)],.vec 2 [wvI (-1),wvI (-1)]],.vec 1 [wv5]]
def E4:List AV:=[.agg wv31,.agg wv33,wv5]
def aI:Blk:=⟨0,false,34,3,wv33,0⟩
def tS:Blk:=⟨0,false,104,3,[.nils,.nils,.nils],0⟩
def cW:Blk:=⟨0,true,0,0,[],0⟩
def Sj:AV:=.vec 2 [wvI 1,wvI 2]
def EP:AV:=.vec 2 [.vec 2 [wvI 1,wv5],Sj]
def EX:Blk:=⟨1,false,104,3,[.nils,.nils,.nils],0⟩
def EY:Blk:=⟨1,false,3,1,wv6,0⟩
def wv42:AV:=.vec 2 [wvI 2,wv5]
def wv43:AV:=.agg [EP,.vec 2 [.vec 4 [Sj,wv42,wv42,.vec 2 [wvI 1,wv5]],.vec 2 [Sj,.vec 2 wv6]],Sj]
def wv44:AV:=.vec 2 [.vec 4 [wvI 1,wvI 2,wvI 2,wvI 1],wv42]
def tT:Blk:=⟨0,false,3,1,[wvI 1,wvI 2,wvI 2,wvI 1],0⟩
def tU:Blk:=⟨0,false,3,1,[wvI 2,wv5],0⟩
def EZ:Blk:=⟨0,false,3,1,[wvI 1,wvI 2],0⟩
noncomputable def dX:Cfg:={ ti:=tiT.at default 268,glob:=fun _=>.any,fns:=fnT.at none 211,meth:=fun t n=>G3 Q3 t n,kK:=fun f=>Nat.beq f 61,virt:=fun _=>[] }
theorem tisOkK:(List.range 268).all (fun t=>F9 Tryz.prog dX t&&G0 Tryz.prog dX t)=true:=by kernel_rfl
theorem fG:Ab.Good Tryz.prog dX:=G4 tisOkK rfl rfl fnsOk (fun t name f h v w=>FP VL t name f h v w) HC
open Go.Pl in
def BU:List (Nat×List (Nat×u3)):=(111,[(14,G 10 [0,0,3,7,0,16,0,112,255,511] 384 [0,0,0,0,0,0,0,0,128,384] [256,256,256,256,384,384,384,256,0,0] [] [0,128,384] [0,1,2,3])])::Q4
def aY:kN:=fun f=>pA BU f
theorem D6:sP dX BU=true:=by kernel_rfl
theorem l5:uM dX aY:=xN D6
def plainF (f:FuncId):Bool:=Nat.beq f 130||Nat.beq f 131||Nat.beq f 132||Nat.beq f 137||Nat.beq f 138||Nat.beq f 139||Nat.beq f 140||Nat.beq f 141||Nat.beq f 142||Nat.beq f 159||Nat.beq f 160||Nat.beq f 161||Nat.beq f 162||Nat.beq f 163||Nat.beq f 164||Nat.beq f 170||Nat.beq f 179||Nat.beq f 180||Nat.beq f 181||Nat.beq f 182||Nat.beq f 183||Nat.beq f 184||Nat.beq f 188||Nat.beq f 189
def XX:mD:=[]
theorem MS:aD Tryz.prog dX XX:=X7
noncomputable def evalH:eK:=s5 dX aY 100
theorem VB:evalH.ok Tryz.prog dX:=zH fG l5 100
noncomputable def bM:eK:=YP plainF (eL XX evalH)
theorem o8:bM.ok Tryz.prog dX:=PG (s3 MS VB)
def Ei:mD:=[]
theorem BV:aD Tryz.prog dX Ei:=X7
def mA1:List AV:=wv1
def mH1:c7:=[wv2,wv3]
def mX1:AV:=.tup [.vec 28 (wvI 3::wv4::wvP wv6 (wvI 1::wv7::wv5::wvI 6::wvP wv8 (wvI 7::wvI 3::wv9::wv5::wvI 9::wvI 1::Sh::wv5::wvI 14::wvI 4::Fg::wv5::wvI 18::wvI 4::Fh::wv5::wvI 19::wvI 4::wv13::wv5::wvI 21::wvI 3::.str ⟨#[108,111,99,107]⟩::wv5::wvI 23::wvI 1::wv7::wv5::wvI 28::wvP wv8 (wvI 29::wvI 1::XT::wv5::wvI 31::wvI 4::Fg::wv5::wvI 32::wvI 4::Fh::wv5::wvI 33::wvP wv8 (wvI 34::wvI 3::wv15::wv5::wvI 36::wvI 1::wv7::wv5::wvI 43::wvP wv8 (wvI 44::wvI 4::wv16::wv5::wvI 46::wvI 3::wv9::wv5::wvI 48::wvI 1::XT::wv5::wvI 53::wvI 4::Fg::wv5::wvI 54::wvI 4::Fh::wv5::wvI 55::wvI 4::wv13::wv5::wvI 57::wvI 3::wv17::wv5::wvI 59::wvP wv8 [wvI 65,wvI 4,wv16,wv5,wvI 67,wvI 5,XU,wv5,wvI 68])))))),wvI 68,wv5]
def mK1:c7:=[wv2,wv3]
theorem m1:oB dX aY (eL Ei bM) 95 mA1 mH1=some (mX1,mK1):=by kernel_rfl
def Ej:mD:=(95,mA1,mH1,mX1,mK1)::Ei
theorem BW:aD Tryz.prog dX Ej:=p7 (v8 fG l5 (s3 BV o8)) m1 BV
end Go.Proofs.YtonbocmibeikmaaGreat
end
