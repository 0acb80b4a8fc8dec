/- My own texts, put together by a program of mine. -/
import Derived.Deep.Slices
import Derived.Deep.Fields
import Derived.ChangeSame
import Derived.Lib.SmallJoins
import Derived.Below
import Derived.Test.YtapdldekgbbomaaGreatDoorRows
import Derived.WalkKit
import Derived.ProofKit
import Derived.LaidMore
import Derived.OpenShut
import Derived.FnData
import Derived.Stop.Joined
import Derived.Test.YtapdldekgbbomaaGreatDoorGW9
set_option linter.unusedSimpArgs false
set_option linter.unusedVariables false
set_option maxRecDepth 100000
set_option maxHeartbeats 4000000
section
namespace Go.Proofs.YtapdldekgbbomaaGreatDoor
open Go.Ab Go.Un
theorem A2 {h:c8}{p:Go.Un.Pg}(hp:GP p){u:Un}(hu:dH p=u):CB 26 [.agg [.vec p.globals.length (o6 p.globals),.vec p.c6.length (j4 p.c6),.vec p.funcs.length (l8 p.funcs)]] h (.tup [.agg [.vec u.globals.length (encI u.globals),.vec u.c6.length (j4 u.c6),.vec u.procs.length (r7 u.procs),.int .i64 u.main],.int .i64 0,.int .i64 0,.int .i64 0]):=by subst hu;exact HA hp
attribute [local go_sem] rd u6 z7 Int.natCast_nonneg Int.natCast_inj cP bG cQ
theorem SV (L:List Int)(hL:L.length<4611686018427387904):CallA Tryz.prog cfg 7 [.vec L.length (encI L)] [] (fun y' h'=>(∃p u c,GP p∧WU u∧WC u c∧y'=.tup [.agg (K7 p),.agg [.vec u.globals.length (encI u.globals),.vec u.c6.length (j4 u.c6),.vec u.procs.length (r7 u.procs),.int .i64 u.main],.agg [.vec c.insts.length (v8 c.insts),.vec c.calls.length (z9 c.calls),.vec c.roots.length (encI c.roots)]])∧h'=[]):=by
 refine .bz Tryz.f7 29 ?_;refine c261z ?_;refine q9.cx rfl rfl hb25 (vL L hL) (fun y1 h1 hq1=>?_);obtain ⟨⟨p,hp,rfl⟩,rfl⟩:=hq1;generalize hup:dH p=u;have hu:WU u:=by rw[←hup];exact EE hp
 simp only[K7];refine .n ?_;refine c159z ?_;refine .ca rfl rfl (A2 hp hup) ?_;refine .e 8 ?_;refine .n ?_;refine .c9 [2,3,4,5,6] ?_;refine c159z ?_;refine q9.cx rfl rfl hb27 (HI hu) (fun y1 h1 hq1=>?_);obtain ⟨⟨c,wc,rfl⟩,rfl⟩:=hq1;simp only[LZ];refine .n ?_;refine .sg w7 (mkH 6 [0,0,0,1,11,31] [3,4,5] [] [0,8,24,56] [1,2]) 0 ?_;refine .rn [true] ?_;refine c244z ?_;refine .en [true] [8,0] [_] ?_;refine .en [true,false] [24,8,0] [_] ?_;refine .en [true,false,false] [56,24,8,0] [_] ?_;refine .po [false,true,true,true] ?_;refine c184z ?_;exact .ret (.ex (hq:=by exact ⟨p,u,c,hp,hu,wc,rfl⟩))
end Go.Proofs.YtapdldekgbbomaaGreatDoor
end
section
namespace Go.Proofs.YtapdldekgbbomaaGreatDoor
open Go.Ab
set_option maxRecDepth 1000000
abbrev wvI (n:Int):AV:=.int .i64 n
def wvB (l:List Int):List AV:=l.map fun n=>.int .u8 n
abbrev wvP (a b:List AV):List AV:=List.append a b
def wv1:List AV:=[.vec 65 (wvB [109,117,116,101,120,32,97,59,32,102,117,110,99,32,109,97,105,110,40,41,32,123,32,102,40,41,59,32,102,40,41,59,32,125,32,102,117,110,99,32,102,40,41,32,123,32,108,111,99,107,32,97,59,32,117,110,108,111,99,107,32,97,59,32,125])]
def wv2:AV:=wvI 0
def wv3:Blk:=⟨0,false,30,4,[.j9,.j9,.j9,wv2],0⟩
def wv4:Blk:=⟨0,false,34,3,[.j9,.j9,.j9],0⟩
def wv5:List AV:=[wv2,wv2]
def wv6:Blk:=⟨0,false,39,5,wvP wv5 (wvP wv5 [.j9]),0⟩
def wv7:Blk:=⟨1,true,0,0,[],0⟩
def wv8:Blk:=⟨0,false,27,3,[.j9,.j9,.j9],0⟩
def wv9:AV:=.str ⟨#[109,117,116,101,120]⟩
def nO:AV:=wvI 1
def JD:AV:=.str ⟨#[97]⟩
def rP:AV:=wvI 4
def KD:List AV:=[rP,.str ⟨#[59]⟩,wv2]
def wv14:AV:=.str ⟨#[102,117,110,99]⟩
def Ip:AV:=.str ⟨#[109,97,105,110]⟩
def SW:AV:=.str ⟨#[40]⟩
def SX:AV:=.str ⟨#[41]⟩
def wv18:AV:=.str ⟨#[123]⟩
def JE:AV:=.str ⟨#[102]⟩
def wv20:AV:=.str ⟨#[125]⟩
def wv21:AV:=.str ⟨#[117,110,108,111,99,107]⟩
def YL:AV:=.str ⟨#[]⟩
def H4:AV:=.vec 0 []
def H5:AV:=.bool false
def KE:List AV:=wvP wv5 [YL,H4]
def X1:List AV:=[H4,H4]
def wv27:AV:=.vec 2 (wvI 3::JE::wvP KE (YL::wvP X1 (wvP X1 (wvI 3::JE::wvP KE (YL::wvP X1 X1)))))
def wv28:AV:=.vec 2 (wvI 5::YL::wvP KE (JD::wvP X1 (wvP X1 (wvI 6::YL::wvP KE (JD::wvP X1 X1)))))
def Iq:List AV:=[H4,.vec 1 [JD,H5,wv2],.vec 2 [Ip,H4,wv27,JE,H4,wv28]]
def nS:Blk:=⟨0,false,27,3,Iq,0⟩
def SY:Blk:=⟨0,false,115,3,[JD,H5,wv2],0⟩
def SZ:Blk:=⟨0,false,122,3,[Ip,H4,wv27],0⟩
def ZJ:Blk:=⟨0,false,122,3,[JE,H4,wv28],0⟩
def Ir:List AV:=[H4,.vec 1 [JD,H5,wv2],.vec 2 (Ip::wvP wv5 (wv2::(.vec 3 (wvI 2::nO::H5::wvP KE (H5::wv2::wvP X1 (H4::wvI 2::nO::H5::wvP KE (H5::wv2::wvP X1 (H4::wvI 8::wv2::H5::wvP KE (H5::wv2::wvP X1 [H4])))))))::JE::wvP wv5 [wv2,.vec 3 (rP::wv2::H5::wvP KE (H5::wv2::wvP X1 (H4::wvI 5::wv2::H5::wvP KE (H5::wv2::wvP X1 (H4::wvI 8::wv2::H5::wvP KE (H5::wv2::wvP X1 [H4]))))))])),wv2]
def KF:Blk:=⟨0,false,30,4,Ir,0⟩
def PX:AV:=wvI (-1)
def wv37:List AV:=[.vec 2 [wv2,H4,nO,H4],.vec 2 [.vec 3 [nO,nO,PX],.vec 3 [PX,PX,PX]],.vec 1 [wv2]]
def ZK:List AV:=wvP wv5 [PX,wv2,.vec 2 [nO,H5,.vec 3 [wv2,PX,nO,PX,wvI 2,PX],wv2,H5,.vec 3 (wvP wv5 [nO,wv2,wvI 2,PX])]]
def TA:Blk:=⟨0,false,34,3,wv37,0⟩
def KG:Blk:=⟨0,false,39,5,ZK,0⟩
def plainF (f:FuncId):Bool:=Nat.beq f 67||Nat.beq f 68||Nat.beq f 70||Nat.beq f 90||Nat.beq f 91||Nat.beq f 92||Nat.beq f 93||Nat.beq f 94||Nat.beq f 95||Nat.beq f 96||Nat.beq f 97||Nat.beq f 98||Nat.beq f 99||Nat.beq f 100||Nat.beq f 101||Nat.beq f 110||Nat.beq f 111||Nat.beq f 112||Nat.beq f 113||Nat.beq f 114||Nat.beq f 115||Nat.beq f 116||Nat.beq f 120||Nat.beq f 121
def TB:vP:=[]
theorem JF:eG Tryz.prog cfg TB:=R2
noncomputable def evalH:eQ:=v7 cfg dS 100
theorem PY:evalH.ok Tryz.prog cfg:=xV w7 aB 100
noncomputable def iE:eQ:=TW plainF (lW TB evalH)
theorem bQ:iE.ok Tryz.prog cfg:=LR (cI JF PY)
def YM:vP:=[]
theorem X2:eG Tryz.prog cfg YM:=R2
def mA1:List AV:=wv1
def mH1:c8:=[wv3,wv4,wv6,wv7,wv8]
def mX1:AV:=.tup [.vec 30 (wvI 3::wv9::wvP wv5 (nO::JD::wv2::wvI 6::wvP KD (wvI 7::wvI 3::wv14::wv2::wvI 9::nO::Ip::wv2::wvI 14::rP::SW::wv2::wvI 18::rP::SX::wv2::wvI 19::rP::wv18::wv2::wvI 21::nO::JE::wv2::wvI 23::rP::SW::wv2::wvI 24::rP::SX::wv2::wvI 25::wvP KD (wvI 26::nO::JE::wv2::wvI 28::rP::SW::wv2::wvI 29::rP::SX::wv2::wvI 30::wvP KD (wvI 31::rP::wv20::wv2::wvI 33::wvI 3::wv14::wv2::wvI 35::nO::JE::wv2::wvI 40::rP::SW::wv2::wvI 41::rP::SX::wv2::wvI 42::rP::wv18::wv2::wvI 44::wvI 3::.str ⟨#[108,111,99,107]⟩::wv2::wvI 46::nO::JD::wv2::wvI 51::wvP KD (wvI 52::wvI 3::wv21::wv2::wvI 54::nO::JD::wv2::wvI 61::wvP KD [wvI 62,rP,wv20,wv2,wvI 64,wvI 5,YL,wv2,wvI 65])))))),wvI 65,wv2]
def mK1:c8:=[wv3,wv4,wv6,wv7,wv8]
theorem m1:A3 cfg dS (lW YM iE) 69 mA1 mH1=some (mX1,mK1):=by kernel_rfl
def YN:vP:=(69,mA1,mH1,mX1,mK1)::YM
theorem X3:eG Tryz.prog cfg YN:=bX (eD w7 aB (cI X2 bQ)) m1 X2
end Go.Proofs.YtapdldekgbbomaaGreatDoor
end
