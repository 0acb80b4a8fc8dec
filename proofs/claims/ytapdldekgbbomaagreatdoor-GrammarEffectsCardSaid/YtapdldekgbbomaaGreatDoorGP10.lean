/- My own texts, put together by a program of mine. -/
import Derived.Test.YtapdldekgbbomaaGreatDoorRows
import Derived.Below
import Derived.WalkKit
import Derived.ProofKit
import Derived.LaidMore
import Derived.OpenShut
import Derived.FnData
import Derived.Stop.Joined
import Derived.Test.YtapdldekgbbomaaGreatDoorGP9
set_option linter.unusedSimpArgs false
set_option linter.unusedVariables false
set_option maxRecDepth 100000
set_option maxHeartbeats 4000000
section
namespace Go.Proofs.YtapdldekgbbomaaGreatDoor
open Go.Ab Go.Un
theorem QY {h:c8}{p:Go.Un.Pg}(hp:GP p){u:Un}(hu:dP p=u):CB 26 [.agg [.vec p.globals.length (s7 p.globals),.vec p.c5.length (j6 p.c5),.vec p.funcs.length (p9 p.funcs)]] h (.tup [.agg [.vec u.globals.length (l5 u.globals),.vec u.c5.length (j6 u.c5),.vec u.procs.length (n8 u.procs),.int .i64 u.main],.int .i64 0,.int .i64 0,.int .i64 0]):=by subst hu;exact c_lower hp
attribute [local go_sem] rd w8 aJ Int.natCast_nonneg Int.natCast_inj dW cP dX
theorem JL (L:List Int)(hL:L.length<4611686018427387904):l6 Tryz.prog cfg 7 [.vec L.length (l5 L)] [] (fun y' h'=>(∃p u c,GP p∧WU u∧WC u c∧y'=.tup [.agg (AR p),.agg [.vec u.globals.length (l5 u.globals),.vec u.c5.length (j6 u.c5),.vec u.procs.length (n8 u.procs),.int .i64 u.main],.agg [.vec c.insts.length (p6 c.insts),.vec c.calls.length (s6 c.calls),.vec c.roots.length (l5 c.roots)]])∧h'=[]):=by
 refine .bz Tryz.f7 29 ?_;refine c199z ?_;refine n9.cx rfl rfl hb25 (JK L hL) (fun y1 h1 hq1=>?_);obtain ⟨⟨p,hp,rfl⟩,rfl⟩:=hq1;generalize hup:dP p=u;have hu:WU u:=by rw[←hup];exact unit_ok hp
 simp only[AR];refine .n ?_;refine c115z ?_;refine .ca rfl rfl (QY hp hup) ?_;refine .e 8 ?_;refine .n ?_;refine .c7 [2,3,4,5,6] ?_;refine c115z ?_;refine n9.cx rfl rfl hb27 (c_close hu) (fun y1 h1 hq1=>?_);obtain ⟨⟨c,wc,rfl⟩,rfl⟩:=hq1;simp only[VP];refine .n ?_;refine .sg u9 (mkH 6 [0,0,0,1,11,31] [3,4,5] [] [0,8,24,56] [1,2]) 0 ?_;refine .rn [true] ?_;refine .rm [true] ?_;refine .rm [true] ?_;refine .en [true] [8,0] [_] ?_;refine .en [true,false] [24,8,0] [_] ?_;refine .en [true,false,false] [56,24,8,0] [_] ?_;refine .po [false,true,true,true] ?_;refine c242z ?_;exact .ret (.ex (hq:=by exact ⟨p,u,c,hp,hu,wc,rfl⟩))
end Go.Proofs.YtapdldekgbbomaaGreatDoor
end
section
namespace Go.Proofs.YtapdldekgbbomaaGreatDoor
open Go.Ab
set_option maxRecDepth 1000000
abbrev wvI (n:Int):AV:=.int .i64 n
def wvB (l:List Int):List AV:=l.map fun n=>.int .u8 n
abbrev wvP (a b:List AV):List AV:=List.append a b
def wv1:List AV:=[.vec 65 (wvB [109,117,116,101,120,32,97,59,32,102,117,110,99,32,109,97,105,110,40,41,32,123,32,102,40,41,59,32,102,40,41,59,32,125,32,102,117,110,99,32,102,40,41,32,123,32,108,111,99,107,32,97,59,32,117,110,108,111,99,107,32,97,59,32,125])]
def wv2:AV:=wvI 0
def wv3:Blk:=⟨0,false,30,4,[.l7,.l7,.l7,wv2],0⟩
def wv4:Blk:=⟨0,false,34,3,[.l7,.l7,.l7],0⟩
def wv5:List AV:=[wv2,wv2]
def wv6:Blk:=⟨0,false,39,5,wvP wv5 (wvP wv5 [.l7]),0⟩
def wv7:Blk:=⟨1,true,0,0,[],0⟩
def wv8:Blk:=⟨0,false,27,3,[.l7,.l7,.l7],0⟩
def wv9:AV:=.str ⟨#[109,117,116,101,120]⟩
def oC:AV:=wvI 1
def JM:AV:=.str ⟨#[97]⟩
def sI:AV:=wvI 4
def KJ:List AV:=[sI,.str ⟨#[59]⟩,wv2]
def wv14:AV:=.str ⟨#[102,117,110,99]⟩
def Mk:AV:=.str ⟨#[109,97,105,110]⟩
def UF:AV:=.str ⟨#[40]⟩
def UG:AV:=.str ⟨#[41]⟩
def wv18:AV:=.str ⟨#[123]⟩
def JN:AV:=.str ⟨#[102]⟩
def wv20:AV:=.str ⟨#[125]⟩
def wv21:AV:=.str ⟨#[117,110,108,111,99,107]⟩
def Be:AV:=.str ⟨#[]⟩
def H8:AV:=.vec 0 []
def H9:AV:=.bool false
def KK:List AV:=wvP wv5 [Be,H8]
def Y3:List AV:=[H8,H8]
def wv27:AV:=.vec 2 (wvI 3::JN::wvP KK (Be::wvP Y3 (wvP Y3 (wvI 3::JN::wvP KK (Be::wvP Y3 Y3)))))
def wv28:AV:=.vec 2 (wvI 5::Be::wvP KK (JM::wvP Y3 (wvP Y3 (wvI 6::Be::wvP KK (JM::wvP Y3 Y3)))))
def Ml:List AV:=[H8,.vec 1 [JM,H9,wv2],.vec 2 [Mk,H8,wv27,JN,H8,wv28]]
def oG:Blk:=⟨0,false,27,3,Ml,0⟩
def UH:Blk:=⟨0,false,115,3,[JM,H9,wv2],0⟩
def UI:Blk:=⟨0,false,122,3,[Mk,H8,wv27],0⟩
def Ch:Blk:=⟨0,false,122,3,[JN,H8,wv28],0⟩
def Mm:List AV:=[H8,.vec 1 [JM,H9,wv2],.vec 2 (Mk::wvP wv5 (wv2::(.vec 3 (wvI 2::oC::H9::wvP KK (H9::wv2::wvP Y3 (H8::wvI 2::oC::H9::wvP KK (H9::wv2::wvP Y3 (H8::wvI 8::wv2::H9::wvP KK (H9::wv2::wvP Y3 [H8])))))))::JN::wvP wv5 [wv2,.vec 3 (sI::wv2::H9::wvP KK (H9::wv2::wvP Y3 (H8::wvI 5::wv2::H9::wvP KK (H9::wv2::wvP Y3 (H8::wvI 8::wv2::H9::wvP KK (H9::wv2::wvP Y3 [H8]))))))])),wv2]
def KL:Blk:=⟨0,false,30,4,Mm,0⟩
def QZ:AV:=wvI (-1)
def wv37:List AV:=[.vec 2 [wv2,H8,oC,H8],.vec 2 [.vec 3 [oC,oC,QZ],.vec 3 [QZ,QZ,QZ]],.vec 1 [wv2]]
def Ci:List AV:=wvP wv5 [QZ,wv2,.vec 2 [oC,H9,.vec 3 [wv2,QZ,oC,QZ,wvI 2,QZ],wv2,H9,.vec 3 (wvP wv5 [oC,wv2,wvI 2,QZ])]]
def UJ:Blk:=⟨0,false,34,3,wv37,0⟩
def KM:Blk:=⟨0,false,39,5,Ci,0⟩
def plainF (f:FuncId):Bool:=Nat.beq f 67||Nat.beq f 68||Nat.beq f 70||Nat.beq f 90||Nat.beq f 91||Nat.beq f 92||Nat.beq f 93||Nat.beq f 94||Nat.beq f 95||Nat.beq f 96||Nat.beq f 97||Nat.beq f 98||Nat.beq f 99||Nat.beq f 100||Nat.beq f 101||Nat.beq f 110||Nat.beq f 111||Nat.beq f 112||Nat.beq f 113||Nat.beq f 114||Nat.beq f 115||Nat.beq f 116||Nat.beq f 120||Nat.beq f 121
def UK:wB:=[]
theorem JO:eM Tryz.prog cfg UK:=R5
noncomputable def evalH:eY:=s9 cfg dO 100
theorem RA:evalH.ok Tryz.prog cfg:=yJ u9 z7 100
noncomputable def iI:eY:=VE plainF (mK UK evalH)
theorem bH:iI.ok Tryz.prog cfg:=LW (cG JO RA)
def Bf:wB:=[]
theorem Y4:eM Tryz.prog cfg Bf:=R5
def mA1:List AV:=wv1
def mH1:c8:=[wv3,wv4,wv6,wv7,wv8]
def mX1:AV:=.tup [.vec 30 (wvI 3::wv9::wvP wv5 (oC::JM::wv2::wvI 6::wvP KJ (wvI 7::wvI 3::wv14::wv2::wvI 9::oC::Mk::wv2::wvI 14::sI::UF::wv2::wvI 18::sI::UG::wv2::wvI 19::sI::wv18::wv2::wvI 21::oC::JN::wv2::wvI 23::sI::UF::wv2::wvI 24::sI::UG::wv2::wvI 25::wvP KJ (wvI 26::oC::JN::wv2::wvI 28::sI::UF::wv2::wvI 29::sI::UG::wv2::wvI 30::wvP KJ (wvI 31::sI::wv20::wv2::wvI 33::wvI 3::wv14::wv2::wvI 35::oC::JN::wv2::wvI 40::sI::UF::wv2::wvI 41::sI::UG::wv2::wvI 42::sI::wv18::wv2::wvI 44::wvI 3::.str ⟨#[108,111,99,107]⟩::wv2::wvI 46::oC::JM::wv2::wvI 51::wvP KJ (wvI 52::wvI 3::wv21::wv2::wvI 54::oC::JM::wv2::wvI 61::wvP KJ [wvI 62,sI,wv20,wv2,wvI 64,wvI 5,Be,wv2,wvI 65])))))),wvI 65,wv2]
def mK1:c8:=[wv3,wv4,wv6,wv7,wv8]
theorem m1:A9 cfg dO (mK Bf iI) 69 mA1 mH1=some (mX1,mK1):=by kernel_rfl
def Bg:wB:=(69,mA1,mH1,mX1,mK1)::Bf
theorem Y5:eM Tryz.prog cfg Bg:=bS (eI u9 z7 (cG Y4 bH)) m1 Y4
end Go.Proofs.YtapdldekgbbomaaGreatDoor
end
