/- My own texts, put together by a program of mine. -/
import Derived.Test.YtonbocmibeikmaaGreatIQ18
set_option linter.unusedSimpArgs false
set_option linter.unusedVariables false
set_option maxRecDepth 100000
set_option maxHeartbeats 4000000
section
namespace Go.Proofs.YtonbocmibeikmaaGreat
open Go.Ab
set_option maxRecDepth 1000000
def mA16:List AV:=ZD
def mH16:c7:=[wv2,jG,gJ,gY]
def mX16:AV:=.tup [.vec 1 Us,wv32]
def mK16:c7:=[wv2,jG,gJ,gY]
theorem m16:wZ iZ eI (jI OB eV) 37 mA16 mH16=some (mX16,mK16):=by kernel_rfl
def OC:sJ:=(37,mA16,mH16,mX16,mK16)::OB
theorem Q1:cM Tryz.prog iZ OC:=y0 (bY lB p9 (aG Q0 w4)) m16 Q0
def mA17:List AV:=[.agg Hm,.agg Ur,wv5,.vec 1 Us,wv32]
def mH17:c7:=[wv2,jG,gJ,gY]
def mX17:AV:=.tup [wvI 1,wv5]
def mK17:c7:=[wv2,jG,gJ,gY]
theorem m17:wZ iZ eI (jI OC eV) 39 mA17 mH17=some (mX17,mK17):=by kernel_rfl
def OD:sJ:=(39,mA17,mH17,mX17,mK17)::OC
theorem Q2:cM Tryz.prog iZ OD:=y0 (bY lB p9 (aG Q1 w4)) m17 Q1
def mA18:List AV:=[.agg Hm,.agg Ur,wv5,.vec 1 Us,.own 4 0 0 1]
def mH18:c7:=[wv2,jG,gJ,gY,⟨0,false,3,1,[wv5],0⟩]
def mX18:AV:=.tup [wv5,wvI 12]
def mK18:c7:=[wv2,jG,gJ,gY,⟨0,false,3,1,[wv5],0⟩]
theorem m18:wZ iZ eI (jI OD eV) 39 mA18 mH18=some (mX18,mK18):=by kernel_rfl
def ZH:sJ:=(39,mA18,mH18,mX18,mK18)::OD
theorem OE:cM Tryz.prog iZ ZH:=y0 (bY lB p9 (aG Q2 w4)) m18 Q2
theorem VP:wZ iZ eI (jI ZH eV) 41 [] []=some (.bool true,[]):=by kernel_rfl
theorem awake41 (h:c7):CallA Tryz.prog cfg 41 [] h fun y h'=>y=.bool true∧h'=h:=CallA.frame0 (C:=iZ) rfl (bY lB p9 (aG OE w4) _ _ _ _ _ VP) h
end Go.Proofs.YtonbocmibeikmaaGreat
end
section
namespace Go.Proofs.YtonbocmibeikmaaGreat
open Go.Ab Go.Un
theorem yT (x:Int){n:Nat}(h0:0<n):∃k:Nat,k<n∧within x n=(k:Int):=by have h1:=@L2 x n (by omega);have h2:=@L3 x n (by omega);exact ⟨(within x n).toNat,by omega,by omega⟩
variable {h:c7}
theorem VQ {r:List Nat}{n s:Nat}(hn:r.length=n)(hr:∀x∈r,x<512)(hs:s<512)(hl:n≤9):CB 25 [.vec n (r.map j8),.int .i64 ((s:Nat):Int)] h (.int .i64 ((applyN r s:Nat):Int)):=by subst hn;exact D8 r s hr hs hl
variable {u:Un}{c:Clo}{mx:Nat}{L:List (List (List Nat))}{E:List Nat}
theorem OF (h:FL (c.insts.length:Int) 12 (F9 u c mx L E)=0):∀i,i<c.insts.length→MS u c mx L E i:=by
  have h1:F9 u c mx L E≤c.insts.length:=wV;refine E6 ?_;unfold FL at h;split at h
  · show F9 u c mx L E=_
    omega
  · cases h
theorem VR {l:c7}(hS:Shp u c mx L E):iV h.length (XH h L E l) 6 (.tup [.own h.length c.insts.length 0 c.insts.length,.own (fP h L) 1 0 c.insts.length])=some (.tup [AV.vec c.insts.length (u9 L),AV.vec c.insts.length (E.map j8)]):=by rw[jO];simp only[n8];rw[bT,if_neg (by omega),frz_X (Nat.le_refl _) hS.len.symm,bT,if_neg (by unfold fP;omega),frz_XE rfl (by unfold fP;omega) hS.es.1];rfl
theorem ZI (hu:WU u)(wc:WC u c)(hmx:mx<u.c4.length){L0:List (List (List Nat))}{E0:List Nat}(hS:Shp u c mx L0 E0)(Y:List Int)(hY:Y.length<4611686018427387904):CallA Tryz.prog cfg 42 [AV.vec c.insts.length (u9 L0),AV.vec c.insts.length (E0.map j8),.vec Y.length (g7 Y),AV.int .i64 ((kM u mx:Nat):Int)] h (fun y' h'=>(∃L E,Shp u c mx L E∧y'=.tup [AV.vec c.insts.length (u9 L),AV.vec c.insts.length (E.map j8)])∧h'=h):=
  CallA.shut (YP hu wc hmx hS Y hY) fun x h1 hq=>by obtain ⟨L,E,hS2,rfl,rfl⟩:=hq;exact ⟨_,_,by rw[XH,List.append_assoc],VR hS2,⟨L,E,hS2,rfl⟩,rfl⟩
attribute [local go_sem] rd bJ r9 u7 r6 n7 l7 aK p7 Int.natCast_nonneg Int.natCast_inj aL dN cW dO gS iD qW jV bP mF tC eM kY kZ iE List.length_set List.length_replicate Int.toNat_natCast_add_one fF wrap64 sC List.length_map dH dP iR iS bP eH dQ jW jX dR dI p7 orN oI beq_self_eq_true bne_self_eq_false W3 yN nY Bool.not_not Fy orN NG E7 E8 jY jF cL G2_u G2_c NJ YR NK YH_u YH_c YS NL W9 jV P2 or1N sC qZ jU
theorem DI (hu:WU u)(m:Int):CB 36 [.agg [.vec u.globals.length (g7 u.globals),.vec u.c4.length (g0 u.c4),.vec u.procs.length (j6 u.procs),.int .i64 u.main],.int .i64 m] h (.int .i64 (within m u.c4.length)):=by refine .bz Tryz.f36 10 ?_;have hml:=hu.ml;refine .z ?_;refine c29z ?_;refine .ca rfl rfl (AR _ _ (by omega) (by omega)) ?_;refine .n ?_;exact .ret (.ex (hq:=by rfl))
theorem ZJ (hu:WU u)(wc:WC u c)(hmx:mx<u.c4.length)(hS:Shp u c mx L E){i:Nat}(hi:i<c.insts.length){pc:Nat}(hp:pc<s4 u c i):CB 46 [.vec c.insts.length (u9 L),.vec c.insts.length (E.map j8),.int .i64 ((i:Nat):Int),.int .i64 ((pc:Nat):Int)] h (.int .i64 ((applyN ((L.getD i []).getD pc []) (E.getD i 0):Nat):Int)):=by
  refine .bz Tryz.f46 70 ?_;have hwl:=wc.len;have hk8:kM u mx≤8:=eP;have hk9:nS (u.c4.getD mx w3)≤8:=hk8;have hml:=hu.ml;have hrl:=wc.rl;have hrc:c.roots.length≤c.insts.length:=by have:=u4 wc.rs wc.rr;omega
  have hcl:=wc.cl;have hLl:=hS.len;have hEl:=hS.es.1;have w:=cB wc hi;have w1:=w.lo;have w2:=w.hi;have hsz:(c8 u (itI c i)).length≤1664:=n6 hu w;have hcll:(c.calls.getD i []).length=(c8 u (itI c i)).length:=wc.cll i hi;have hlI:s4 u c i=(c8 u (itI c i)).length:=rfl;have hT:=hS.tb i hi;have hTl:(L.getD i []).length=s4 u c i:=hT.1;have hlp:1≤(c8 u (itI c i)).length:=(bN hu w).1;refine c22z ?_;refine c15z ?_;refine .spl 12 rfl rfl (fun e1=>?_) (fun e1=>?_)
  ·try simp only[e1]
   have qe1:=fact e1;refine .k 8 [(2,12),(8,18)] ?_;refine .k 8 [(8,18),(14,24)] ?_;refine c263z ?_;exact .ret (.ex (hq:=t72))
  try simp only[e1]
  have qe1:=fact e1;refine .k 6 [(2,12)] ?_;refine .spl 18 rfl rfl (fun e2=>?_) (fun e2=>?_)
  ·try simp only[e2]
   have qe2:=fact e2;refine .k 8 [(8,18),(14,24)] ?_;refine .k 8 [(18,28)] ?_;refine c263z ?_;exact .ret (.ex (hq:=t72))
  try simp only[e2]
  have qe2:=fact e2;refine .k 6 [(8,18)] ?_;refine .spl 24 rfl rfl (fun e3=>?_) (fun e3=>?_)
  ·try simp only[e3]
   have qe3:=fact e3;refine .k 8 [(14,24),(18,28)] ?_;refine c263z ?_;exact .ret (.ex (hq:=t72))
  try simp only[e3]
  have qe3:=fact e3;refine .k 4 [(14,24)] ?_;refine .spl 28 rfl rfl (fun e4=>?_) (fun e4=>?_)
  ·try simp only[e4]
   have qe4:=fact e4;refine c263z ?_;exact .ret (.ex (hq:=t72))
  try simp only[e4]
  have qe4:=fact e4;refine .m [(18,28)] ?_;refine u2z ?_ ?_
  ·intro e5 qe5;refine c10z ?_;exact .ret (.ex (hq:=t72))
  intro e5 qe5;refine .sk ?_;refine .c6 [0,1,2,3] ?_;refine c22z ?_;refine .c6 [1,2,9] ?_;have hR:=hT.get hp;have hrl9:=hR.1;have hz:=MO hk8 (hS.es.get i);have hpl:=jE hk8;have hE5:E.getD i 0<512:=hS.es.lt _ (g8 (by omega));simp only[hrl9];refine .ss u6 (mkP 20 [0,1,3,7,15,31,63,127,255,511,511,2047,4095,511,8703,25087,57855,131071,262143,524287] []) ?_;refine .k 4 [] ?_;refine .spl 47 rfl rfl (fun e6=>?_) (fun e6=>?_)
  ·try simp only[e6]
   have qe6:=fact e6;refine .k 8 [(3,47),(8,52)] ?_;refine .n [(8,52)] ?_;refine c131z ?_;exact .ret (.ex (hq:=t72))
  try simp only[e6]
  have qe6:=fact e6;refine .k 5 [(3,47)] ?_;refine .spl 52 rfl rfl (fun e7=>?_) (fun e7=>?_)
  ·try simp only[e7]
   have qe7:=fact e7;refine .k 8 [(8,52)] ?_;refine .n [(8,52)] ?_;refine c131z ?_;exact .ret (.ex (hq:=t72))
  try simp only[e7]
  have qe7:=fact e7;refine .k 7 [(8,52)] ?_;refine .ca rfl rfl (MQ hk8) ?_;refine .n [(8,52)] ?_;refine u2z ?_ ?_
  ·intro e8 qe8;refine c10z ?_;exact .ret (.ex (hq:=t72))
  intro e8 qe8;refine .sk ?_;refine .c6 [1,2,9] ?_;refine c25z ?_;refine .ca rfl rfl (VQ (s:=E.getD i 0) (r:=(L.getD i []).getD pc []) hrl9 (hR.lt hk8) hE5 (by omega)) ?_;refine .n ?_;exact .ret (.ex (hq:=t72))
theorem c_lawCheck (L:List Int)(hL:L.length<4611686018427387904)(m:Int)(Y:List Int)(hY:Y.length<4611686018427387904):CB 10 [.vec L.length (g7 L),.int .i64 m,.vec Y.length (g7 Y)] [] (.bool true):=by refine .bz Tryz.f10 74 ?_;refine c169z ?_;refine o1.cx rfl rfl hb15 (ZB L hL) (fun y1 h1 hq1=>?_);obtain ⟨⟨p,u,c,gp,hu,wc,rfl⟩,rfl⟩:=hq1;have hml:=hu.ml;have hwl:=wc.len;simp only[HS];refine .e 8 ?_;refine .n ?_;refine .c6 [1,2,8,9] ?_;refine c16z ?_;refine .ca rfl rfl (DI hu m) ?_;refine .n ?_;obtain ⟨mx,hmx,hme⟩:=yT m (n:=u.c4.length) (by omega);simp only[hme];have hk8:kM u mx≤8:=eP;have hel:(qV u c mx).length=c.insts.length:=dR;have hcl:=wc.cl;refine c256z ?_;refine .n ?_;refine .c6 [1,2,8,9,10,11] ?_;refine c45z ?_;refine .ca rfl rfl (pB u mx) ?_;refine o1.cx rfl rfl hb42 (ZI hu wc hmx (F4 hu wc) Y hY) (fun y1 h1 hq1=>?_);obtain ⟨⟨L,E,hS,rfl⟩,rfl⟩:=hq1;refine .n ?_;refine .c6 [1,8,9,10,11] ?_;refine c235z ?_;refine .n ?_;refine .c6 [1,8,9,10,11,12,13] ?_;refine c25z ?_;refine .ca rfl rfl (YM hu wc hmx hS) ?_;refine .n ?_;refine .c6 [12,13,14,15] ?_;refine .s ?_;refine .k 8 [(3,66)] ?_;refine .e 1 ?_;refine c178z ?_;exact .ret (.ex (hq:=by rfl))
theorem c_lawSound (L:List Int)(hL:L.length<4611686018427387904)(m:Int)(Y:List Int)(hY:Y.length<4611686018427387904)(grow:Bool):CB 12 [.vec L.length (g7 L),.int .i64 m,.vec Y.length (g7 Y),.bool grow] [] (.bool true):=by
  refine .bz Tryz.f12 103 ?_;refine c169z ?_;refine o1.cx rfl rfl hb15 (ZB L hL) (fun y1 h1 hq1=>?_);obtain ⟨⟨p,u,c,gp,hu,wc,rfl⟩,rfl⟩:=hq1;have hml:=hu.ml;have hwl:=wc.len;simp only[HS];refine .e 8 ?_;refine .n ?_;refine .c6 [1,2,3,10,11] ?_;refine c16z ?_;refine .ca rfl rfl (DI hu m) ?_;refine .n ?_;obtain ⟨mx,hmx,hme⟩:=yT m (n:=u.c4.length) (by omega);simp only[hme];have hk8:kM u mx≤8:=eP;have hel:(qV u c mx).length=c.insts.length:=dR;have hcl:=wc.cl;refine c256z ?_;refine .n ?_;refine .c6 [1,2,3,10,11,12,13] ?_;refine c45z ?_;refine .ca rfl rfl (pB u mx) ?_;refine o1.cx rfl rfl hb42 (ZI hu wc hmx (F4 hu wc) Y hY) (fun y1 h1 hq1=>?_);obtain ⟨⟨L,E,hS,rfl⟩,rfl⟩:=hq1;refine c32z ?_;refine .c6 [1,2,3,10,11,12,13] ?_;refine .z ?_;refine u2z ?_ ?_
  ·intro e1 qe1;refine c147z ?_;refine o1.cx rfl rfl hb45 (VC hu wc hmx Y hY) (fun y1 h1 hq1=>?_);obtain ⟨⟨L,E,hS,rfl⟩,rfl⟩:=hq1;refine c28z ?_;refine .seq ?_;refine .c6 [1,10,11,12,13] ?_;refine c235z ?_;refine .n ?_;refine .c6 [1,10,11,12,13,15] ?_;refine .z ?_;refine u2z ?_ ?_
   ·intro e2 qe2;refine .c6 [] ?_;refine .s ?_;refine c178z ?_;exact .ret (.ex (hq:=by rfl))
   intro e2 qe2;refine .sk ?_;have hC:=OF (show FL (c.insts.length:Int) 12 (F9 u c mx L E)=0 by first | assumption | omega);have hbl:(oZ u c mx).length=c.insts.length:=dI;refine c15z ?_;refine .ca rfl rfl (YB hu wc hmx) ?_;refine c32z ?_;refine .c6 [12,13,16] ?_;refine c14z ?_;refine .w7 (fun m st=>∃(i:Nat),(m=c.insts.length-i∧(i≤c.insts.length))∧st=⟨mkS 103 [(12,AV.vec c.insts.length (u9 L)),(13,AV.vec c.insts.length (E.map j8)),(16,AV.vec c.insts.length (s6 (oZ u c mx))),(17,AV.int .i64 ((i:Nat):Int))],[⟨0,false,27,3,[.vec p.globals.length (q9 p.globals),.vec p.c4.length (g0 p.c4),.vec p.funcs.length (o5 p.funcs)],0⟩,⟨0,false,30,4,[.vec u.globals.length (g7 u.globals),.vec u.c4.length (g0 u.c4),.vec u.procs.length (j6 u.procs),.int .i64 u.main],0⟩,⟨0,false,34,3,[.vec c.insts.length (l3 c.insts),.vec c.calls.length (l5 c.calls),.vec c.roots.length (g7 c.roots)],0⟩]⟩) _ (.v ⟨0,⟨rfl,by omega⟩,rfl⟩) ?_;rintro m sl h' ⟨i,⟨hm,hi0⟩,hst⟩;obtain ⟨rfl,rfl⟩:=St.mk.inj hst;refine c1z ?_;refine u2z ?_ ?_
   ·intro e3 qe3;refine c3z ?_;have hi:i<c.insts.length:=by omega
    have hbi:(BX u c mx i).length=s4 u c i:=jU;have hsz:s4 u c i≤1664:=n6 hu (cB wc hi);refine c14z ?_;refine .w7 (fun m st=>∃(pc:Nat),(m=s4 u c i-pc∧(pc≤s4 u c i))∧st=⟨mkS 103 [(12,AV.vec c.insts.length (u9 L)),(13,AV.vec c.insts.length (E.map j8)),(16,AV.vec c.insts.length (s6 (oZ u c mx))),(17,AV.int .i64 ((i:Nat):Int)),(18,AV.int .i64 ((pc:Nat):Int))],[⟨0,false,27,3,[.vec p.globals.length (q9 p.globals),.vec p.c4.length (g0 p.c4),.vec p.funcs.length (o5 p.funcs)],0⟩,⟨0,false,30,4,[.vec u.globals.length (g7 u.globals),.vec u.c4.length (g0 u.c4),.vec u.procs.length (j6 u.procs),.int .i64 u.main],0⟩,⟨0,false,34,3,[.vec c.insts.length (l3 c.insts),.vec c.calls.length (l5 c.calls),.vec c.roots.length (g7 c.roots)],0⟩]⟩) _ (.v ⟨0,⟨rfl,by omega⟩,rfl⟩) ?_;rintro m sl h' ⟨pc,⟨hm,hp0⟩,hst⟩;obtain ⟨rfl,rfl⟩:=St.mk.inj hst;refine c1z ?_;refine u2z ?_ ?_
    ·intro e4 qe4;refine c3z ?_;have hp:pc<s4 u c i:=by omega
     refine .ss u6 (mkP 14 [0,0,3,7,0,31,63,0,0,0,0,1920,4095,8191] []) ?_;refine c204z ?_;refine .ca rfl rfl (ZJ hu wc hmx hS hi hp) ?_;refine .n [] ?_;refine .spl 101 rfl rfl (fun e5=>by exfalso;have q:=fact e5;exact absurd (sound hu wc hS hC hi hp) q) (fun e5=>?_);try simp only[e5]
     have qe5:=fact e5;refine c40z ?_;refine .c6 [12,13,16,17,18] ?_;refine .rz ?_;exact ⟨_,by omega,.v ⟨(pc+1),⟨rfl,by omega⟩,rfl⟩⟩
    intro e4 qe4;refine c6z ?_;refine .c6 [12,13,16,17] ?_;refine .rz ?_;exact ⟨_,by omega,.v ⟨(i+1),⟨rfl,by omega⟩,rfl⟩⟩
   intro e3 qe3;refine c6z ?_;refine .c6 [] ?_;refine .s ?_;refine c178z ?_;exact .ret (.ex (hq:=by rfl))
  intro e1 qe1;refine c117z ?_;refine c235z ?_;refine .n ?_;refine .c6 [1,10,11,12,13,15] ?_;refine .z ?_;refine u2z ?_ ?_
  ·intro e6 qe6;refine .c6 [] ?_;refine .s ?_;refine c178z ?_;exact .ret (.ex (hq:=by rfl))
  intro e6 qe6;refine .sk ?_;have hC:=OF (show FL (c.insts.length:Int) 12 (F9 u c mx L E)=0 by first | assumption | omega);have hbl:(oZ u c mx).length=c.insts.length:=dI;refine c15z ?_;refine .ca rfl rfl (YB hu wc hmx) ?_;refine c32z ?_;refine .c6 [12,13,16] ?_;refine c14z ?_;refine .w7 (fun m st=>∃(i:Nat),(m=c.insts.length-i∧(i≤c.insts.length))∧st=⟨mkS 103 [(12,AV.vec c.insts.length (u9 L)),(13,AV.vec c.insts.length (E.map j8)),(16,AV.vec c.insts.length (s6 (oZ u c mx))),(17,AV.int .i64 ((i:Nat):Int))],[⟨0,false,27,3,[.vec p.globals.length (q9 p.globals),.vec p.c4.length (g0 p.c4),.vec p.funcs.length (o5 p.funcs)],0⟩,⟨0,false,30,4,[.vec u.globals.length (g7 u.globals),.vec u.c4.length (g0 u.c4),.vec u.procs.length (j6 u.procs),.int .i64 u.main],0⟩,⟨0,false,34,3,[.vec c.insts.length (l3 c.insts),.vec c.calls.length (l5 c.calls),.vec c.roots.length (g7 c.roots)],0⟩]⟩) _ (.v ⟨0,⟨rfl,by omega⟩,rfl⟩) ?_;rintro m sl h' ⟨i,⟨hm,hi0⟩,hst⟩;obtain ⟨rfl,rfl⟩:=St.mk.inj hst;refine c1z ?_;refine u2z ?_ ?_
  ·intro e7 qe7;refine c3z ?_;have hi:i<c.insts.length:=by omega
   have hbi:(BX u c mx i).length=s4 u c i:=jU;have hsz:s4 u c i≤1664:=n6 hu (cB wc hi);refine c14z ?_;refine .w7 (fun m st=>∃(pc:Nat),(m=s4 u c i-pc∧(pc≤s4 u c i))∧st=⟨mkS 103 [(12,AV.vec c.insts.length (u9 L)),(13,AV.vec c.insts.length (E.map j8)),(16,AV.vec c.insts.length (s6 (oZ u c mx))),(17,AV.int .i64 ((i:Nat):Int)),(18,AV.int .i64 ((pc:Nat):Int))],[⟨0,false,27,3,[.vec p.globals.length (q9 p.globals),.vec p.c4.length (g0 p.c4),.vec p.funcs.length (o5 p.funcs)],0⟩,⟨0,false,30,4,[.vec u.globals.length (g7 u.globals),.vec u.c4.length (g0 u.c4),.vec u.procs.length (j6 u.procs),.int .i64 u.main],0⟩,⟨0,false,34,3,[.vec c.insts.length (l3 c.insts),.vec c.calls.length (l5 c.calls),.vec c.roots.length (g7 c.roots)],0⟩]⟩) _ (.v ⟨0,⟨rfl,by omega⟩,rfl⟩) ?_;rintro m sl h' ⟨pc,⟨hm,hp0⟩,hst⟩;obtain ⟨rfl,rfl⟩:=St.mk.inj hst;refine c1z ?_;refine u2z ?_ ?_
   ·intro e8 qe8;refine c3z ?_;have hp:pc<s4 u c i:=by omega
    refine .ss u6 (mkP 14 [0,0,3,7,0,31,63,0,0,0,0,1920,4095,8191] []) ?_;refine c204z ?_;refine .ca rfl rfl (ZJ hu wc hmx hS hi hp) ?_;refine .n [] ?_;refine .spl 101 rfl rfl (fun e9=>by exfalso;have q:=fact e9;exact absurd (sound hu wc hS hC hi hp) q) (fun e9=>?_);try simp only[e9]
    have qe9:=fact e9;refine c40z ?_;refine .c6 [12,13,16,17,18] ?_;refine .rz ?_;exact ⟨_,by omega,.v ⟨(pc+1),⟨rfl,by omega⟩,rfl⟩⟩
   intro e8 qe8;refine c6z ?_;refine .c6 [12,13,16,17] ?_;refine .rz ?_;exact ⟨_,by omega,.v ⟨(i+1),⟨rfl,by omega⟩,rfl⟩⟩
  intro e7 qe7;refine c6z ?_;refine .c6 [] ?_;refine .s ?_;refine c178z ?_;exact .ret (.ex (hq:=by rfl))
end Go.Proofs.YtonbocmibeikmaaGreat
end
section
namespace Go.Ab
open Go.RowKit
def FG (w:World):List Value→List AV→Prop
 | [],[]=>True
 | v::vs,x::xs=>mA w (fun k _=>k<w.heap.size) v x∧FG w vs xs
 | _,_=>False
theorem FG.get {w:World}:∀{vs:List Value} {xs:List AV},FG w vs xs→vs.length=xs.length∧∀(j:Nat) v x,vs[j]?=some v→xs[j]?=some x→mA w (fun k _=>k<w.heap.size) v x
 | [],[],_=>⟨rfl,fun j v x h=>by simp at h⟩
 | v::vs,x::xs,h=>by
  obtain ⟨h1,h2⟩:=h;obtain ⟨k1,k2⟩:=FG.get h2;refine ⟨by simp[k1],fun j u y hu hy=>?_⟩
  match j with
  | 0=>simp at hu hy;subst hu hy;exact h1
  | j+1=>exact k2 j u y t144 (by simpa using hy)
 | [],_::_,h=>h.elim
 | _::_,[],h=>h.elim
theorem CallA.law {P:Program}{C:Cfg}{f:FuncId}{args:List AV}(hG:C.eA=fun _=>.any)(r:CallA P C f args [] (fun x h'=>x=.bool true∧h'=[]))(w:World)(cargs:Array Value)(hr:FG w cargs.toList args) :
  Calls P f cargs w fun e w'=>e=.returned (.bool true)∧Below w.heap.size w w':=by
 obtain ⟨k1,k2⟩:=FG.get hr;exact CallA.top hG (r.mono fun _ _ h=>h.1) w cargs (by simpa using k1) fun j v x h1 h2=>k2 j v x t135 h2
theorem prel_ints {w:World}{a:Option Addr}{len cap:Nat}{zs:List Int}
  (h:(a=none∧len=0∧cap=0∧zs=[])∨∃x,a=some x∧len≤cap∧cap≤maxLen∧zs.length=cap∧(∀i,i<zs.length→w.cell? (x.add i)=some (.int .i64 (zs.getD i 0)))∧∀n∈zs,(Lit.int .i64 n).wf=true) :
  mA w (fun k _=>k<w.heap.size) (.slice a len cap) (Hr (zs.take len))∧(zs.take len).length=len∧len≤maxLen∧∀n∈zs.take len,-9223372036854775808≤n∧n<9223372036854775808:=by
 rcases h with ⟨rfl,rfl,rfl,rfl⟩ | ⟨x,rfl,h1,h2,h3,h4,h5⟩
 ·exact ⟨PE _ _,rfl,by omega,by simp⟩
 ·refine ⟨PF h1 h3 h4,t64,by omega,fun n hn=>?_⟩;have:=h5 n (List.mem_of_mem_take hn);simp only[Lit.wf,Bool.and_eq_true,decide_eq_true_eq]at this;have e1:IntKind.min .i64 = -9223372036854775808:=rfl;have e2:IntKind.max .i64=9223372036854775807:=rfl;rw[e1,e2]at this;omega
end Go.Ab
end
