/- My own texts, put together by a program of mine. -/
import Derived.Test.YtonbocmibeikmaaGreatIP17
set_option linter.unusedSimpArgs false
set_option linter.unusedVariables false
set_option maxRecDepth 100000
set_option maxHeartbeats 4000000
section
namespace Go.Proofs.YtonbocmibeikmaaGreat
open Go.Ab
set_option maxRecDepth 1000000
def mA16:List AV:=XH
def mH16:c5:=[wv2,jA,gK,gU]
def mX16:AV:=.tup [.vec 1 Si,wv32]
def mK16:c5:=[wv2,jA,gK,gU]
theorem m16:wQ iN eD (jB MG eT) 37 mA16 mH16=some (mX16,mK16):=by kernel_rfl
def MH:sD:=(37,mA16,mH16,mX16,mK16)::MG
theorem N2:cK Tryz.prog iN MH:=z7 (bY kP o8 (aJ N1 w7)) m16 N1
def mA17:List AV:=[.agg Ez,.agg Sh,wv5,.vec 1 Si,wv32]
def mH17:c5:=[wv2,jA,gK,gU]
def mX17:AV:=.tup [wvI 1,wv5]
def mK17:c5:=[wv2,jA,gK,gU]
theorem m17:wQ iN eD (jB MH eT) 39 mA17 mH17=some (mX17,mK17):=by kernel_rfl
def MI:sD:=(39,mA17,mH17,mX17,mK17)::MH
theorem N4:cK Tryz.prog iN MI:=z7 (bY kP o8 (aJ N2 w7)) m17 N2
def mA18:List AV:=[.agg Ez,.agg Sh,wv5,.vec 1 Si,.own 4 0 0 1]
def mH18:c5:=[wv2,jA,gK,gU,⟨0,false,3,1,[wv5],0⟩]
def mX18:AV:=.tup [wv5,wvI 12]
def mK18:c5:=[wv2,jA,gK,gU,⟨0,false,3,1,[wv5],0⟩]
theorem m18:wQ iN eD (jB MI eT) 39 mA18 mH18=some (mX18,mK18):=by kernel_rfl
def XL:sD:=(39,mA18,mH18,mX18,mK18)::MI
theorem MJ:cK Tryz.prog iN XL:=z7 (bY kP o8 (aJ N4 w7)) m18 N4
theorem UN:wQ iN eD (jB XL eT) 41 [] []=some (.bool true,[]):=by kernel_rfl
theorem U3 (h:c5):CallA Tryz.prog cfg 41 [] h fun y h'=>y=.bool true∧h'=h:=CallA.frame0 (C:=iN) rfl (bY kP o8 (aJ MJ w7) _ _ _ _ _ UN) h
end Go.Proofs.YtonbocmibeikmaaGreat
end
section
namespace Go.Proofs.YtonbocmibeikmaaGreat
open Go.Ab Go.Un
theorem iO (x:Int){n:Nat}(h0:0<n):∃k:Nat,k<n∧within x n=(k:Int):=by have h1:=@vD x n (by omega);have h2:=@vE x n (by omega);exact ⟨(within x n).toNat,by omega,by omega⟩
theorem UO {h:c5}{n:Nat}{a:List Nat}(ha:a.length=n)(hl:n<1000000):CB 31 [.vec n (a.map j4),.vec n (a.map j4)] h (.bool true):=by subst ha;have:=C7 (h:=h) a a hl;rw[decide_eq_true rfl]at this;exact this
theorem MK {u:Un}{c:Clo}(hu:WU u)(wc:WC u c){mx:Nat}:∀T∈eS u c mx c.insts.length,T.length<1000000∧∀r∈T,r.length<100000:=fun T hT=>by unfold eS at hT;obtain ⟨i,hi,rfl⟩:=List.mem_map.1 hT;have h1:(c7 u (itI c i)).length≤1664:=n7 hu (dE wc (List.mem_range.1 hi));have h2:(fR u c mx (w9 u c mx) i).length=(c7 u (itI c i)).length:=cJ;refine ⟨by omega,fun r hr=>?_⟩;have h3:=((cP (u:=u) (c:=c) (m:=mx) (w9 u c mx) i).2 r hr).1;have h4:kM u mx≤8:=dN;omega
attribute [local go_sem] rd bL u0 w8 r8 n6 l6 bB s3 Int.natCast_nonneg Int.natCast_inj bK fF eH fG iW kA qO oE dF oF xC gJ mP mQ kB List.length_set List.length_replicate Int.toNat_natCast_add_one gY wrap64 rU List.length_map fK fJ jP lL lM oV dF iX bM nN nO yK kN kL u5 iY nP nQ s3 nR rW orN oB beq_self_eq_true bne_self_eq_false KQ BE
theorem BX {h:c5}{u:Un}(hu:WU u)(m:Int):CB 36 [.agg [.vec u.globals.length (g5 u.globals),.vec u.mutexes.length (c9 u.mutexes),.vec u.procs.length (g7 u.procs),.int .i64 u.main],.int .i64 m] h (.int .i64 (within m u.mutexes.length)):=by refine .bz Tryz.f36 10 ?_;have hml:=hu.ml;refine .z ?_;refine c25z ?_;refine c131z ?_;exact .ret (.ex (hq:=by rfl))
theorem c_lawTables (L:List Int)(hL:L.length<4611686018427387904)(m:Int):CB 9 [.vec L.length (g5 L),.int .i64 m] [] (.bool true):=by refine .bz Tryz.f9 68 ?_;refine c164z ?_;refine n5.cx rfl rfl hb15 (XF L hL) (fun y1 h1 hq1=>?_);obtain ⟨⟨p,u,c,gp,hu,wc,rfl⟩,rfl⟩:=hq1;have hml:=hu.ml;have hwl:=wc.len;simp only[GI];refine .e 8 ?_;refine .n ?_;refine .c6 [1,6,7] ?_;refine c15z ?_;refine .ca rfl rfl (BX hu m) ?_;refine .n ?_;obtain ⟨mx,hmx,hme⟩:=iO m (n:=u.mutexes.length) (by omega);simp only[hme];have hk8:kM u mx≤8:=dN;have hel:(cN u c mx).length=c.insts.length:=u5;have hcl:=wc.cl;refine c14z ?_;refine .ca rfl rfl (c_tab hu wc hmx) ?_;refine .n ?_;refine .c6 [1,6,7,8,9] ?_;refine c14z ?_;refine .ca rfl rfl (c_tabR hu wc hmx) ?_;refine .n ?_;refine c24z ?_;refine .ca rfl rfl (c_check hu wc hmx) ?_;refine .n ?_;refine .c6 [7,8,9,10,11,12,13] ?_;refine c15z ?_;refine .ca rfl rfl (TY bM (by omega) (MK hu wc)) ?_;refine .k 3 [(3,49)] ?_;refine .ca rfl rfl (UO hel (by omega)) ?_;refine .k 8 [(8,54)] ?_;refine .k 5 [(15,61)] ?_;refine .ca rfl rfl (U3 _) ?_;refine .n ?_;exact .ret (.ex (hq:=by rfl))
end Go.Proofs.YtonbocmibeikmaaGreat
end
section
namespace Go.Proofs.YtonbocmibeikmaaGreat
open Go.Ab Go.Un
noncomputable def XM (u:Un)(c:Clo)(mx:Nat)(E:List Nat)(i pc:Int):Nat:=if 0≤i∧i.toNat<c.insts.length∧0≤pc∧pc.toNat<u7 u c i.toNat∧E.getD i.toNat 0<2^(kM u mx+1) then applyN ((fR u c mx (w9 u c mx) i.toNat).getD pc.toNat []) (E.getD i.toNat 0) else 0
def OkV (s:Nat):Prop:=s∈List.range 512++(List.range 13).map (2^·)
theorem depAll:((List.range 9).all fun k=>(List.range 512++(List.range 13).map (2^·)).all fun s=>(bits .andNot .i64 (s:Int) ((2^(k+1)-1:Nat):Int)==0)==decide (s<2^(k+1)))=true:=by kernel_rfl
variable {s:Nat}
theorem ML {k:Nat}(hk:k≤8)(hs:OkV s):bits .andNot .i64 (s:Int) ((2^(k+1)-1:Nat):Int)=0↔s<2^(k+1):=by have h1:=List.all_eq_true.1 (List.all_eq_true.1 depAll k (List.mem_range.2 (by omega))) s hs;rw[beq_iff_eq]at h1;rw[←beq_iff_eq,h1,decide_eq_true_eq]
theorem okV_lt (h:s<512):OkV s:=List.mem_append.2 (.inl (List.mem_range.2 h))
theorem MM {j:Nat}(h:j<13):OkV (2^j):=List.mem_append.2 (.inr (List.mem_map.2 ⟨j,List.mem_range.2 h,rfl⟩))
variable {u:Un}{c:Clo}{mx:Nat}{E:List Nat}
theorem MN {i pc:Int}(h:¬(0≤i∧i.toNat<c.insts.length∧0≤pc∧pc.toNat<u7 u c i.toNat∧E.getD i.toNat 0<2^(kM u mx+1))):AV.int .i64 0=AV.int .i64 ((XM u c mx E i pc:Nat):Int):=by rw[XM,if_neg h];rfl
theorem MO {i pc:Int}(h:0≤i∧i.toNat<c.insts.length∧0≤pc∧pc.toNat<u7 u c i.toNat∧E.getD i.toNat 0<2^(kM u mx+1)):AV.int .i64 ((applyN ((fR u c mx (w9 u c mx) i.toNat).getD pc.toNat []) (E.getD i.toNat 0):Nat):Int)=AV.int .i64 ((XM u c mx E i pc:Nat):Int):=by rw[XM,if_pos h]
theorem N5 {T:List (List Nat)}{pc:Nat}(h:pc<T.length):List.take 1 (List.drop pc (s7 T))=[.vec (T.getD pc []).length ((T.getD pc []).map j4)]:=qO h
theorem Ej {w:Nat}(h:w<12):IntKind.wrap .i64 (1*2^(min (1+w) 64))=((2^(1+w):Nat):Int):=by
  have e:min (1+w) 64=1+w:=by omega
  rw[e,Int.one_mul];have h1:2^(1+w)≤4096:=Nat.le_trans (Nat.pow_le_pow_right (by decide) (show 1+w≤12 by omega)) (by decide);have h2:((2:Int)^(1+w))=((2^(1+w):Nat):Int):=by simp
  rw[h2];generalize 2^(1+w)=x at h1 ⊢;exact wrap64 (by omega) (by omega)
theorem rY:∀x∈cN u c mx,OkV x:=fun x hx=>okV_lt (oU.lt x hx)
theorem MP {k v:Nat}(hE:∀x∈E,OkV x)(hv:OkV v):∀x∈E.set k v,OkV x:=fun x hx=>(List.mem_or_eq_of_mem_set hx).elim (hE x) fun h=>by rw[h];exact hv
theorem XN {β g len:Nat}{H:c5}{a:List Nat}(hb:H[β]?=some ⟨g,false,3,1,a.map j4,0⟩)(hl:a.length=len)(hp:0<len):OM 0 H (.own β g 0 len)=some (.vec len (a.map j4)):=by exact iR (zs:=a.map j4) (hb.trans (congrArg some (dA t159).symm)) (Nat.zero_le _) (by rw[List.length_map,hl];omega) (by omega) ((AX a).frz _ _ _)
variable {h:c5}
theorem UP {r:List Nat}{n:Nat}(hn:r.length=n)(hr:∀x∈r,x<512)(hs:s<512)(hl:n≤9):CB 25 [.vec n (r.map j4),.int .i64 ((s:Nat):Int)] h (.int .i64 ((applyN r s:Nat):Int)):=by subst hn;exact tY r s hr hs hl
theorem c_appL {r:List Nat}{n:Nat}(hn:r.length=n)(hr:∀x∈r,x<512)(hs:s<512)(hl:n≤9):CB 58 [.vec n (r.map j4),.int .i64 ((s:Nat):Int)] h (.int .i64 ((applyN r s:Nat):Int)):=by subst hn;exact AY r s hr hs hl
attribute [local go_sem] rd bL u0 w8 r8 n6 l6 bB s3 Int.natCast_nonneg Int.natCast_inj bK fF eH fG iW kA qO oE dF oF xC gJ mP mQ kB List.length_set List.length_replicate Int.toNat_natCast_add_one gY wrap64 rU List.length_map fK fJ jP lL lM oV dF iX bM nN nO yK kN kL u5 iY nP nQ s3 nR rW orN oB beq_self_eq_true bne_self_eq_false KQ BE N5 rU Ej
theorem c_dep (hu:WU u)(wc:WC u c)(hmx:mx<u.mutexes.length)(hEl:E.length=c.insts.length)(hE:∀x∈E,OkV x)(i pc:Int):CB 46 [.vec c.insts.length (u3 (eS u c mx c.insts.length)),.vec c.insts.length (E.map j4),.int .i64 i,.int .i64 pc] h (.int .i64 ((XM u c mx E i pc:Nat):Int)):=by
  refine .bz Tryz.f46 70 ?_;have hwl:=wc.len;have hk8:kM u mx≤8:=dN;have hk9:lY (u.mutexes.getD mx v8)≤8:=hk8;have hml:=hu.ml;have hrl:=wc.rl;have hrc:c.roots.length≤c.insts.length:=by have:=r9 wc.rs wc.rr;omega
  have hel:(cN u c mx).length=c.insts.length:=u5;have hsl:(w9 u c mx).length=c.insts.length:=p9.1;have hcl:=wc.cl;have hinl:(eS u c mx c.insts.length).length=c.insts.length:=bM;have hTl:(fR u c mx (w9 u c mx) i.toNat).length=u7 u c i.toNat:=cJ;refine c13z ?_;refine c14z ?_;refine .spl 12 rfl rfl (fun e1=>?_) (fun e1=>?_)
  ·try simp only[e1]
   have qe1:=fact e1;refine c209z ?_;refine c95z ?_;exact .ret (.ex (hq:=t4))
  try simp only[e1]
  have qe1:=fact e1;refine .k 6 [(2,12)] ?_;refine .spl 18 rfl rfl (fun e2=>?_) (fun e2=>?_)
  ·try simp only[e2]
   have qe2:=fact e2;refine c231z ?_;refine c95z ?_;exact .ret (.ex (hq:=t4))
  try simp only[e2]
  have qe2:=fact e2;refine .k 6 [(8,18)] ?_;refine .spl 24 rfl rfl (fun e3=>?_) (fun e3=>?_)
  ·try simp only[e3]
   have qe3:=fact e3;refine .k 8 [(14,24),(18,28)] ?_;refine c95z ?_;exact .ret (.ex (hq:=t4))
  try simp only[e3]
  have qe3:=fact e3;refine .k 4 [(14,24)] ?_;refine .spl 28 rfl rfl (fun e4=>?_) (fun e4=>?_)
  ·try simp only[e4]
   have qe4:=fact e4;refine c95z ?_;exact .ret (.ex (hq:=t4))
  try simp only[e4]
  have qe4:=fact e4;refine .m [(18,28)] ?_;refine u2z ?_ ?_
  ·intro e5 qe5;refine c10z ?_;exact .ret (.ex (hq:=t4))
  intro e5 qe5;refine .sk ?_;refine .c6 [0,1,2,3] ?_;refine c13z ?_;refine .c6 [1,2,9] ?_;have hi9:i.toNat<c.insts.length:=by omega
  have hp9:pc.toNat<u7 u c i.toNat:=by omega
  have hR:=(cP (u:=u) (c:=c) (m:=mx) (w9 u c mx) i.toNat).get hp9;have hrl9:=hR.1;have hz:=ML (k:=kM u mx) (s:=E.getD i.toNat 0) hk8 (hE _ (g8 (by omega)));have hpl:=oC hk8;simp only[hrl9];refine .ss v9 (mkP 20 [0,1,3,7,15,31,63,127,255,511,511,2047,4095,511,8703,25087,57855,131071,262143,524287] []) ?_;refine .k 4 [] ?_;refine .spl 47 rfl rfl (fun e6=>?_) (fun e6=>?_)
  ·try simp only[e6]
   have qe6:=fact e6;refine .k 8 [(3,47),(8,52)] ?_;refine .n [(8,52)] ?_;refine c72z ?_;exact .ret (.ex (hq:=t4))
  try simp only[e6]
  have qe6:=fact e6;refine .k 5 [(3,47)] ?_;refine .spl 52 rfl rfl (fun e7=>?_) (fun e7=>?_)
  ·try simp only[e7]
   have qe7:=fact e7;refine .k 8 [(8,52)] ?_;refine .n [(8,52)] ?_;refine c72z ?_;exact .ret (.ex (hq:=t4))
  try simp only[e7]
  have qe7:=fact e7;refine .k 7 [(8,52)] ?_;refine .ca rfl rfl (LO hk8) ?_;refine .n [(8,52)] ?_;refine u2z ?_ ?_
  ·intro e8 qe8;refine c10z ?_;exact .ret (.ex (hq:=t4))
  intro e8 qe8;refine .sk ?_;refine .c6 [1,2,9] ?_;refine c24z ?_;refine .ca rfl rfl (UP (s:=E.getD i.toNat 0) (r:=((fR u c mx (w9 u c mx) i.toNat).getD pc.toNat [])) hrl9 (hR.lt hk8) t162 (by omega)) ?_;refine .n ?_;exact .ret (.ex (hq:=t4))
theorem MQ (hu:WU u)(wc:WC u c)(hmx:mx<u.mutexes.length)(hEl:E.length=c.insts.length)(hE:∀x∈E,OkV x)(i pc:Int):CB 47 [.vec c.insts.length (u3 (eS u c mx c.insts.length)),.vec c.insts.length (E.map j4),.int .i64 i,.int .i64 pc] h (.int .i64 ((XM u c mx E i pc:Nat):Int)):=by
  refine .bz Tryz.f47 79 ?_;have hwl:=wc.len;have hk8:kM u mx≤8:=dN;have hk9:lY (u.mutexes.getD mx v8)≤8:=hk8;have hml:=hu.ml;have hrl:=wc.rl;have hrc:c.roots.length≤c.insts.length:=by have:=r9 wc.rs wc.rr;omega
  have hel:(cN u c mx).length=c.insts.length:=u5;have hsl:(w9 u c mx).length=c.insts.length:=p9.1;have hcl:=wc.cl;have hinl:(eS u c mx c.insts.length).length=c.insts.length:=bM;have hTl:(fR u c mx (w9 u c mx) i.toNat).length=u7 u c i.toNat:=cJ;refine c13z ?_;refine c14z ?_;refine .spl 12 rfl rfl (fun e1=>?_) (fun e1=>?_)
  ·try simp only[e1]
   have qe1:=fact e1;refine c209z ?_;refine c95z ?_;exact .ret (.ex (hq:=t4))
  try simp only[e1]
  have qe1:=fact e1;refine .k 6 [(2,12)] ?_;refine .spl 18 rfl rfl (fun e2=>?_) (fun e2=>?_)
  ·try simp only[e2]
   have qe2:=fact e2;refine c231z ?_;refine c95z ?_;exact .ret (.ex (hq:=t4))
  try simp only[e2]
  have qe2:=fact e2;refine .k 6 [(8,18)] ?_;refine .spl 24 rfl rfl (fun e3=>?_) (fun e3=>?_)
  ·try simp only[e3]
   have qe3:=fact e3;refine .k 8 [(14,24),(18,28)] ?_;refine c95z ?_;exact .ret (.ex (hq:=t4))
  try simp only[e3]
  have qe3:=fact e3;refine .k 4 [(14,24)] ?_;refine .spl 28 rfl rfl (fun e4=>?_) (fun e4=>?_)
  ·try simp only[e4]
   have qe4:=fact e4;refine c95z ?_;exact .ret (.ex (hq:=t4))
  try simp only[e4]
  have qe4:=fact e4;refine .m [(18,28)] ?_;refine u2z ?_ ?_
  ·intro e5 qe5;refine c10z ?_;exact .ret (.ex (hq:=t4))
  intro e5 qe5;refine .sk ?_;refine .c6 [0,1,2,3] ?_;refine c216z ?_;refine .c6 [0,1,2,3,9] ?_;have hi9:i.toNat<c.insts.length:=by omega
  have hp9:pc.toNat<u7 u c i.toNat:=by omega
  have hR:=(cP (u:=u) (c:=c) (m:=mx) (w9 u c mx) i.toNat).get hp9;have hrl9:=hR.1;have hz:=ML (k:=kM u mx) (s:=E.getD i.toNat 0) hk8 (hE _ (g8 (by omega)));have hpl:=oC hk8;simp only[hrl9];refine .ss v9 (mkP 22 [0,1,3,7,15,31,63,127,127,511,1023,2047,4095,8191,16383,16383,65535,131071,16383,278527,1048575,2097151] []) ?_;refine .k 3 [] ?_;refine .spl 47 rfl rfl (fun e6=>?_) (fun e6=>?_)
  ·try simp only[e6]
   have qe6:=fact e6;refine .k 8 [(2,47),(6,51)] ?_;refine .k 8 [(6,51),(13,58)] ?_;refine .n [(13,58)] ?_;refine c72z ?_;exact .ret (.ex (hq:=t4))
  try simp only[e6]
  have qe6:=fact e6;refine .k 4 [(2,47)] ?_;refine .spl 51 rfl rfl (fun e7=>?_) (fun e7=>?_)
  ·try simp only[e7]
   have qe7:=fact e7;refine .k 8 [(6,51),(13,58)] ?_;refine .n [(13,58)] ?_;refine c72z ?_;exact .ret (.ex (hq:=t4))
  try simp only[e7]
  have qe7:=fact e7;refine .k 7 [(6,51)] ?_;refine .spl 58 rfl rfl (fun e8=>?_) (fun e8=>?_)
  ·try simp only[e8]
   have qe8:=fact e8;refine .n [(13,58)] ?_;refine c72z ?_;exact .ret (.ex (hq:=t4))
  try simp only[e8]
  have qe8:=fact e8;refine .n [(13,58)] ?_;refine u2z ?_ ?_
  ·intro e9 qe9;refine c10z ?_;exact .ret (.ex (hq:=t4))
  intro e9 qe9;refine .sk ?_;refine .c6 [0,1,2,3] ?_;refine .ss v9 (mkP 13 [0,0,3,7,0,31,63,0,0,384,896,2047,4095] []) ?_;refine .k 8 [] ?_;refine .k 3 [] ?_;refine .ca rfl rfl (c_appL (s:=E.getD i.toNat 0) (r:=((fR u c mx (w9 u c mx) i.toNat).getD pc.toNat [])) rfl (hR.lt hk8) t162 (by omega)) ?_;refine .n [] ?_;exact .ret (.ex (hq:=t4))
theorem XO (i pc:Int):CB 46 [.nils,.nils,.int .i64 i,.int .i64 pc] h (.int .i64 0):=by
  refine .bz Tryz.f46 70 ?_;refine c13z ?_;refine c14z ?_;refine .spl 12 rfl rfl (fun e1=>?_) (fun e1=>?_)
  ·try simp only[e1]
   have qe1:=fact e1;refine c209z ?_;refine c95z ?_;exact .ret (.ex (hq:=by rfl))
  try simp only[e1]
  have qe1:=fact e1;refine .k 6 [(2,12)] ?_;refine .spl 18 rfl rfl (fun e2=>?_) (fun e2=>by exfalso;have q:=fact e2;omega);try simp only[e2]
  have qe2:=fact e2;refine c231z ?_;refine c95z ?_;exact .ret (.ex (hq:=by rfl))
end Go.Proofs.YtonbocmibeikmaaGreat
end
section
namespace Go.Proofs.YtonbocmibeikmaaGreat
open Go.Ab Go.Un
theorem shl1V {w:Nat}(h:w<12):IntKind.wrap .i64 (1*2^(min ((1+(w:Int)).toNat) 64))=((2^(1+w):Nat):Int):=by rw[show (1+(w:Int)).toNat=1+w from by omega];exact Ej h
variable {h:c5}
theorem N6 {x:Int}{k:Nat}(hk:within x 12=(k:Int)):CB 27 [.int .i64 x,.int .i64 12] h (.int .i64 ((k:Nat):Int)):=by rw[←hk];exact nB x 12 (by omega) (by omega)
theorem MR {e:TypeId}{K g n:Nat}{zs:List AV}(h:aC zs):aC (dY e K g zs n).cells:=by rw[P0];exact h
variable {β:Nat}{H:c5}
theorem UQ {n d g len l:Nat}{cs:List AV}(h:β<n):iQ n H (d+2) (.tup [.vec l cs,.own β g 0 len])=some (.tup [.vec l cs,.own β g 0 len]):=by rw[mX];simp only[p6,dK,if_pos h];rfl
variable {u:Un}{c:Clo}{mx:Nat}
theorem BY (hu:WU u)(wc:WC u c)(hmx:mx<u.mutexes.length){E:List Nat}(hβ:H[β]?=some ⟨0,false,3,1,E.map j4,0⟩)(hEl:E.length=c.insts.length)(hE:∀x∈E,OkV x)(i pc:Int):CB 46 [.vec c.insts.length (u3 (eS u c mx c.insts.length)),.own β 0 0 c.insts.length,.int .i64 i,.int .i64 pc] H (.int .i64 ((XM u c mx E i pc:Nat):Int)):=by exact CallA.borrow (args':=[.vec c.insts.length (u3 (eS u c mx c.insts.length)),.vec c.insts.length (E.map j4),.int .i64 i,.int .i64 pc]) (args:=[.vec c.insts.length (u3 (eS u c mx c.insts.length)),.own β 0 0 c.insts.length,.int .i64 i,.int .i64 pc]) ⟨.inr rfl,.inr (XN hβ hEl (by have:=wc.len;omega)),.inr rfl,.inr rfl,trivial⟩ ((c_dep hu wc hmx hEl hE i pc).mono fun y k hq=>hq.1)
theorem MS (hu:WU u)(wc:WC u c)(hmx:mx<u.mutexes.length){E:List Nat}(hβ:H[β]?=some ⟨0,false,3,1,E.map j4,0⟩)(hEl:E.length=c.insts.length)(hE:∀x∈E,OkV x)(i pc:Int):CB 47 [.vec c.insts.length (u3 (eS u c mx c.insts.length)),.own β 0 0 c.insts.length,.int .i64 i,.int .i64 pc] H (.int .i64 ((XM u c mx E i pc:Nat):Int)):=by exact CallA.borrow (args':=[.vec c.insts.length (u3 (eS u c mx c.insts.length)),.vec c.insts.length (E.map j4),.int .i64 i,.int .i64 pc]) (args:=[.vec c.insts.length (u3 (eS u c mx c.insts.length)),.own β 0 0 c.insts.length,.int .i64 i,.int .i64 pc]) ⟨.inr rfl,.inr (XN hβ hEl (by have:=wc.len;omega)),.inr rfl,.inr rfl,trivial⟩ ((MQ hu wc hmx hEl hE i pc).mono fun y k hq=>hq.1)
attribute [local go_sem] rd bL u0 w8 r8 n6 l6 bB s3 Int.natCast_nonneg Int.natCast_inj bK fF eH fG iW kA qO oE dF oF xC gJ mP mQ kB List.length_set List.length_replicate Int.toNat_natCast_add_one gY wrap64 rU List.length_map fK fJ jP lL lM oV dF iX bM nN nO yK kN kL u5 iY nP nQ s3 nR rW orN oB beq_self_eq_true bne_self_eq_false KQ BE N5 rU Ej shl1V
section
attribute [local go_sem] LH
theorem c_entRO (hu:WU u)(wc:WC u c)(hmx:mx<u.mutexes.length):CH 32 [.agg [.vec u.globals.length (g5 u.globals),.vec u.mutexes.length (c9 u.mutexes),.vec u.procs.length (g7 u.procs),.int .i64 u.main],.agg [.vec c.insts.length (j0 c.insts),.vec c.calls.length (j8 c.calls),.vec c.roots.length (g5 c.roots)],.int .i64 ((mx:Nat):Int)] h (.own (h.length+2) 0 0 c.insts.length) (h++[⟨0,false,30,4,[.vec u.globals.length (g5 u.globals),.vec u.mutexes.length (c9 u.mutexes),.vec u.procs.length (g7 u.procs),.int .i64 u.main],0⟩,⟨0,false,34,3,[.vec c.insts.length (j0 c.insts),.vec c.calls.length (j8 c.calls),.vec c.roots.length (g5 c.roots)],0⟩,⟨0,false,3,1,(cN u c mx).map j4,0⟩]):=by
  refine .wz Tryz.f32 123 ?_;have hwl:=wc.len;have hk8:kM u mx≤8:=dN;have hk9:lY (u.mutexes.getD mx v8)≤8:=hk8;have hml:=hu.ml;have hrl:=wc.rl;have hrc:c.roots.length≤c.insts.length:=by have:=r9 wc.rs wc.rr;omega
  have hel:(cN u c mx).length=c.insts.length:=u5;have hsl:(w9 u c mx).length=c.insts.length:=p9.1;have hcl:=wc.cl;refine c180z ?_;refine .n ?_;refine c13z ?_;refine .c6 [2,3,4,7,8] ?_;refine c19z ?_;refine .u6 (fun m st=>∃(j:Nat) (E:List Nat),(m=c.roots.length-j∧(qP u c mx E j∧j≤c.roots.length))∧st=⟨mkS 123 [(2,AV.int .i64 ((mx:Nat):Int)),(3,AV.ptr h.length 0 0),(4,AV.ptr (h.length+1) 0 0),(7,AV.vec c.insts.length (s7 (w9 u c mx))),(8,AV.own (h.length+2) 0 0 c.insts.length),(9,AV.int .i64 ((j:Nat):Int))],h++[⟨0,false,30,4,[.vec u.globals.length (g5 u.globals),.vec u.mutexes.length (c9 u.mutexes),.vec u.procs.length (g7 u.procs),.int .i64 u.main],0⟩,⟨0,false,34,3,[.vec c.insts.length (j0 c.insts),.vec c.calls.length (j8 c.calls),.vec c.roots.length (g5 c.roots)],0⟩,⟨0,false,3,1,E.map j4,0⟩]⟩) (.v ⟨0,(List.replicate c.insts.length 0),⟨rfl,⟨qP.start,by omega⟩⟩,rfl⟩) ?_;rintro m sl h' ⟨j,E,⟨hm,⟨hR,hj⟩⟩,hst⟩;obtain ⟨rfl,rfl⟩:=St.mk.inj hst;clear hst;have hEl:=hR.es.1;refine c0z ?_;refine u2z ?_ ?_
  ·intro e1 qe1;refine c2z ?_;have hr:=wc.rr _ (g8 (d:=0) (show j<c.roots.length by omega));refine c1z ?_;refine .c6 [2,3,4,7,8,9] ?_;refine .rz ?_;exact ⟨_,by omega,.v ⟨(j+1),(E.set (c.roots.getD j 0).toNat 1),⟨rfl,⟨hR.next hu wc (by omega),by omega⟩⟩,rfl⟩ (he:=t12) (hk:=t176)⟩
  intro e1 qe1;refine .exit ?_;obtain rfl:j=c.roots.length:=by omega
  have hG:=hR.all wc;change c8 ..;refine c18z ?_;refine c8.rC 10 rfl ?_;refine .u6 (fun m st=>∃(i:Nat),(m=c.insts.length-i∧(i≤c.insts.length))∧st=⟨mkS 123 [(2,AV.int .i64 ((mx:Nat):Int)),(3,AV.ptr h.length 0 0),(4,AV.ptr (h.length+1) 0 0),(7,AV.vec c.insts.length (s7 (w9 u c mx))),(8,AV.own (h.length+2) 0 0 c.insts.length),(10,AV.own (h.length+3) i 0 i),(11,AV.int .i64 ((i:Nat):Int))],h++[⟨0,false,30,4,[.vec u.globals.length (g5 u.globals),.vec u.mutexes.length (c9 u.mutexes),.vec u.procs.length (g7 u.procs),.int .i64 u.main],0⟩,⟨0,false,34,3,[.vec c.insts.length (j0 c.insts),.vec c.calls.length (j8 c.calls),.vec c.roots.length (g5 c.roots)],0⟩,⟨0,false,3,1,E.map j4,0⟩,o9 32 1 i (u3 (eS u c mx i))]⟩) (.v ⟨0,⟨rfl,by omega⟩,rfl⟩ (hs:=t11)) ?_ (he:=t73);rintro m sl h' ⟨i,⟨hm,hi0⟩,hst⟩;obtain ⟨rfl,rfl⟩:=St.mk.inj hst;clear hst;have hinl:(eS u c mx i).length=i:=bM;refine c0z ?_;refine u2z ?_ ?_
  ·intro e2 qe2;refine c2z ?_;have hi:i<c.insts.length:=by omega
   have hTi0:(fR u c mx (w9 u c mx) i).length=u7 u c i:=cJ;refine .r ?_;refine c134z ?_;refine c28z ?_;refine .c6 [2,3,4,7,8,10,11] ?_;refine .rz ?_;exact ⟨_,by omega,.v ⟨(i+1),⟨rfl,by omega⟩,rfl⟩ (he:=t70) (hk:=t140) (hs:=t11)⟩
  intro e2 qe2;refine .exit ?_;obtain rfl:i=c.insts.length:=by omega
  refine c8.pS (t:=10) (γ:=h.length+3) (len:=c.insts.length) t30 t116 (by omega) (xF _) (iS (by decide) rfl) ?_;rw[aW];simp only[l7,List.set_cons_succ,List.set_cons_zero];generalize dY _ _ _ _ _=Ib;change c8 ..;refine .seq ?_;refine .c6 [3,4,8,10] ?_;refine c19z ?_;refine .u6 (fun m st=>∃(E1:List Nat) (ag:Bool),(m=Qw c E1 ag∧(BD u c mx E1∧(ag=false→E1=(cN u c mx))))∧st=⟨mkS 123 [(3,AV.ptr h.length 0 0),(4,AV.ptr (h.length+1) 0 0),(8,AV.own (h.length+2) 0 0 c.insts.length),(10,AV.vec c.insts.length (u3 (eS u c mx c.insts.length))),(12,AV.bool ag)],h++[⟨0,false,30,4,[.vec u.globals.length (g5 u.globals),.vec u.mutexes.length (c9 u.mutexes),.vec u.procs.length (g7 u.procs),.int .i64 u.main],0⟩,⟨0,false,34,3,[.vec c.insts.length (j0 c.insts),.vec c.calls.length (j8 c.calls),.vec c.roots.length (g5 c.roots)],0⟩,⟨0,false,3,1,E1.map j4,0⟩,Ib]⟩) (.v ⟨E,true,⟨rfl,⟨hG,fun hf=>by cases hf⟩⟩,rfl⟩) ?_;rintro m sl h' ⟨E1,ag,⟨hm,⟨hG1,hdone⟩⟩,hst⟩;obtain ⟨rfl,rfl⟩:=St.mk.inj hst;clear hst;refine c0z ?_;refine u2z ?_ ?_
  ·intro e3 qe3;refine c125z ?_;have hag:ag=true:=by assumption
   subst hag;refine .z ?_;refine c19z ?_;refine .u6 (fun m st=>∃(E2:List Nat) (a2:Bool) (i:Nat),(m=c.insts.length-i∧(yH u c mx E1 E2 a2 i 0∧i≤c.insts.length))∧st=⟨mkS 123 [(3,AV.ptr h.length 0 0),(4,AV.ptr (h.length+1) 0 0),(8,AV.own (h.length+2) 0 0 c.insts.length),(10,AV.vec c.insts.length (u3 (eS u c mx c.insts.length))),(12,AV.bool a2),(13,AV.int .i64 ((i:Nat):Int))],h++[⟨0,false,30,4,[.vec u.globals.length (g5 u.globals),.vec u.mutexes.length (c9 u.mutexes),.vec u.procs.length (g7 u.procs),.int .i64 u.main],0⟩,⟨0,false,34,3,[.vec c.insts.length (j0 c.insts),.vec c.calls.length (j8 c.calls),.vec c.roots.length (g5 c.roots)],0⟩,⟨0,false,3,1,E2.map j4,0⟩,Ib]⟩) (.v ⟨E1,false,0,⟨rfl,⟨yH.start hG1,by omega⟩⟩,rfl⟩) ?_;rintro m sl h' ⟨E2,a2,i,⟨hm,⟨hJ,hi0⟩⟩,hst⟩;obtain ⟨rfl,rfl⟩:=St.mk.inj hst;clear hst;refine c0z ?_;refine u2z ?_ ?_
   ·intro e4 qe4;refine c2z ?_;have hi:i<c.insts.length:=by omega
    have w:=dE wc hi;have w1:=w.lo;have w2:=w.hi;have hsz:(c7 u (itI c i)).length≤1664:=n7 hu w;have hcll:(c.calls.getD i []).length=(c7 u (itI c i)).length:=wc.cll i hi;have hlI:u7 u c i=(c7 u (itI c i)).length:=rfl;have hTl:(fR u c mx (w9 u c mx) i).length=u7 u c i:=cJ;have hcall:∀j,j<u7 u c i→(eQ u c i j).op=2→0≤(c.calls.getD i []).getD j 0∧(c.calls.getD i []).getD j 0<c.insts.length:=fun j hp ho=>by have:=(wc.call i hi j hp).1 (.inl ho);exact ⟨this.1,this.2.1⟩
    refine c19z ?_;refine .u6 (fun m st=>∃(E3:List Nat) (a3:Bool) (j:Nat),(m=u7 u c i-j∧(yH u c mx E1 E3 a3 i j∧j≤u7 u c i))∧st=⟨mkS 123 [(3,AV.ptr h.length 0 0),(4,AV.ptr (h.length+1) 0 0),(8,AV.own (h.length+2) 0 0 c.insts.length),(10,AV.vec c.insts.length (u3 (eS u c mx c.insts.length))),(12,AV.bool a3),(13,AV.int .i64 ((i:Nat):Int)),(14,AV.int .i64 ((j:Nat):Int))],h++[⟨0,false,30,4,[.vec u.globals.length (g5 u.globals),.vec u.mutexes.length (c9 u.mutexes),.vec u.procs.length (g7 u.procs),.int .i64 u.main],0⟩,⟨0,false,34,3,[.vec c.insts.length (j0 c.insts),.vec c.calls.length (j8 c.calls),.vec c.roots.length (g5 c.roots)],0⟩,⟨0,false,3,1,E3.map j4,0⟩,Ib]⟩) (.v ⟨E2,a2,0,⟨rfl,⟨hJ,by omega⟩⟩,rfl⟩) ?_;rintro m sl h' ⟨E3,a3,j,⟨hm,⟨hJ1,hj0⟩⟩,hst⟩;obtain ⟨rfl,rfl⟩:=St.mk.inj hst;clear hst;have hE3:E3.length=c.insts.length:=hJ1.g.es.1;refine c0z ?_;refine u2z ?_ ?_
    ·intro e5 qe5;refine c2z ?_;refine .seq ?_;have hjp:j<u7 u c i:=by omega
     have hop0:(eQ u c i j).op=((c7 u (itI c i)).getD j g6).op:=rfl;refine c66z ?_;refine u2z ?_ ?_
     ·intro e6 qe6;refine c6z ?_;refine c104z ?_;exact ⟨_,by omega,.v ⟨E3,a3,(j+1),⟨rfl,⟨hJ1.skip (fun ho=>absurd ho (by rw[hop0];omega)),by omega⟩⟩,rfl⟩ (he:=t12) (hk:=t42)⟩
     intro e6 qe6;refine .sk ?_;refine .c6 [3,4,8,10,12,13,14] ?_;have hop:(eQ u c i j).op=2:=by rw[hop0];omega
     obtain ⟨hc1,hc2⟩:=hcall j hjp hop;obtain ⟨q,hqe⟩:∃q:Nat,(c.calls.getD i []).getD j 0=(q:Int):=⟨_,(Int.toNat_of_nonneg hc1).symm⟩;have hqc:cW c i j=q:=by unfold cW;rw[hqe];rfl
     have hTi:=(cP (u:=u) (c:=c) (m:=mx) (w9 u c mx) i).get hjp;have hc3:=hc1;have hc4:=hc2;rw[hqe]at hc3 hc4;have hq3:q<c.insts.length:=by omega
     refine c124z ?_;refine .c6 [3,4,8,10,12,13,14,15] ?_;rw[hqe];have hfl:applyN ((fR u c mx (w9 u c mx) i).getD j []) (E3.getD i 0)<512:=Nat.lt_of_lt_of_le (jO hTi _) (oC hk8).2;have hEq:E3.getD q 0<512:=hJ1.g.es.lt _ (g8 (by omega));have hne:(E3.getD q 0|||applyN ((fR u c mx (w9 u c mx) i).getD j []) (E3.getD i 0))=E3.getD q 0↔∀b,(nY u c mx E3 i j).testBit b=true→bt E3 (cW c i j) b=true:=by rw[hqc];exact LC
     refine .ss v9 (mkP 18 [0,0,3,7,0,0,48,112,0,496,1008,0,0,6144,14336,32752,65535,131071] []) ?_;refine .k 8 [] ?_;refine .k 7 [] ?_;refine .ca rfl rfl (AY _ _ (hTi.lt hk8) (hJ1.g.es.lt _ (g8 (by omega))) (by have:=hTi.1;omega)) ?_;refine .n [] ?_;refine .c6 [3,4,8,10,12,13,14,15,16] ?_;refine .z ?_;refine u2z ?_ ?_
     ·intro e7 qe7;refine c1z ?_;refine c104z ?_;exact ⟨_,by omega,.v ⟨(E3.set q (E3.getD q 0|||nY u c mx E3 i j)),true,(j+1),⟨rfl,⟨t177,by omega⟩⟩,rfl⟩ (he:=t12) (hk:=t42)⟩
     intro e7 qe7;refine c4z ?_;refine c104z ?_;exact ⟨_,by omega,.v ⟨E3,a3,(j+1),⟨rfl,⟨hJ1.skip (fun _=>hne.1 (by omega)),by omega⟩⟩,rfl⟩ (he:=t12) (hk:=t42)⟩
    intro e5 qe5;refine .exit ?_;obtain rfl:j=u7 u c i:=by omega
    change c8 ..;refine .c6 [3,4,8,10,12,13] ?_;refine .rz ?_;exact ⟨_,by omega,.v ⟨E3,a3,(i+1),⟨rfl,⟨hJ1.fin,by omega⟩⟩,rfl⟩ (he:=t12) (hk:=t42)⟩
   intro e4 qe4;refine .exit ?_;obtain rfl:i=c.insts.length:=by omega
   have hlt:=LD hJ;exact ⟨_,by omega,.v ⟨E2,a2,⟨rfl,⟨hJ.g,fun hf=>by subst hf;exact hJ.done hu wc⟩⟩,rfl⟩ (he:=t12) (hk:=t42)⟩
  intro e3 qe3;refine c63z ?_;exact ⟨(h++[⟨0,false,30,4,[.vec u.globals.length (g5 u.globals),.vec u.mutexes.length (c9 u.mutexes),.vec u.procs.length (g7 u.procs),.int .i64 u.main],0⟩,⟨0,false,34,3,[.vec c.insts.length (j0 c.insts),.vec c.calls.length (j8 c.calls),.vec c.roots.length (g5 c.roots)],0⟩,⟨0,false,3,1,(cN u c mx).map j4,0⟩]),[Ib],_,(by rw[hdone (by assumption)];simp),by simp,y0.new (fun b hb=>by replace hb:=s8z hb;rcases hb with rfl | rfl | rfl<;>first | exact plnU u | exact plnC c | exact AX _ | assumption),LB (by simp),by exact ⟨rfl,rfl⟩⟩
end
section
attribute [local go_sem] U0
theorem c_tabRO (hu:WU u)(wc:WC u c)(hmx:mx<u.mutexes.length):CallA Tryz.prog cfg 38 [.agg [.vec u.globals.length (g5 u.globals),.vec u.mutexes.length (c9 u.mutexes),.vec u.procs.length (g7 u.procs),.int .i64 u.main],.agg [.vec c.insts.length (j0 c.insts),.vec c.calls.length (j8 c.calls),.vec c.roots.length (g5 c.roots)],.int .i64 ((mx:Nat):Int)] h (fun y' h'=>∃Ib,y'=.tup [.vec c.insts.length (u3 (eS u c mx c.insts.length)),.own (h.length+5) 0 0 c.insts.length]∧h'=h++[⟨0,false,30,4,[.vec u.globals.length (g5 u.globals),.vec u.mutexes.length (c9 u.mutexes),.vec u.procs.length (g7 u.procs),.int .i64 u.main],0⟩,⟨0,false,34,3,[.vec c.insts.length (j0 c.insts),.vec c.calls.length (j8 c.calls),.vec c.roots.length (g5 c.roots)],0⟩,Ib,⟨0,false,30,4,[.vec u.globals.length (g5 u.globals),.vec u.mutexes.length (c9 u.mutexes),.vec u.procs.length (g7 u.procs),.int .i64 u.main],0⟩,⟨0,false,34,3,[.vec c.insts.length (j0 c.insts),.vec c.calls.length (j8 c.calls),.vec c.roots.length (g5 c.roots)],0⟩,⟨0,false,3,1,(cN u c mx).map j4,0⟩]):=by
  refine .wz Tryz.f38 36 ?_;have hwl:=wc.len;have hk8:kM u mx≤8:=dN;have hk9:lY (u.mutexes.getD mx v8)≤8:=hk8;have hml:=hu.ml;have hrl:=wc.rl;have hrc:c.roots.length≤c.insts.length:=by have:=r9 wc.rs wc.rr;omega
  have hel:(cN u c mx).length=c.insts.length:=u5;have hsl:(w9 u c mx).length=c.insts.length:=p9.1;have hcl:=wc.cl;refine c180z ?_;refine .n ?_;refine .c6 [2,3,4,8] ?_;refine c18z ?_;refine c8.rC 9 rfl ?_;refine .u6 (fun m st=>∃(i:Nat),(m=c.insts.length-i∧(i≤c.insts.length))∧st=⟨mkS 36 [(2,AV.int .i64 ((mx:Nat):Int)),(3,AV.ptr h.length 0 0),(4,AV.ptr (h.length+1) 0 0),(8,AV.vec c.insts.length (s7 (w9 u c mx))),(9,AV.own (h.length+2) i 0 i),(10,AV.int .i64 ((i:Nat):Int))],h++[⟨0,false,30,4,[.vec u.globals.length (g5 u.globals),.vec u.mutexes.length (c9 u.mutexes),.vec u.procs.length (g7 u.procs),.int .i64 u.main],0⟩,⟨0,false,34,3,[.vec c.insts.length (j0 c.insts),.vec c.calls.length (j8 c.calls),.vec c.roots.length (g5 c.roots)],0⟩,o9 32 1 i (u3 (eS u c mx i))]⟩) (.v ⟨0,⟨rfl,by omega⟩,rfl⟩ (hs:=t11)) ?_ (he:=t73);rintro m sl h' ⟨i,⟨hm,hi0⟩,hst⟩;obtain ⟨rfl,rfl⟩:=St.mk.inj hst;clear hst;have hinl:(eS u c mx i).length=i:=bM;refine c0z ?_;refine u2z ?_ ?_
  ·intro e1 qe1;refine c2z ?_;have hi:i<c.insts.length:=by omega
   have hTi0:(fR u c mx (w9 u c mx) i).length=u7 u c i:=cJ;refine .r ?_;refine c134z ?_;refine c28z ?_;refine .c6 [2,3,4,8,9,10] ?_;refine .rz ?_;exact ⟨_,by omega,.v ⟨(i+1),⟨rfl,by omega⟩,rfl⟩ (he:=t70) (hk:=t98) (hs:=t11)⟩
  intro e1 qe1;refine .exit ?_;obtain rfl:i=c.insts.length:=by omega
  refine c8.pS (t:=9) (γ:=h.length+2) (len:=c.insts.length) t30 t116 (by omega) (xF _) (iS (by decide) rfl) ?_;rw[aW];simp only[l7,List.set_cons_succ,List.set_cons_zero];generalize hIe:dY _ _ _ _ _=Ib;have hIb:aC Ib.cells:=by rw[←hIe];exact MR (xF _)
  change c8 ..;refine c25z ?_;refine .ch rfl rfl (c_entRO hu wc hmx) ?_;refine c102z ?_;exact ⟨(h++[⟨0,false,30,4,[.vec u.globals.length (g5 u.globals),.vec u.mutexes.length (c9 u.mutexes),.vec u.procs.length (g7 u.procs),.int .i64 u.main],0⟩,⟨0,false,34,3,[.vec c.insts.length (j0 c.insts),.vec c.calls.length (j8 c.calls),.vec c.roots.length (g5 c.roots)],0⟩,Ib,⟨0,false,30,4,[.vec u.globals.length (g5 u.globals),.vec u.mutexes.length (c9 u.mutexes),.vec u.procs.length (g7 u.procs),.int .i64 u.main],0⟩,⟨0,false,34,3,[.vec c.insts.length (j0 c.insts),.vec c.calls.length (j8 c.calls),.vec c.roots.length (g5 c.roots)],0⟩,⟨0,false,3,1,(cN u c mx).map j4,0⟩]),[],_,(by simp only[List.append_nil,List.append_assoc,List.cons_append,List.nil_append]),by simp,y0.new (fun b hb=>by replace hb:=s8z hb;rcases hb with rfl | rfl | rfl | rfl | rfl | rfl<;>first | exact plnU u | exact plnC c | exact AX _ | assumption),UQ (by simp),by exact ⟨Ib,rfl,rfl⟩⟩
end
theorem c_lawDepths (L:List Int)(hL:L.length<4611686018427387904)(m i pc:Int)(raw:Bool)(n:Int):CB 13 [.vec L.length (g5 L),.int .i64 m,.int .i64 i,.int .i64 pc,.bool raw,.int .i64 n] [] (.bool true):=by
  refine .bz Tryz.f13 96 ?_;refine c164z ?_;refine n5.cx rfl rfl hb15 (XF L hL) (fun y1 h1 hq1=>?_);obtain ⟨⟨p,u,c,gp,hu,wc,rfl⟩,rfl⟩:=hq1;have hml:=hu.ml;have hwl:=wc.len;simp only[GI];refine .e 8 ?_;refine .n ?_;refine .c6 [1,2,3,4,5,14,15] ?_;refine c15z ?_;refine .ca rfl rfl (BX hu m) ?_;refine .n ?_;obtain ⟨mx,hmx,hme⟩:=iO m (n:=u.mutexes.length) (by omega);simp only[hme];have hk8:kM u mx≤8:=dN;have hel:(cN u c mx).length=c.insts.length:=u5;have hcl:=wc.cl;refine c14z ?_;refine n5.cx rfl rfl hb38 (c_tabRO hu wc hmx) (fun y1 h1 hq1=>?_);obtain ⟨Ib,rfl,rfl⟩:=hq1;refine c35z ?_;refine .c6 [1,2,3,4,5,14,15,16,17] ?_;refine .z ?_;refine u2z ?_ ?_
  ·intro e1 qe1;refine c145z ?_;refine .ca rfl rfl (nB _ _ (by omega) (by omega)) ?_;refine .e 2 ?_;refine .ca rfl rfl (nB _ _ (by omega) (by omega)) ?_;refine c28z ?_;refine .c6 [1,2,3,5,14,15,16,17] ?_;refine c25z ?_;refine .ca rfl rfl (BY hu wc hmx (β:=8) rfl hel rY _ _) ?_;refine .n ?_;refine c14z ?_;refine c131z ?_;refine .c6 [1,2,3,5,14,15,16,17,18,19] ?_;obtain ⟨kn,hkn,hke⟩:=iO n (n:=c.insts.length) (by omega);simp only[hke];obtain ⟨wn,hwn,hwe⟩:=iO (n.fdiv (2^min 4 64)) (n:=12) (by omega);refine c25z ?_;refine .ca rfl rfl (N6 hwe) ?_;refine .n ?_;refine .c6 [1,2,3,14,15,16,17,18] ?_;have hvl:((cN u c mx).set kn (2^(1+wn))).length=c.insts.length:=by rw[List.length_set];exact hel
   have hvE:∀x∈((cN u c mx).set kn (2^(1+wn))),OkV x:=MP rY (MM (by omega));refine c24z ?_;refine .ca rfl rfl (LK hu wc hmx) ?_;refine .e 2 ?_;refine .ca rfl rfl (MQ hu wc hmx hel rY _ _) ?_;refine .k 6 [(10,74)] ?_;refine .ca rfl rfl (BY hu wc hmx (β:=8) rfl hvl hvE _ _) ?_;refine .k 4 [(10,74)] ?_;refine .ca rfl rfl (MS hu wc hmx (β:=8) rfl hvl hvE _ _) ?_;refine .k 5 [(10,74),(23,87)] ?_;refine .ca rfl rfl (XO _ _) ?_;refine .k 3 [(23,87)] ?_;refine .ca rfl rfl (U3 _) ?_;refine .n ?_;exact .ret (.ex (hq:=by rfl))
  intro e1 qe1;refine .sk ?_;refine c25z ?_;refine .ca rfl rfl (BY hu wc hmx (β:=8) rfl hel rY _ _) ?_;refine .n ?_;refine .c6 [1,2,3,5,14,15,16,17,18] ?_;refine c14z ?_;refine c131z ?_;obtain ⟨kn,hkn,hke⟩:=iO n (n:=c.insts.length) (by omega);simp only[hke];obtain ⟨wn,hwn,hwe⟩:=iO (n.fdiv (2^min 4 64)) (n:=12) (by omega);refine c25z ?_;refine .ca rfl rfl (N6 hwe) ?_;refine .n ?_;refine .c6 [1,2,3,14,15,16,17,18] ?_;have hvl:((cN u c mx).set kn (2^(1+wn))).length=c.insts.length:=by rw[List.length_set];exact hel
  have hvE:∀x∈((cN u c mx).set kn (2^(1+wn))),OkV x:=MP rY (MM (by omega));refine c24z ?_;refine .ca rfl rfl (LK hu wc hmx) ?_;refine .e 2 ?_;refine .ca rfl rfl (MQ hu wc hmx hel rY _ _) ?_;refine .k 6 [(10,74)] ?_;refine .ca rfl rfl (BY hu wc hmx (β:=8) rfl hvl hvE _ _) ?_;refine .k 4 [(10,74)] ?_;refine .ca rfl rfl (MS hu wc hmx (β:=8) rfl hvl hvE _ _) ?_;refine .k 5 [(10,74),(23,87)] ?_;refine .ca rfl rfl (XO _ _) ?_;refine .k 3 [(23,87)] ?_;refine .ca rfl rfl (U3 _) ?_;refine .n ?_;exact .ret (.ex (hq:=by rfl))
end Go.Proofs.YtonbocmibeikmaaGreat
end
section
namespace Go.Ab
open Go.RowKit
def EA (w:World):List Value→List AV→Prop
 | [],[]=>True
 | v::vs,x::xs=>lN w (fun k _=>k<w.heap.size) v x∧EA w vs xs
 | _,_=>False
theorem EA.get {w:World}:∀{vs:List Value} {xs:List AV},EA w vs xs→vs.length=xs.length∧∀(j:Nat) v x,vs[j]?=some v→xs[j]?=some x→lN w (fun k _=>k<w.heap.size) v x
 | [],[],_=>⟨rfl,fun j v x h=>by simp at h⟩
 | v::vs,x::xs,h=>by
  obtain ⟨h1,h2⟩:=h;obtain ⟨k1,k2⟩:=EA.get h2;refine ⟨by simp[k1],fun j u y hu hy=>?_⟩
  match j with
  | 0=>simp at hu hy;subst hu hy;exact h1
  | j+1=>exact k2 j u y t136 (by simpa using hy)
 | [],_::_,h=>h.elim
 | _::_,[],h=>h.elim
theorem CallA.law {P:Program}{C:Cfg}{f:FuncId}{args:List AV}(hG:C.glob=fun _=>.any)(r:CallA P C f args [] (fun x h'=>x=.bool true∧h'=[]))(w:World)(cargs:Array Value)(hr:EA w cargs.toList args) :
  Calls P f cargs w fun e w'=>e=.returned (.bool true)∧Below w.heap.size w w':=by
 obtain ⟨k1,k2⟩:=EA.get hr;exact CallA.top hG (r.mono fun _ _ h=>h.1) w cargs (by simpa using k1) fun j v x h1 h2=>k2 j v x t130 h2
theorem prel_ints {w:World}{a:Option Addr}{len cap:Nat}{zs:List Int}
  (h:(a=none∧len=0∧cap=0∧zs=[])∨∃x,a=some x∧len≤cap∧cap≤maxLen∧zs.length=cap∧(∀i,i<zs.length→w.cell? (x.add i)=some (.int .i64 (zs.getD i 0)))∧∀n∈zs,(Lit.int .i64 n).wf=true) :
  lN w (fun k _=>k<w.heap.size) (.slice a len cap) (Ff (zs.take len))∧(zs.take len).length=len∧len≤maxLen∧∀n∈zs.take len,-9223372036854775808≤n∧n<9223372036854775808:=by
 rcases h with ⟨rfl,rfl,rfl,rfl⟩ | ⟨x,rfl,h1,h2,h3,h4,h5⟩
 ·exact ⟨NV _ _,rfl,by omega,by simp⟩
 ·refine ⟨NX h1 h3 h4,t60,by omega,fun n hn=>?_⟩;have:=h5 n (List.mem_of_mem_take hn);simp only[Lit.wf,Bool.and_eq_true,decide_eq_true_eq]at this;have e1:IntKind.min .i64 = -9223372036854775808:=rfl;have e2:IntKind.max .i64=9223372036854775807:=rfl;rw[e1,e2]at this;omega
end Go.Ab
end
