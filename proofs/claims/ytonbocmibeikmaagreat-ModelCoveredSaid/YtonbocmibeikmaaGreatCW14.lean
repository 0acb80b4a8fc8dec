/- My own texts, put together by a program of mine. -/
import Derived.Test.YtonbocmibeikmaaGreatCW13
set_option linter.unusedSimpArgs false
set_option linter.unusedVariables false
set_option maxRecDepth 100000
set_option maxHeartbeats 4000000
section
namespace Go.Proofs.YtonbocmibeikmaaGreat
open Go.Ab
set_option maxRecDepth 1000000
def mA10:List AV:=[.agg wv30,.agg wv32,wv5,wv8,wvI 100]
def mH10:c6:=[wv2,nM,wv31,⟨0,false,34,3,wv32,0⟩]
def mX10:AV:=.vec 5 [wv5,.vec 1 wv6,wvI 1,.vec 1 [wv5,wvI 1],wvI 1,.vec 2 [wv5,wvI 2,wvI 1,wv5],wvI 1,.vec 1 [wv5,wvI 2],wvI 1,uC]
def mK10:c6:=[wv2,nM,wv31,⟨0,false,34,3,wv32,0⟩]
theorem m10:W4 cfg kL (pC Fl lS) 85 mA10 mH10=some (mX10,mK10):=by kernel_rfl
def XZ:F0:=(85,mA10,mH10,mX10,mK10)::Fl
theorem MU:gK Tryz.prog cfg XZ:=dS (gU u4 aG (dZ BW dC)) m10 BW
theorem VG:W4 cfg kL (pC XZ lS) 51 [] []=some (.bool true,[]):=by kernel_rfl
theorem MV (h:c6):CallA Tryz.prog cfg 51 [] h fun y h'=>y=.bool true∧h'=h:=CallA.frame0 rfl (gU u4 aG (dZ MU dC) _ _ _ _ _ VG) h
end Go.Proofs.YtonbocmibeikmaaGreat
end
section
namespace Go.Proofs.YtonbocmibeikmaaGreat
open Go.Ab Go.Un
attribute [local go_sem] rd s7 eO rR wS Sv Int.natCast_nonneg Int.natCast_inj Int.toNat_natCast_add_one eT wrap64 tN max2 VI l9 fM Option.bind_eq_bind
variable {h:c6}{u:Un}{c:Clo}{mx:Nat}
theorem MW (d:Int):CB 83 [.agg [.vec u.globals.length (g8 u.globals),.vec u.mutexes.length (g6 u.mutexes),.vec u.procs.length (g9 u.procs),.int .i64 u.main],.agg [.vec c.insts.length (j5 c.insts),.vec c.calls.length (j9 c.calls),.vec c.roots.length (g8 c.roots)],.int .i64 ((mx:Nat):Int),.agg [.int .i64 d,.vec 0 []]] h (.vec 0 []):=by refine .bz Tryz.f83 139 ?_;refine c169z ?_;refine c98z ?_;refine .z ?_;exact .ret (.ex (hq:=by rfl))
variable {b0 b1 b2:Blk}{L:List Int}
theorem srcFamP:aU (h.length+3) L (h.length+4) (fun I=>h++[b0,b1,b2,⟨0,false,118,2,[.vec L.length (g8 L),.int .i64 I],0⟩]):=
  ⟨fun I=>by rw[p8];rfl,fun I k=>by rw[l8];rfl,fun I=>by simp⟩
theorem E9 {l:c6}(I n:Int)(hI:OkI L I)(hL:L.length<4611686018427387904)(hn:0<n)(hm:n≤4611686018427387904):CH 75 [.ptr (h.length+3) 0 0,.int .i64 n] (h++(b0::b1::b2::⟨0,false,118,2,[.vec L.length (g8 L),.int .i64 I],0⟩::l)) (.int .i64 (c4 L I n).1) (h++(b0::b1::b2::⟨0,false,118,2,[.vec L.length (g8 L),.int .i64 (c4 L I n).2],0⟩::l)):=by have:=kZ (srcFamP (h:=h) (b0:=b0) (b1:=b1) (b2:=b2) (L:=L)) l I n hI hL hn hm;simp only[List.append_assoc,List.cons_append,List.nil_append]at this;exact this
theorem next_lt {I n:Int}(h:I<L.length)(hn:(c4 L I n).2=(c4 L I n).2):(c4 L I n).2=I+1:=by rw[c4,if_neg (by omega)]
theorem next_le {I n:Int}:I≤(c4 L I n).2:=by
  unfold c4;split
  · exact Int.le_refl _
  · show I≤I+1;omega
variable {n:Nat}
theorem MX {x:Cf}(h:WCf u c mx n x)(hp:0<x.st.length):∃(d i pc:Nat) (b:List (Int×Int)),x=⟨(d:Int),b++[((i:Int),(pc:Int))]⟩∧d≤gT (u.mutexes.getD mx s8)∧i<c.insts.length∧pc<(c5 u (c.insts.getD i c9)).length∧b.length+1≤n:=by obtain ⟨b,i,pc,he,hi,hpc,hl⟩:=h.snoc hp;have h0:=h.d0;have h1:=h.d1;have h2:=h.len;exact ⟨x.d.toNat,i,pc,b,by rw[Int.toNat_of_nonneg h0];exact he,by omega,hi,hpc,by omega⟩
theorem MY (hu:WU u)(wc:WC u c)(hmx:mx<u.mutexes.length)(hn:n≤500){x:Cf}(w:WCf u c mx n x):CB 83 [.agg [.vec u.globals.length (g8 u.globals),.vec u.mutexes.length (g6 u.mutexes),.vec u.procs.length (g9 u.procs),.int .i64 u.main],.agg [.vec c.insts.length (j5 c.insts),.vec c.calls.length (j9 c.calls),.vec c.roots.length (g8 c.roots)],.int .i64 ((mx:Nat):Int),.agg [.int .i64 x.d,.vec x.st.length (l4 x.st)]] h (.vec (hU u c mx x).length (aB (hU u c mx x))):=by
  by_cases hp:0<x.st.length
  · obtain ⟨d,i,pc,b,rfl,hd,hi,hpc,hb⟩:=MX w hp
    rw[oL,List.length_append];exact UE hu wc hmx hd (by omega) hi hpc
  · obtain ⟨d,st⟩:=x
    obtain rfl:st=[]:=List.length_eq_zero_iff.1 (by simp only at hp;omega);exact MW d
theorem MZ (wc:WC u c):c.roots.length≤64:=by
  have h:=A6 (fun _=>1) (l:=c.roots) (u:=(List.range c.insts.length).map fun i:Nat=>(i:Int)) (wc.rs.imp fun h e=>by omega) fun r hr=>by have:=wc.rr r hr;exact List.mem_map.2 ⟨r.toNat,List.mem_range.2 (by omega),by omega⟩
  have one:∀l:List Int,(l.map fun _=>1).sum=l.length:=fun l=>by induction l with
    | nil=>rfl
    | cons x l ih=>simp only[List.map_cons,List.sum_cons,List.length_cons,ih];omega
  rw[one,one,List.length_map,List.length_range]at h;have:=wc.len;omega
variable {b:List (Int×Int)}
theorem last_p1 {p:Int×Int}(hn:b.length=n):List.take 1 (List.drop (n*2) (l4 (b++[p])))=[.int .i64 p.1]:=by subst hn;rw[show List.take 1 (List.drop (b.length*2) (l4 (b++[p])))=[AV.int .i64 ((b++[p]).getD b.length (0,0)).1] from Q6 TM 2 0 (fun _=>rfl) (by omega) (0,0) (by simp)];simp[List.getD]
theorem last_p2 {p:Int×Int}(hn:b.length=n):List.take 1 (List.drop (n*2+1) (l4 (b++[p])))=[.int .i64 p.2]:=by subst hn;rw[show List.take 1 (List.drop (b.length*2+1) (l4 (b++[p])))=[AV.int .i64 ((b++[p]).getD b.length (0,0)).2] from Q6 TM 2 1 (fun _=>rfl) (by omega) (0,0) (by simp)];simp[List.getD]
theorem EI (x:Int)(h0:0<n):∃k:Nat,k<n∧within x n=(k:Int):=by have h1:=@mJ x n (by omega);have h2:=@pQ x n (by omega);exact ⟨(within x n).toNat,by omega,by omega⟩
attribute [local go_sem] rd s7 eO rR wS Sv Int.natCast_nonneg Int.natCast_inj Int.toNat_natCast_add_one eT wrap64 tN max2 VI l9 fM Option.bind_eq_bind PG fM
theorem c_left {l:c6}(I:Int):CB 74 [.ptr (h.length+3) 0 0] (h++(b0::b1::b2::⟨0,false,118,2,[.vec L.length (g8 L),.int .i64 I],0⟩::l)) (.bool (decide (I<(L.length:Int)))):=by refine .bz Tryz.f74 13 ?_;refine .z ?_;refine .ss u4 (mkP 11 [0,1,3,7,0,16,48,112,240,511,1023] []) ?_;refine c36z ?_;exact .ret (.ex (hq:=by rfl))
theorem NA (hu:WU u)(wc:WC u c)(hmx:mx<u.mutexes.length)(L:List Int)(hL:L.length<4611686018427387904):CallA Tryz.prog cfg 49 [.agg [.vec u.globals.length (g8 u.globals),.vec u.mutexes.length (g6 u.mutexes),.vec u.procs.length (g9 u.procs),.int .i64 u.main],.agg [.vec c.insts.length (j5 c.insts),.vec c.calls.length (j9 c.calls),.vec c.roots.length (g8 c.roots)],.int .i64 ((mx:Nat):Int),.vec L.length (g8 L)] h (fun y' h'=>(∃x:Cf,WCf u c mx 61 x∧rS u c mx x∧y'=.agg [.int .i64 x.d,.vec x.st.length (l4 x.st)])∧h'=h):=by
  refine .bz Tryz.f49 44 ?_;have hrl:=wc.rl;have hwl:=wc.len;have hml:=hu.ml;have hrc:c.roots.length≤64:=MZ wc;have h60:(L.take 60).length≤60:=by rw[List.length_take];omega
  refine c222z ?_;refine .ca rfl rfl (c_cut L 60 (by omega)) ?_;refine .n ?_;have hn0:=n4 (L:=(L.take 60)) (I:=0) (n:=(c.roots.length:Int)) ⟨Int.le_refl _,by omega⟩ (by omega);refine .sg u4 (mkH 12 [0,1,0,0,8,24,60,127,255,511,0,2047] [6,10,11] [(10,0)] [0,64,1024,1088,3136] [0,1,2,3,4,5,6,7,8,9]) 1 ?_;refine w4.aA t26 ?_;refine c30z ?_;refine .p 2 ?_;refine c136z ?_;refine .cm [true] [64,0] [_] rfl rfl (by simp only[jY,and_true,List.cons_append,List.nil_append];exact E9 (L:=L.take 60) 0 (c.roots.length:Int) ⟨Int.le_refl _,by omega⟩ (by omega) (by omega) (by omega)) ?_;refine .p 1 ?_;refine .rm [true,false] ?_;refine .cl rfl rfl (fun _=>c_begR _) ?_;refine .en [true,true] [1088,1024,64,0] [_,_] ?_;refine .en [true,false,false,false] [3136,1088,1024,64,0] [_] ?_;refine .po [false,true,false,true,false] ?_;refine w4.pop [false,false,true,false,true] (by kernel_rfl) (by simp only[qX,and_true,List.cons_append,List.nil_append];exact ⟨cH.r8 rfl rfl rfl rfl tE (E9 (L:=L.take 60) 0 (c.roots.length:Int) ⟨Int.le_refl _,by omega⟩ (by omega) (by omega) (by omega)) rfl,cH.r8 rfl rfl rfl rfl tE (E9 (L:=L.take 60) 0 (c.roots.length:Int) ⟨Int.le_refl _,by omega⟩ (by omega) (by omega) (by omega)) rfl⟩) ?_;refine .po [false,false,true,false,true] ?_;refine c147z ?_;refine .sb ?_;refine .s4 (fun m st=>∃(I:Int) (x:Cf),(m=(60-I).toNat∧(OkI (L.take 60) I∧WCf u c mx (I.toNat+1) x∧rS u c mx x))∧st=⟨mkS 44 [(2,AV.int .i64 ((mx:Nat):Int)),(4,AV.ptr h.length 0 0),(5,AV.ptr (h.length+1) 0 0),(8,AV.ptr (h.length+2) 0 0),(9,AV.ptr (h.length+3) 0 0),(10,AV.ptr (h.length+4) 1 0)],h++[⟨0,false,30,4,[.vec u.globals.length (g8 u.globals),.vec u.mutexes.length (g6 u.mutexes),.vec u.procs.length (g9 u.procs),.int .i64 u.main],0⟩,⟨0,false,34,3,[.vec c.insts.length (j5 c.insts),.vec c.calls.length (j9 c.calls),.vec c.roots.length (g8 c.roots)],0⟩,⟨0,false,87,2,[.int .i64 0,.nils],0⟩,⟨0,false,118,2,[.vec (L.take 60).length (g8 (L.take 60)),.int .i64 I],0⟩,⟨1,false,87,2,[.int .i64 x.d,.vec x.st.length (l4 x.st)],0⟩]⟩) (.v ⟨(c4 (L.take 60) 0 (c.roots.length:Int)).2,⟨0,[(c.roots.getD (c4 (L.take 60) 0 (c.roots.length:Int)).1.toNat 0,0)]⟩,⟨rfl,⟨hn0.2.2,(TO hu wc (j4 (by omega))).mono (by omega),rS.begin wc (j4 (by omega))⟩⟩,rfl⟩) ?_;rintro m sl h' ⟨I,x,⟨hm,⟨hI,hw,hg⟩⟩,hst⟩;obtain ⟨rfl,rfl⟩:=St.mk.inj hst;clear hst;have hI0:=hI.1;have hI1:=hI.2;have hsl:=DY (u:=u) (c:=c) (m:=mx) (x:=x);refine .seq ?_;refine c68z ?_;refine .ca rfl rfl (c_left I) ?_;refine .nil ?_;refine u2z ?_ ?_
  ·intro e1 qe1;refine c123z ?_;refine c26z ?_;refine .ca rfl rfl (MY hu wc hmx (n:=I.toNat+1) (by omega) hw) ?_;refine .n ?_;refine c0z ?_;refine u2z ?_ ?_
   ·intro e2 qe2;refine c6z ?_;refine .c7 [8,10] ?_;refine .z ?_;exact .ret (.ex (hq:=by (exact ⟨x,hw.mono (by omega),hg,rfl⟩)))
   intro e2 qe2;refine .sk ?_;refine .c7 [2,4,5,8,9,10,11] ?_;have hn1:=n4 (L:=(L.take 60)) (n:=((hU u c mx x).length:Int)) hI (by omega);have hn2:(c4 (L.take 60) I ((hU u c mx x).length:Int)).2=I+1:=next_lt (by omega) rfl;refine c153z ?_;refine .ch rfl rfl (E9 (L:=L.take 60) I ((hU u c mx x).length:Int) hI (by omega) (by omega) (by omega)) ?_;refine .n ?_;exact ⟨_,by omega,.v ⟨(c4 (L.take 60) I ((hU u c mx x).length:Int)).2,((hU u c mx x).getD (c4 (L.take 60) I ((hU u c mx x).length:Int)).1.toNat Dr),⟨rfl,⟨hn1.2.2,(LB hu wc hw _ (j4 (by omega))).mono (by rw[hn2];omega),hg.steps hu wc hw _ (j4 (by omega))⟩⟩,rfl⟩ (hk:=by exact (u6.refl _).app rfl ⟨.inl rfl,.inl rfl,.inl rfl,.inr (fF.get ⟨.vec _ _,.int _ _,trivial⟩),.inr (fF.get ⟨.int _ _,.vec _ _,trivial⟩),trivial⟩)⟩
  intro e1 qe1;refine c6z ?_;refine .z ?_;exact .ret (.ex (hq:=by (exact ⟨x,hw.mono (by omega),hg,rfl⟩)))
theorem VH (hu:WU u)(m:Int):CB 48 [.agg [.vec u.globals.length (g8 u.globals),.vec u.mutexes.length (g6 u.mutexes),.vec u.procs.length (g9 u.procs),.int .i64 u.main],.int .i64 m] h (.int .i64 (within m u.mutexes.length)):=by refine .bz Tryz.f48 10 ?_;have hml:=hu.ml;refine .z ?_;refine c26z ?_;refine .ca rfl rfl (nD _ _ (by omega) (by omega)) ?_;refine .n ?_;exact .ret (.ex (hq:=by rfl))
attribute [local go_sem] rd bR u5 z4 s6 o4 l9 bX v9 Int.natCast_nonneg Int.natCast_inj bV gD fA gE fM oN D2 wV jT wW T8 lL sD sE oO List.length_set List.length_replicate Int.toNat_natCast_add_one eT wrap64 M6 List.length_map kJ jD qK uA uB D7 mS jE E4 E5 MQ wZ mT eE dY qN E6 E7 U2 orN wD T7 last_p1 last_p2 s7 Nat.add_sub_cancel beq_self_eq_true kK aQ
theorem YA (hu:WU u)(wc:WC u c)(hmx:mx<u.mutexes.length){i pc:Nat}(hi:i<c.insts.length)(hpc:pc<u7 u c i)(hb:b.length<1000)(dd:Int):CB 50 [.agg [.vec u.globals.length (g8 u.globals),.vec u.mutexes.length (g6 u.mutexes),.vec u.procs.length (g9 u.procs),.int .i64 u.main],.agg [.vec c.insts.length (j5 c.insts),.vec c.calls.length (j9 c.calls),.vec c.roots.length (g8 c.roots)],.int .i64 ((mx:Nat):Int),.agg [.int .i64 dd,.vec (b.length+1) (l4 (b++[((i:Int),(pc:Int))]))]] h (.bool (Fz ((lZ u c mx i).getD pc 0) dd)):=by refine .bz Tryz.f50 37 ?_;have hwl:=wc.len;have hml:=hu.ml;have hbl:(jR u c mx).length=c.insts.length:=dY;have hbi:(lZ u c mx i).length=u7 u c i:=aQ;have hk8:kM u mx≤8:=gR;have hs5:((lZ u c mx i).getD pc 0)<512:=Nat.lt_of_lt_of_le (rQ hpc) (sF hk8).2;refine c66z ?_;refine uFbz ?_;intro e1 qe1;refine .sk ?_;refine .c7 [2,4,5,7] ?_;refine c124z ?_;refine .c7 [2,4,5,7,9] ?_;refine .ss u4 (mkP 16 [0,0,0,7,0,16,63,127,0,256,1023,2047,0,4096,16383,32767] []) ?_;refine .k 3 [] ?_;refine .ca rfl rfl (Fa hu wc hmx) ?_;refine .k 8 [] ?_;refine .k 2 [] ?_;refine .ca rfl rfl (c_has8 _ _ hs5) ?_;refine .n [] ?_;exact .ret (.ex (hq:=by rfl))
theorem c_cov0 (dd:Int):CB 50 [.agg [.vec u.globals.length (g8 u.globals),.vec u.mutexes.length (g6 u.mutexes),.vec u.procs.length (g9 u.procs),.int .i64 u.main],.agg [.vec c.insts.length (j5 c.insts),.vec c.calls.length (j9 c.calls),.vec c.roots.length (g8 c.roots)],.int .i64 ((mx:Nat):Int),.agg [.int .i64 dd,.vec 0 []]] h (.bool true):=by refine .bz Tryz.f50 37 ?_;refine c66z ?_;refine .T ?_;refine c29z ?_;exact .ret (.ex (hq:=by rfl))
theorem c_covT (hu:WU u)(wc:WC u c)(hmx:mx<u.mutexes.length){d i pc:Nat}(hg:rS u c mx ⟨(d:Int),b++[((i:Int),(pc:Int))]⟩)(hd:d≤8)(hi:i<c.insts.length)(hpc:pc<u7 u c i)(hb:b.length<1000):CB 50 [.agg [.vec u.globals.length (g8 u.globals),.vec u.mutexes.length (g6 u.mutexes),.vec u.procs.length (g9 u.procs),.int .i64 u.main],.agg [.vec c.insts.length (j5 c.insts),.vec c.calls.length (j9 c.calls),.vec c.roots.length (g8 c.roots)],.int .i64 ((mx:Nat):Int),.agg [.int .i64  ((d:Nat):Int),.vec (b.length+1) (l4 (b++[((i:Int),(pc:Int))]))]] h (.bool true):=by have:=YA (h:=h) hu wc hmx hi hpc hb (d:Int);rw[hasN hd,hg.bit hu wc]at this;exact this
theorem c_lawCovered (L:List Int)(hL:L.length<4611686018427387904)(m:Int)(way:List Int)(hway:way.length<4611686018427387904)(d1:Int):CB 14 [.vec L.length (g8 L),.int .i64 m,.vec way.length (g8 way),.int .i64 d1] [] (.bool true):=by
  refine .bz Tryz.f14 78 ?_;refine c222z ?_;refine o2.cx rfl rfl hb15 (c_unit L hL) (fun y1 h1 hq1=>?_);obtain ⟨⟨p,u,c,gp,hu,wc,rfl⟩,rfl⟩:=hq1;have hml:=hu.ml;have hwl:=wc.len;simp only[PF];refine .e 8 ?_;refine .n ?_;refine .c7 [1,2,3,10,11] ?_;refine c34z ?_;refine .ca rfl rfl (VH hu m) ?_;refine .n ?_;obtain ⟨mx,hmx,hme⟩:=EI m (n:=u.mutexes.length) (by omega);simp only[hme];have hk8:kM u mx≤8:=gR;have hbl:(jR u c mx).length=c.insts.length:=dY;refine c26z ?_;refine o2.cx rfl rfl hb49 (NA hu wc hmx way hway) (fun y1 h1 hq1=>?_);obtain ⟨⟨x,hw,hg,rfl⟩,rfl⟩:=hq1;refine c33z ?_;refine .c7 [1,3,10,11,12] ?_;by_cases hp:0<x.st.length
  ·obtain ⟨d,i,pc,b,rfl,hd,hi,hpc,hb⟩:=MX hw (by omega);have hd8:d≤8:=Nat.le_trans hd jP;have hpc2:pc<u7 u c i:=hpc;have hbi:(lZ u c mx i).length=u7 u c i:=aQ;have hs5:((lZ u c mx i).getD pc 0)<512:=Nat.lt_of_lt_of_le (rQ hpc2) (sF hk8).2;simp only[List.length_append,List.length_cons,List.length_nil,Nat.zero_add];refine c26z ?_;refine .ca rfl rfl (c_covT hu wc hmx hg hd8 hi hpc2 (by omega)) ?_;refine .n ?_;refine c20z ?_;refine c10z ?_;refine .c7 [1,3,10,11,12,13] ?_;refine c176z ?_;intro e1 qe1;refine .sk ?_;refine c68z ?_;refine .ca rfl rfl (nD d1 10 (by omega) (by omega)) ?_;refine .n ?_;refine .ss u4 (mkP 21 [0,0,0,7,0,16,0,112,240,496,1023,2047,0,4096,0,28672,61440,126976,262143,524287,1048575] []) ?_;refine .k 3 [] ?_;refine .ca rfl rfl (c_befR hu wc hmx) ?_;refine .k 8 [] ?_;refine c36z ?_;refine .c7 [1,10,11,12,14] ?_;refine .ss u4 (mkP 14 [0,0,0,0,15,0,0,64,255,511,1023,2047,4095,8191] []) ?_;refine .k 4 [] ?_;refine .ca rfl rfl (YA hu wc hmx hi hpc2 (by omega) _) ?_;refine .k 3 [] ?_;refine .ca rfl rfl (c_in8 _ _ hs5) ?_;refine .k 2 [] ?_;refine .ca rfl rfl (MV _) ?_;refine .n [] ?_;exact .ret (.ex (hq:=by rfl))
  ·obtain ⟨d,st⟩:=x;obtain rfl:st=[]:=List.length_eq_zero_iff.1 (by simp only at hp;omega);refine c26z ?_;refine .ca rfl rfl (c_cov0 _) ?_;refine .n ?_;refine c20z ?_;refine c10z ?_;refine .c7 [1,3,10,11,12,13] ?_;refine c98z ?_;refine .c7 [] ?_;refine .s ?_;refine .ca rfl rfl (MV _) ?_;refine .n ?_;exact .ret (.ex (hq:=by rfl))
end Go.Proofs.YtonbocmibeikmaaGreat
end
section
namespace Go.Ab
open Go.RowKit
def EJ (w:World):List Value→List AV→Prop
 | [],[]=>True
 | v::vs,x::xs=>lN w (fun k _=>k<w.heap.size) v x∧EJ w vs xs
 | _,_=>False
theorem EJ.get {w:World}:∀{vs:List Value} {xs:List AV},EJ w vs xs→vs.length=xs.length∧∀(j:Nat) v x,vs[j]?=some v→xs[j]?=some x→lN w (fun k _=>k<w.heap.size) v x
 | [],[],_=>⟨rfl,fun j v x h=>by simp at h⟩
 | v::vs,x::xs,h=>by
  obtain ⟨h1,h2⟩:=h;obtain ⟨k1,k2⟩:=EJ.get h2;refine ⟨by simp[k1],fun j u y hu hy=>?_⟩
  match j with
  | 0=>simp at hu hy;subst hu hy;exact h1
  | j+1=>exact k2 j u y t134 (by simpa using hy)
 | [],_::_,h=>h.elim
 | _::_,[],h=>h.elim
theorem CallA.law {P:Program}{C:Cfg}{f:FuncId}{args:List AV}(hG:C.glob=fun _=>.any)(r:CallA P C f args [] (fun x h'=>x=.bool true∧h'=[]))(w:World)(cargs:Array Value)(hr:EJ w cargs.toList args) :
  Calls P f cargs w fun e w'=>e=.returned (.bool true)∧Below w.heap.size w w':=by
 obtain ⟨k1,k2⟩:=EJ.get hr;exact CallA.top hG (r.mono fun _ _ h=>h.1) w cargs (by simpa using k1) fun j v x h1 h2=>k2 j v x t123 h2
theorem prel_ints {w:World}{a:Option Addr}{len cap:Nat}{zs:List Int}
  (h:(a=none∧len=0∧cap=0∧zs=[])∨∃x,a=some x∧len≤cap∧cap≤maxLen∧zs.length=cap∧(∀i,i<zs.length→w.cell? (x.add i)=some (.int .i64 (zs.getD i 0)))∧∀n∈zs,(Lit.int .i64 n).wf=true) :
  lN w (fun k _=>k<w.heap.size) (.slice a len cap) (Gm (zs.take len))∧(zs.take len).length=len∧len≤maxLen∧∀n∈zs.take len,-9223372036854775808≤n∧n<9223372036854775808:=by
 rcases h with ⟨rfl,rfl,rfl,rfl⟩ | ⟨x,rfl,h1,h2,h3,h4,h5⟩
 ·exact ⟨OD _ _,rfl,by omega,by simp⟩
 ·refine ⟨OE h1 h3 h4,t55,by omega,fun n hn=>?_⟩;have:=h5 n (List.mem_of_mem_take hn);simp only[Lit.wf,Bool.and_eq_true,decide_eq_true_eq]at this;have e1:IntKind.min .i64 = -9223372036854775808:=rfl;have e2:IntKind.max .i64=9223372036854775807:=rfl;rw[e1,e2]at this;omega
end Go.Ab
end
