/- My own texts, put together by a program of mine. -/
import Derived.Test.YtonbocmibeikmaaGreatIX6
set_option linter.unusedSimpArgs false
set_option linter.unusedVariables false
set_option maxRecDepth 100000
set_option maxHeartbeats 4000000
section
namespace Go.Proofs.YtonbocmibeikmaaGreat
open Go.Ab Go.Un
variable {h:c6}
theorem G2 (u:Un)(mx:Nat):CB 43 [.agg [.str (u.c4.getD mx aA).name,.bool (u.c4.getD mx aA).re,.int .i64 (u.c4.getD mx aA).size]] h (.int .i64 ((kM u mx:Nat):Int)):=XY _
theorem CE (k:Nat)(hk:k≤8):CB 79 [.int .i64 ((k:Nat):Int),.int .i64 0] h (bH (dhN k 0)):=
  (LF k 0 hk (by omega) (by omega)).mono fun y k hq=>⟨hq.1.trans (O9 _ _),hq.2⟩
variable {u:Un}{c:Clo}{mx i:Nat}
theorem G3 (hu:WU u)(wc:WC u c)(hmx:mx<u.c4.length)(hi:i<c.insts.length){pc:Nat}(hp:pc<r9 u c i):CB 80 [.agg [.vec u.globals.length (g8 u.globals),.vec u.c4.length (g6 u.c4),.vec u.procs.length (l4 u.procs),.int .i64 u.main],.agg [.int .i64 (itI c i).proc,.vec (itI c i).j5.length (g8 (itI c i).j5)],.int .i64 ((pc:Nat):Int),.int .i64 ((mx:Nat):Int)] h (bH (dhN (kM u mx) (chI (itI c i) (eV u c i pc) mx))):=
  (c_relR hu (gE wc hi) hp hmx).mono fun y k hq=>⟨hq.1.trans (O9 _ _),hq.2⟩
theorem rK (hu:WU u){it:aO}(w:WIt u it){pc:Nat}(hpc:pc<(c8 u it).length):CB 26 [.agg [.vec u.globals.length (g8 u.globals),.vec u.c4.length (g6 u.c4),.vec u.procs.length (l4 u.procs),.int .i64 u.main],.agg [.int .i64 it.proc,.vec it.j5.length (g8 it.j5)],.int .i64 ((pc:Nat):Int)] h (.vec (o3 ((c8 u it).getD pc g0) pc).length (g8 (o3 ((c8 u it).getD pc g0) pc))):=c_nextR hu w hpc
attribute [local go_sem] rd bH r7 u6 p7 n6 l8 z6 o5 Int.natCast_nonneg Int.natCast_inj aD cW cJ cX gD fV nX kC aZ kD pR dL jE jF fW List.length_set List.length_replicate Int.toNat_natCast_add_one eG wrap64 List.length_map cL cY
theorem P2 (hu:WU u)(wc:WC u c)(hmx:mx<u.c4.length){S:List (List Nat)}(hS:Tb (kM u mx) c.insts.length S)(hi:i<c.insts.length):CB 57 [.agg [.vec u.globals.length (g8 u.globals),.vec u.c4.length (g6 u.c4),.vec u.procs.length (l4 u.procs),.int .i64 u.main],.agg [.vec c.insts.length (l7 c.insts),.vec c.calls.length (n4 c.calls),.vec c.roots.length (g8 c.roots)],.int .i64 ((mx:Nat):Int),.vec c.insts.length (aL S),.int .i64 ((i:Nat):Int)] h (.vec (r9 u c i) (aL (bV u c mx S i))):=by
  refine .bz Tryz.f57 136 ?_;have w:=gE wc hi;have w1:=w.lo;have w2:=w.hi;have hsz:(c8 u (itI c i)).length≤1664:=q9 hu w;have hwl:=wc.len;have hk8:kM u mx≤8:=dV;have hk9:nD (u.c4.getD mx aA)≤8:=hk8;have hml:=hu.ml;have p:Pro (kM u mx) (c8 u (itI c i)).length (nxI u c i) (stS u c mx S i):=OV hu wc hS hi;have hps:=p.pos;have hcl:=wc.cl;have hcll:(c.calls.getD i []).length=(c8 u (itI c i)).length:=wc.cll i hi;have hSl:=hS.1;have hcall:∀pc,pc<(c8 u (itI c i)).length→(eV u c i pc).op=2→0≤(c.calls.getD i []).getD pc 0∧(c.calls.getD i []).getD pc 0<c.insts.length:=fun pc hp ho=>by have:=(wc.call i hi pc hp).1 (.inl ho);exact ⟨this.1,this.2.1⟩
  refine c75z ?_;refine .c7 [2,3,4,5,6,11] ?_;refine c168z ?_;refine .n ?_;refine c244z ?_;refine .c7 [2,3,4,5,6,11,12,13] ?_;refine c15z ?_;refine .aN (fun m st=>∃(j:Nat),(m=(c8 u (itI c i)).length-j∧(j≤(c8 u (itI c i)).length))∧st=⟨mkS 136 [(2,AV.int .i64 ((mx:Nat):Int)),(3,AV.vec c.insts.length (aL S)),(4,AV.int .i64 ((i:Nat):Int)),(5,AV.ptr h.length 0 0),(6,AV.ptr (h.length+1) 0 0),(11,AV.ptr (h.length+2) 0 0),(12,AV.int .i64 (((kM u mx):Nat):Int)),(13,AV.own (h.length+3) 0 0 (c8 u (itI c i)).length),(14,AV.int .i64 ((j:Nat):Int))],h++[⟨0,false,30,4,[.vec u.globals.length (g8 u.globals),.vec u.c4.length (g6 u.c4),.vec u.procs.length (l4 u.procs),.int .i64 u.main],0⟩,⟨0,false,34,3,[.vec c.insts.length (l7 c.insts),.vec c.calls.length (n4 c.calls),.vec c.roots.length (g8 c.roots)],0⟩,⟨0,false,46,2,[.int .i64 (itI c i).proc,.vec (itI c i).j5.length (g8 (itI c i).j5)],0⟩,⟨0,false,22,1,P1 (c8 u (itI c i)).length j (List.replicate (kM u mx+1) 0),0⟩]⟩) (.v ⟨0,⟨rfl,by omega⟩,rfl⟩) ?_ (he:=by (rw[MD]));rintro m sl h' ⟨j,⟨hm,hj⟩,hst⟩;obtain ⟨rfl,rfl⟩:=St.mk.inj hst;clear hst;refine c1z ?_;refine u2z ?_ ?_
  ·intro e1 qe1;refine c3z ?_;refine c2z ?_;refine .c7 [2,3,4,5,6,11,12,13,14] ?_;refine c9.seenF (β:=h.length+3) (γ:=h.length+4) (A:=aL (List.replicate j (List.replicate (kM u mx+1) 0))) (R:=List.replicate ((c8 u (itI c i)).length-(j+1)) AV.j4) (zs:=(List.replicate (kM u mx+1) 0)) (len:=kM u mx+1) t36 t36 (by simp) (by omega) ?_;simp only[List.append_assoc,List.cons_append,List.nil_append,v9,s3,List.set_cons_succ,List.set_cons_zero,List.length_append,List.length_cons,List.length_nil,Nat.reduceAdd,Nat.zero_add];refine .rz ?_;exact ⟨_,by omega,.v ⟨(j+1),⟨rfl,by omega⟩,rfl⟩ (he:=by (rw[←FE];simp only[List.append_assoc,List.cons_append,List.nil_append];rfl)) (hk:=by exact (aI.refl _).app rfl ⟨.inl rfl,.inl rfl,.inl rfl,.inr (MH _),trivial⟩)⟩
  intro e1 qe1;refine .exit ?_;obtain rfl:j=(c8 u (itI c i)).length:=by omega
  simp only[UU];change c9 ..;refine c17z ?_;refine .ca rfl rfl (CE _ hk8) ?_;refine c27z ?_;refine .c7 [2,3,4,5,6,11,13] ?_;refine c15z ?_;refine .aN (fun m st=>∃(T:List (List Nat)) (ag:Bool),(m=Sy (c8 u (itI c i)).length T ag∧(Gro (kM u mx) (c8 u (itI c i)).length (nxI u c i) (stS u c mx S i) T∧(ag=false→T=hY (kM u mx) (c8 u (itI c i)).length (nxI u c i) (stS u c mx S i))))∧st=⟨mkS 136 [(2,AV.int .i64 ((mx:Nat):Int)),(3,AV.vec c.insts.length (aL S)),(4,AV.int .i64 ((i:Nat):Int)),(5,AV.ptr h.length 0 0),(6,AV.ptr (h.length+1) 0 0),(11,AV.ptr (h.length+2) 0 0),(13,AV.own (h.length+3) 0 0 (c8 u (itI c i)).length),(15,AV.bool ag)],h++[⟨0,false,30,4,[.vec u.globals.length (g8 u.globals),.vec u.c4.length (g6 u.c4),.vec u.procs.length (l4 u.procs),.int .i64 u.main],0⟩,⟨0,false,34,3,[.vec c.insts.length (l7 c.insts),.vec c.calls.length (n4 c.calls),.vec c.roots.length (g8 c.roots)],0⟩,⟨0,false,46,2,[.int .i64 (itI c i).proc,.vec (itI c i).j5.length (g8 (itI c i).j5)],0⟩,⟨0,false,22,1,aL T,0⟩]⟩) (.v ⟨((List.replicate (c8 u (itI c i)).length (List.replicate (kM u mx+1) 0)).set 0 (dhN (kM u mx) 0)),true,⟨rfl,⟨Gro.start p,fun hf=>by cases hf⟩⟩,rfl⟩) ?_;rintro m sl h' ⟨T,ag,⟨hm,⟨hG,hdone⟩⟩,hst⟩;obtain ⟨rfl,rfl⟩:=St.mk.inj hst;clear hst;refine c1z ?_;refine u2z ?_ ?_
  ·intro e2 qe2;refine c178z ?_;have hag:ag=true:=by assumption
   subst hag;refine .z ?_;refine c15z ?_;refine .aN (fun m st=>∃(T1:List (List Nat)) (a1:Bool) (pc:Nat),(m=(c8 u (itI c i)).length-pc∧(FM (kM u mx) (c8 u (itI c i)).length (nxI u c i) (stS u c mx S i) T T1 a1 pc∧pc≤(c8 u (itI c i)).length))∧st=⟨mkS 136 [(2,AV.int .i64 ((mx:Nat):Int)),(3,AV.vec c.insts.length (aL S)),(4,AV.int .i64 ((i:Nat):Int)),(5,AV.ptr h.length 0 0),(6,AV.ptr (h.length+1) 0 0),(11,AV.ptr (h.length+2) 0 0),(13,AV.own (h.length+3) 0 0 (c8 u (itI c i)).length),(15,AV.bool a1),(16,AV.int .i64 ((pc:Nat):Int))],h++[⟨0,false,30,4,[.vec u.globals.length (g8 u.globals),.vec u.c4.length (g6 u.c4),.vec u.procs.length (l4 u.procs),.int .i64 u.main],0⟩,⟨0,false,34,3,[.vec c.insts.length (l7 c.insts),.vec c.calls.length (n4 c.calls),.vec c.roots.length (g8 c.roots)],0⟩,⟨0,false,46,2,[.int .i64 (itI c i).proc,.vec (itI c i).j5.length (g8 (itI c i).j5)],0⟩,⟨0,false,22,1,aL T1,0⟩]⟩) (.v ⟨T,false,0,⟨rfl,⟨FM.start hG,by omega⟩⟩,rfl⟩) ?_;rintro m sl h' ⟨T1,a1,pc,⟨hm,⟨hP,hpl⟩⟩,hst⟩;obtain ⟨rfl,rfl⟩:=St.mk.inj hst;clear hst;have hT1:T1.length=(c8 u (itI c i)).length:=hP.g.tb.1;refine c1z ?_;refine u2z ?_ ?_
   ·intro e3 qe3;refine c3z ?_;have hpc:pc<(c8 u (itI c i)).length:=by omega
    have hop:eV u c i pc=(c8 u (itI c i)).getD pc g0:=rfl;refine c30z ?_;refine .ca rfl rfl (G3 hu wc hmx hi (show pc<r9 u c i by show pc<(c8 u (itI c i)).length;omega)) ?_;refine c27z ?_;refine .c7 [2,3,4,5,6,11,13,15,16,17] ?_;refine c134z ?_;refine u2z ?_ ?_
    ·intro e4 qe4;refine .c7 [2,3,4,5,6,11,13,15,16] ?_;obtain ⟨hc1,hc2⟩:=hcall pc hpc (by rw[hop];omega);refine c115z ?_;refine .c7 [2,3,4,5,6,11,13,15,16,17] ?_;have hst2:S.getD ((c.calls.getD i []).getD pc 0).toNat []=stS u c mx S i pc:=by unfold stS;rw[if_pos (show (eV u c i pc).op=2 from by rw[hop];omega)];first | done | rfl
     rw[hst2];have hst1:=p.st pc hpc;have hTp:=hP.g.tb.get hpc;obtain ⟨hR,hle⟩:=hP.g.aft p hpc;have hnl:=kB (x:=(c8 u (itI c i)).getD pc g0) (pc:=pc);refine .ss z8 (mkP 12 [0,0,3,7,0,31,0,0,0,511,1023,2047] []) ?_;refine .k 5 [] ?_;refine .ca rfl rfl (W8 _ _ (hst1.lt hk8) t142 (hTp.lt hk8) t110) ?_;refine .k 3 [] ?_;refine .ca rfl rfl (rK hu w hpc) ?_;refine .n [] ?_;refine c149z ?_;refine .aN (fun m st=>∃(T2:List (List Nat)) (a2:Bool) (j:Nat),(m=(o3 ((c8 u (itI c i)).getD pc g0) pc).length-j∧(FD (kM u mx) (c8 u (itI c i)).length (nxI u c i) (stS u c mx S i) T T2 a2 pc (T1.getD pc []) j∧j≤(o3 ((c8 u (itI c i)).getD pc g0) pc).length))∧st=⟨mkS 136 [(2,AV.int .i64 ((mx:Nat):Int)),(3,AV.vec c.insts.length (aL S)),(4,AV.int .i64 ((i:Nat):Int)),(5,AV.ptr h.length 0 0),(6,AV.ptr (h.length+1) 0 0),(11,AV.ptr (h.length+2) 0 0),(13,AV.own (h.length+3) 0 0 (c8 u (itI c i)).length),(15,AV.bool a2),(16,AV.int .i64 ((pc:Nat):Int)),(18,bH (n5 (T1.getD pc []) (stS u c mx S i pc))),(19,AV.vec (o3 ((c8 u (itI c i)).getD pc g0) pc).length (g8 (o3 ((c8 u (itI c i)).getD pc g0) pc))),(20,AV.int .i64 ((j:Nat):Int))],h++[⟨0,false,30,4,[.vec u.globals.length (g8 u.globals),.vec u.c4.length (g6 u.c4),.vec u.procs.length (l4 u.procs),.int .i64 u.main],0⟩,⟨0,false,34,3,[.vec c.insts.length (l7 c.insts),.vec c.calls.length (n4 c.calls),.vec c.roots.length (g8 c.roots)],0⟩,⟨0,false,46,2,[.int .i64 (itI c i).proc,.vec (itI c i).j5.length (g8 (itI c i).j5)],0⟩,⟨0,false,22,1,aL T2,0⟩]⟩) (.v ⟨T1,a1,0,⟨rfl,⟨hP.go,by omega⟩⟩,rfl⟩) ?_;rintro m sl h' ⟨T2,a2,j,⟨hm,⟨hQ,hj⟩⟩,hst⟩;obtain ⟨rfl,rfl⟩:=St.mk.inj hst;clear hst;have hT2:T2.length=(c8 u (itI c i)).length:=hQ.g.tb.1;refine c1z ?_;refine u2z ?_ ?_
     ·intro e5 qe5;refine c3z ?_;obtain ⟨hq1,hq2⟩:=p.nx pc hpc _ (j0 (d:=0) (show j<(nxI u c i pc).length from by show j<(o3 ((c8 u (itI c i)).getD pc g0) pc).length;omega));rw[show nxI u c i pc=(o3 ((c8 u (itI c i)).getD pc g0) pc) from rfl]at hq1 hq2;have hjn:j<(nxI u c i pc).length:=by show j<(o3 ((c8 u (itI c i)).getD pc g0) pc).length;omega
      have hq3:((o3 ((c8 u (itI c i)).getD pc g0) pc).getD j 0).toNat<(c8 u (itI c i)).length:=by omega
      have hRq:=hQ.g.tb.get hq3;refine c39z ?_;refine .ca rfl rfl (vB _ _ (hR.lt hk8) (hRq.lt hk8) t226 (by have:=hR.1;have:=hRq.1;omega)) ?_;refine .n ?_;refine c138z ?_;refine .ca rfl rfl (G1 _ _ t178) ?_;refine .n ?_;refine u2z ?_ ?_
      ·intro e6 qe6;refine c142z ?_;refine c44z ?_;exact ⟨_,by omega,.v ⟨(T2.set ((o3 ((c8 u (itI c i)).getD pc g0) pc).getD j 0).toNat (bG (T2.getD ((o3 ((c8 u (itI c i)).getD pc g0) pc).getD j 0).toNat []) (n5 (T1.getD pc []) (stS u c mx S i pc)))),true,(j+1),⟨rfl,⟨hQ.grow p hpc hR hle hjn rfl (fun hs=>absurd ((cK hRq hR).2 hs) (by assumption)),by omega⟩⟩,rfl⟩ (he:=t17) (hk:=t58)⟩
      intro e6 qe6;refine c5z ?_;refine c44z ?_;exact ⟨_,by omega,.v ⟨T2,a2,(j+1),⟨rfl,⟨hQ.skip ((cK hRq hR).1 (by assumption)),by omega⟩⟩,rfl⟩ (he:=t17) (hk:=t58)⟩
     intro e5 qe5;refine .exit ?_;obtain rfl:j=(o3 ((c8 u (itI c i)).getD pc g0) pc).length:=by omega
     refine c195z ?_;exact ⟨_,by omega,.v ⟨T2,a2,(pc+1),⟨rfl,⟨hQ.fin,by omega⟩⟩,rfl⟩ (he:=t17) (hk:=t58)⟩
    intro e4 qe4;refine .sk ?_;refine .c7 [2,3,4,5,6,11,13,15,16,17] ?_;have hst2:dhN (kM u mx) (chI (itI c i) (eV u c i pc) mx)=stS u c mx S i pc:=by unfold stS;rw[if_neg (show ¬(eV u c i pc).op=2 from by rw[hop];omega)];first | done | rfl
    rw[hst2];have hst1:=p.st pc hpc;have hTp:=hP.g.tb.get hpc;obtain ⟨hR,hle⟩:=hP.g.aft p hpc;have hnl:=kB (x:=(c8 u (itI c i)).getD pc g0) (pc:=pc);refine .ss z8 (mkP 12 [0,0,3,7,0,31,0,0,0,511,1023,2047] []) ?_;refine .k 5 [] ?_;refine .ca rfl rfl (W8 _ _ (hst1.lt hk8) t142 (hTp.lt hk8) t110) ?_;refine .k 3 [] ?_;refine .ca rfl rfl (rK hu w hpc) ?_;refine .n [] ?_;refine c149z ?_;refine .aN (fun m st=>∃(T2:List (List Nat)) (a2:Bool) (j:Nat),(m=(o3 ((c8 u (itI c i)).getD pc g0) pc).length-j∧(FD (kM u mx) (c8 u (itI c i)).length (nxI u c i) (stS u c mx S i) T T2 a2 pc (T1.getD pc []) j∧j≤(o3 ((c8 u (itI c i)).getD pc g0) pc).length))∧st=⟨mkS 136 [(2,AV.int .i64 ((mx:Nat):Int)),(3,AV.vec c.insts.length (aL S)),(4,AV.int .i64 ((i:Nat):Int)),(5,AV.ptr h.length 0 0),(6,AV.ptr (h.length+1) 0 0),(11,AV.ptr (h.length+2) 0 0),(13,AV.own (h.length+3) 0 0 (c8 u (itI c i)).length),(15,AV.bool a2),(16,AV.int .i64 ((pc:Nat):Int)),(18,bH (n5 (T1.getD pc []) (stS u c mx S i pc))),(19,AV.vec (o3 ((c8 u (itI c i)).getD pc g0) pc).length (g8 (o3 ((c8 u (itI c i)).getD pc g0) pc))),(20,AV.int .i64 ((j:Nat):Int))],h++[⟨0,false,30,4,[.vec u.globals.length (g8 u.globals),.vec u.c4.length (g6 u.c4),.vec u.procs.length (l4 u.procs),.int .i64 u.main],0⟩,⟨0,false,34,3,[.vec c.insts.length (l7 c.insts),.vec c.calls.length (n4 c.calls),.vec c.roots.length (g8 c.roots)],0⟩,⟨0,false,46,2,[.int .i64 (itI c i).proc,.vec (itI c i).j5.length (g8 (itI c i).j5)],0⟩,⟨0,false,22,1,aL T2,0⟩]⟩) (.v ⟨T1,a1,0,⟨rfl,⟨hP.go,by omega⟩⟩,rfl⟩) ?_;rintro m sl h' ⟨T2,a2,j,⟨hm,⟨hQ,hj⟩⟩,hst⟩;obtain ⟨rfl,rfl⟩:=St.mk.inj hst;clear hst;have hT2:T2.length=(c8 u (itI c i)).length:=hQ.g.tb.1;refine c1z ?_;refine u2z ?_ ?_
    ·intro e7 qe7;refine c3z ?_;obtain ⟨hq1,hq2⟩:=p.nx pc hpc _ (j0 (d:=0) (show j<(nxI u c i pc).length from by show j<(o3 ((c8 u (itI c i)).getD pc g0) pc).length;omega));rw[show nxI u c i pc=(o3 ((c8 u (itI c i)).getD pc g0) pc) from rfl]at hq1 hq2;have hjn:j<(nxI u c i pc).length:=by show j<(o3 ((c8 u (itI c i)).getD pc g0) pc).length;omega
     have hq3:((o3 ((c8 u (itI c i)).getD pc g0) pc).getD j 0).toNat<(c8 u (itI c i)).length:=by omega
     have hRq:=hQ.g.tb.get hq3;refine c39z ?_;refine .ca rfl rfl (vB _ _ (hR.lt hk8) (hRq.lt hk8) t226 (by have:=hR.1;have:=hRq.1;omega)) ?_;refine .n ?_;refine c138z ?_;refine .ca rfl rfl (G1 _ _ t178) ?_;refine .n ?_;refine u2z ?_ ?_
     ·intro e8 qe8;refine c142z ?_;refine c44z ?_;exact ⟨_,by omega,.v ⟨(T2.set ((o3 ((c8 u (itI c i)).getD pc g0) pc).getD j 0).toNat (bG (T2.getD ((o3 ((c8 u (itI c i)).getD pc g0) pc).getD j 0).toNat []) (n5 (T1.getD pc []) (stS u c mx S i pc)))),true,(j+1),⟨rfl,⟨hQ.grow p hpc hR hle hjn rfl (fun hs=>absurd ((cK hRq hR).2 hs) (by assumption)),by omega⟩⟩,rfl⟩ (he:=t17) (hk:=t58)⟩
     intro e8 qe8;refine c5z ?_;refine c44z ?_;exact ⟨_,by omega,.v ⟨T2,a2,(j+1),⟨rfl,⟨hQ.skip ((cK hRq hR).1 (by assumption)),by omega⟩⟩,rfl⟩ (he:=t17) (hk:=t58)⟩
    intro e7 qe7;refine .exit ?_;obtain rfl:j=(o3 ((c8 u (itI c i)).getD pc g0) pc).length:=by omega
    refine c195z ?_;exact ⟨_,by omega,.v ⟨T2,a2,(pc+1),⟨rfl,⟨hQ.fin,by omega⟩⟩,rfl⟩ (he:=t17) (hk:=t58)⟩
   intro e3 qe3;refine .exit ?_;obtain rfl:pc=(c8 u (itI c i)).length:=by omega
   have hlt:=MC hk8 hP;exact ⟨_,by omega,.v ⟨T1,a1,⟨rfl,⟨hP.g,fun hf=>by subst hf;exact hP.done p⟩⟩,rfl⟩ (he:=t17) (hk:=t58)⟩
  intro e2 qe2;refine c8z ?_;refine .c7 [13] ?_;refine c28z ?_;exact ⟨_,_,rfl,frz_T t36 (by omega) hG.tb.1,by (show _=_;rw[hdone (by assumption)];rfl)⟩
theorem UW (hu:WU u)(wc:WC u c)(hmx:mx<u.c4.length){S:List (List Nat)}(hS:Tb (kM u mx) c.insts.length S)(hi:i<c.insts.length):CB 136 [.agg [.vec u.globals.length (g8 u.globals),.vec u.c4.length (g6 u.c4),.vec u.procs.length (l4 u.procs),.int .i64 u.main],.agg [.vec c.insts.length (l7 c.insts),.vec c.calls.length (n4 c.calls),.vec c.roots.length (g8 c.roots)],.int .i64 ((mx:Nat):Int),.vec c.insts.length (aL S),.int .i64 ((i:Nat):Int)] h (bH (exT u c mx S i)):=by
  refine .bz Tryz.f136 57 ?_;have w:=gE wc hi;have w1:=w.lo;have w2:=w.hi;have hsz:(c8 u (itI c i)).length≤1664:=q9 hu w;have hwl:=wc.len;have hk8:kM u mx≤8:=dV;have hk9:nD (u.c4.getD mx aA)≤8:=hk8;have hml:=hu.ml;have hT:=nW (u:=u) (c:=c) (m:=mx) S i;have hTl:(bV u c mx S i).length=r9 u c i:=hT.1;have hli:r9 u c i≤1664:=hsz;have hlc:r9 u c i=(c8 u (itI c i)).length:=rfl;refine .z ?_;refine c29z ?_;refine .ca rfl rfl ((P2 hu wc hmx hS hi)) ?_;refine .n ?_;refine .c7 [2,4,5,6,11] ?_;refine c168z ?_;refine c27z ?_;refine .c7 [4,5,6,11,12] ?_;refine c9.Fc (t:=12) (γ:=(h.length+2)) (len:=(kM u mx+1)) t36 (by simp) (by omega) (kT (by decide) rfl) ?_;rw[cA];simp only[s3,List.set_cons_succ,List.set_cons_zero];generalize (⟨0,false,3,1,(List.replicate (kM u mx+1) 0).map l5,kM u mx+1⟩:Blk)=Vb;refine c15z ?_;refine .aR (fun m st=>∃(j:Nat),(m=r9 u c i-j∧(j≤r9 u c i))∧st=⟨mkS 57 [(4,AV.int .i64 ((i:Nat):Int)),(5,AV.ptr h.length 0 0),(6,AV.ptr (h.length+1) 0 0),(11,AV.vec (r9 u c i) (aL (bV u c mx S i))),(12,bH (yK u c mx i (bV u c mx S i) j)),(13,AV.int .i64 ((j:Nat):Int))],h++[⟨0,false,30,4,[.vec u.globals.length (g8 u.globals),.vec u.c4.length (g6 u.c4),.vec u.procs.length (l4 u.procs),.int .i64 u.main],0⟩,⟨0,false,34,3,[.vec c.insts.length (l7 c.insts),.vec c.calls.length (n4 c.calls),.vec c.roots.length (g8 c.roots)],0⟩,Vb]⟩) _ (.v ⟨0,⟨rfl,by omega⟩,rfl⟩ (hs:=t77)) ?_;rintro m sl h' ⟨j,⟨hm,hj⟩,hst⟩;obtain ⟨rfl,rfl⟩:=St.mk.inj hst;have hop:(eV u c i j).op=((c8 u (itI c i)).getD j g0).op:=rfl;refine c1z ?_;refine u2z ?_ ?_
  ·intro e1 qe1;refine c3z ?_;have hTj:=hT.get (i:=j) (by omega);have hEj:=pP (u:=u) (c:=c) (m:=mx) i (bV u c mx S i) j;refine c74z ?_;refine u2z ?_ ?_
   ·intro e2 qe2;refine .c7 [4,5,6,11,12,13] ?_;refine .r ?_;refine .e 5 ?_;refine .ca rfl rfl (vB _ _ (hTj.lt hk8) (hEj.lt hk8) (by have:=hEj.1;omega) t213) ?_;refine c25z ?_;refine .rz ?_;exact ⟨_,by omega,.v ⟨(j+1),⟨rfl,by omega⟩,rfl⟩ (hs:=t77)⟩
   intro e2 qe2;refine c5z ?_;refine .c7 [4,5,6,11,12,13] ?_;refine .rz ?_;exact ⟨_,by omega,.v ⟨(j+1),⟨rfl,by omega⟩,rfl⟩ (hs:=t77)⟩
  intro e1 qe1;refine .exit ?_;obtain rfl:j=r9 u c i:=by omega
  change c9 ..;refine .c7 [12] ?_;refine .z ?_;exact .ret (.ex (hq:=by rfl))
end Go.Proofs.YtonbocmibeikmaaGreat
end
section
namespace Go.Proofs.YtonbocmibeikmaaGreat
open Go.Ab Go.Un
variable {h:c6}{T:List (List Nat)}{g n:Nat}
theorem fP {l:c6}{b0 b1:Blk}{r:List Nat}(hn:T.length=n)(hl:n<100000):j9 cfg 22 (h++(b0::b1::s8 22 1 g (aL T)::⟨0,false,22,1,[.vec r.length (r.map l5)],0⟩::l)) (.own (h.length+2) g 0 n) (.own (h.length+3) 0 0 1)=some (.own (h.length+2) (g+1) 0 (n+1),h++(b0::b1::s8 22 1 (g+1) (aL (T++[r]))::⟨0,false,22,1,[.vec r.length (r.map l5)],0⟩::l)):=by subst hn;rw[aJ (C:=cfg) (K:=1) (m:=1) (new:=[.vec r.length (r.map l5)]) (zs:=aL T) t36 rfl (by omega) (by simp[aL]) rfl (by omega) t155 rfl (by decide) (by omega),s3,show aL T++[AV.vec r.length (r.map l5)]=aL (T++[r]) from by simp[aL,bH]];rfl
theorem fQ {l:c6}{b0 b1 b3:Blk}{k:Nat}(hn:T.length=n)(hl:n<100000):j9 cfg 22 (h++(b0::b1::s8 22 1 g (aL T)::b3::⟨0,false,22,1,[.own (h.length+3) 0 0 k],0⟩::l)) (.own (h.length+2) g 0 n) (.own (h.length+4) 0 0 1)=some (.own (h.length+2) (g+1) 0 (n+1),h++(b0::b1::⟨g+1,false,22,1,aL T++[.own (h.length+3) 0 0 k],0⟩::b3::⟨0,false,22,1,[.own (h.length+3) 0 0 k],0⟩::l)):=by subst hn;rw[aJ (C:=cfg) (K:=1) (m:=1) (new:=[.own (h.length+3) 0 0 k]) (zs:=aL T) t36 rfl (by omega) (by simp[aL]) rfl (by omega) t155 rfl (by decide) (by omega),s3,eE (zs:=aL T++[AV.own (h.length+3) 0 0 k]) (by simp)];rfl
theorem c9.seenG {c:Code}{sl:List AV}{H:c6}{Q:Exit→St→Prop}{β γ len e e' g:Nat}{A R:List AV}{zs:List Nat}(hβ:H[β]?=some ⟨g,false,e,1,A++.own γ 0 0 len::R,0⟩)(hγ:H[γ]?=some ⟨0,false,e',1,zs.map l5,0⟩)(hz:zs.length=len)(hne:β≠γ)
    (r:c9 Tryz.prog cfg c ⟨sl,(H.set γ ⟨0,false,e',1,zs.map l5,len⟩).set β ⟨g,false,e,1,A++.vec len (zs.map l5)::R,0⟩⟩ Q):c9 Tryz.prog cfg c ⟨sl,H⟩ Q:=by
  subst hz;refine c9.L2 (γ:=γ) (β:=β) (k:=A.length) (off:=0) (len:=zs.length) (cs:=zs.map l5) hγ rfl (by simp) ?_ hβ hne (by simp) ?_
  · show o6 qF (List.take (zs.length*1) (List.drop 0 (zs.map l5)))=_
    rw[List.drop_zero,Nat.mul_one,List.take_of_length_le (by simp)];exact (CC zs).WN
  · have e1:eM ⟨0,false,e',1,zs.map l5,0⟩ (0+zs.length*1)=⟨0,false,e',1,zs.map l5,zs.length⟩:=by simp only[eM,Nat.zero_add,Nat.mul_one,Nat.zero_max]
    have e2:(A++AV.own γ 0 0 zs.length::R).set A.length (.vec zs.length (zs.map l5))=A++.vec zs.length (zs.map l5)::R:=by simp
    show c9 Tryz.prog cfg c ⟨sl,(H.set γ (eM ⟨0,false,e',1,zs.map l5,0⟩ (0+zs.length*1))).set β ⟨g,false,e,1,(A++AV.own γ 0 0 zs.length::R).set A.length (.vec zs.length (zs.map l5)),0⟩⟩ Q;rw[e1,e2];exact r
theorem UX {k:Nat}:(⟨g,false,22,1,aL T++[AV.vec (k+1) ((List.replicate (k+1) 0).map l5)],0⟩:Blk)=s8 22 1 g (aL (T++[List.replicate (k+1) 0])):=by rw[eE (by simp[aL])];simp[aL,bH]
theorem frz_O {β len:Nat}{H:c6}{a:List (List Nat)}(hb:H[β]?=some (s8 22 1 g (aL a)))(hn:n≤β)(hl:a.length=len)(hp:0<len):jQ n H 6 (.own β g 0 len)=some (.vec len (aL a)):=by rw[eE (by intro h0;have:=congrArg List.length h0;rw[o5]at this;replace this:=s7z this;omega)]at hb;exact frz_T hb hn hl
variable {u:Un}{c:Clo}{mx:Nat}
theorem UY {i:Nat}{S:List (List Nat)}(hi:i<c.insts.length):(zJ u c mx S).take i++[exT u c mx S i]=(zJ u c mx S).take (i+1):=by
  have hl:i<(zJ u c mx S).length:=by rw[(lB S).1];exact hi
  rw[List.take_add_one,List.getElem?_eq_getElem hl];simp[zJ]
theorem UZ (h:T.length=n):T.take n=T:=List.take_of_length_le (by omega)
attribute [local go_sem] rd bH r7 u6 p7 n6 l8 z6 o5 Int.natCast_nonneg Int.natCast_inj aD cW cJ cX gD fV nX kC aZ kD pR dL jE jF fW List.length_set List.length_replicate Int.toNat_natCast_add_one eG wrap64 List.length_map cL cY fP fQ aZ
theorem VA (hu:WU u)(wc:WC u c)(hmx:mx<u.c4.length):CB 93 [.agg [.vec u.globals.length (g8 u.globals),.vec u.c4.length (g6 u.c4),.vec u.procs.length (l4 u.procs),.int .i64 u.main],.agg [.vec c.insts.length (l7 c.insts),.vec c.calls.length (n4 c.calls),.vec c.roots.length (g8 c.roots)],.int .i64 ((mx:Nat):Int)] h (.vec c.insts.length (aL (F9 u c mx))):=by
  refine .bz Tryz.f93 28 ?_;have hwl:=wc.len;have hk8:kM u mx≤8:=dV;have hk9:nD (u.c4.getD mx aA)≤8:=hk8;have hml:=hu.ml;refine c49z ?_;refine c9.wC 7 rfl ?_;refine .aN (fun m st=>∃(i:Nat),(m=c.insts.length-i∧(i≤c.insts.length))∧st=⟨mkS 28 [(2,AV.int .i64 ((mx:Nat):Int)),(3,AV.ptr h.length 0 0),(4,AV.ptr (h.length+1) 0 0),(7,AV.own (h.length+2) i 0 i),(8,AV.int .i64 ((i:Nat):Int))],h++[⟨0,false,30,4,[.vec u.globals.length (g8 u.globals),.vec u.c4.length (g6 u.c4),.vec u.procs.length (l4 u.procs),.int .i64 u.main],0⟩,⟨0,false,34,3,[.vec c.insts.length (l7 c.insts),.vec c.calls.length (n4 c.calls),.vec c.roots.length (g8 c.roots)],0⟩,s8 22 1 i (aL (List.replicate i (List.replicate (kM u mx+1) 0)))]⟩) (.v ⟨0,⟨rfl,by omega⟩,rfl⟩ (hs:=t8)) ?_;rintro m sl h' ⟨i,⟨hm,hi⟩,hst⟩;obtain ⟨rfl,rfl⟩:=St.mk.inj hst;clear hst;have hrl:(List.replicate i (List.replicate (kM u mx+1) 0)).length=i:=List.length_replicate;refine c1z ?_;refine u2z ?_ ?_
  ·intro e1 qe1;refine c3z ?_;refine .r ?_;refine .e 6 ?_;refine .ca rfl rfl (G2 u mx) ?_;refine c25z ?_;refine .c7 [2,3,4,7,8] ?_;refine c9.seenG (β:=h.length+2) (γ:=h.length+3) (g:=i+1) (A:=aL (List.replicate i (List.replicate (kM u mx+1) 0))) (R:=[]) (zs:=(List.replicate (kM u mx+1) 0)) (len:=kM u mx+1) t36 t36 (by simp) (by omega) ?_;simp only[List.append_assoc,List.cons_append,List.nil_append,v9,s3,List.set_cons_succ,List.set_cons_zero,List.length_append,List.length_cons,List.length_nil,Nat.reduceAdd,Nat.zero_add];refine .rz ?_;exact ⟨_,by omega,.v ⟨(i+1),⟨rfl,by omega⟩,rfl⟩ (he:=by (rw[UX,←List.replicate_succ'];simp only[List.append_assoc,List.cons_append,List.nil_append];rfl)) (hk:=t166) (hs:=t8)⟩
  intro e1 qe1;refine .exit ?_;obtain rfl:i=c.insts.length:=by omega
  change c9 ..;refine .c7 [7] ?_;refine c28z ?_;exact ⟨_,_,rfl,frz_O t36 (by omega) hrl (by omega),by rfl⟩
theorem VB (hu:WU u)(wc:WC u c)(hmx:mx<u.c4.length){S:List (List Nat)}(hS:Tb (kM u mx) c.insts.length S):CB 94 [.agg [.vec u.globals.length (g8 u.globals),.vec u.c4.length (g6 u.c4),.vec u.procs.length (l4 u.procs),.int .i64 u.main],.agg [.vec c.insts.length (l7 c.insts),.vec c.calls.length (n4 c.calls),.vec c.roots.length (g8 c.roots)],.int .i64 ((mx:Nat):Int),.vec c.insts.length (aL S)] h (.vec c.insts.length (aL (zJ u c mx S))):=by
  refine .bz Tryz.f94 27 ?_;have hwl:=wc.len;have hk8:kM u mx≤8:=dV;have hk9:nD (u.c4.getD mx aA)≤8:=hk8;have hml:=hu.ml;have hSl:=hS.1;refine c49z ?_;refine c9.wC 9 rfl ?_;refine .aN (fun m st=>∃(i:Nat),(m=c.insts.length-i∧(i≤c.insts.length))∧st=⟨mkS 27 [(2,AV.int .i64 ((mx:Nat):Int)),(3,AV.vec c.insts.length (aL S)),(4,AV.ptr h.length 0 0),(5,AV.ptr (h.length+1) 0 0),(9,AV.own (h.length+2) i 0 i),(10,AV.int .i64 ((i:Nat):Int))],h++[⟨0,false,30,4,[.vec u.globals.length (g8 u.globals),.vec u.c4.length (g6 u.c4),.vec u.procs.length (l4 u.procs),.int .i64 u.main],0⟩,⟨0,false,34,3,[.vec c.insts.length (l7 c.insts),.vec c.calls.length (n4 c.calls),.vec c.roots.length (g8 c.roots)],0⟩,s8 22 1 i (aL ((zJ u c mx S).take i))]⟩) (.v ⟨0,⟨rfl,by omega⟩,rfl⟩ (hs:=t8)) ?_;rintro m sl h' ⟨i,⟨hm,hi⟩,hst⟩;obtain ⟨rfl,rfl⟩:=St.mk.inj hst;clear hst;have hrl:((zJ u c mx S).take i).length=i:=by rw[List.length_take,(lB S).1];omega
  refine c1z ?_;refine u2z ?_ ?_
  ·intro e1 qe1;refine c3z ?_;refine .r ?_;refine .e 6 ?_;refine .ca rfl rfl (UW hu wc hmx hS (show i<c.insts.length by omega)) ?_;refine c25z ?_;refine .c7 [2,3,4,5,9,10] ?_;refine .rz ?_;exact ⟨_,by omega,.v ⟨(i+1),⟨rfl,by omega⟩,rfl⟩ (he:=by (rw[UY (by omega)];simp only[List.append_assoc,List.cons_append,List.nil_append];rfl)) (hk:=t166) (hs:=t8)⟩
  intro e1 qe1;refine .exit ?_;obtain rfl:i=c.insts.length:=by omega
  rw[UZ (lB S).1];change c9 ..;refine .c7 [9] ?_;refine c28z ?_;exact ⟨_,_,rfl,frz_O t36 (by omega) (lB S).1 (by omega),by rfl⟩
theorem VC {m:Nat}{a b:List (List Nat)}(ha:a.length=n)(hb:b.length=m)(hl:n<1000000)(hr:∀r∈a,r.length<100000):CB 33 [.vec n (aL a),.vec m (aL b)] h (.bool (decide (a=b))):=by subst ha hb;exact c_sameT (n:=0) a b hl hr
theorem c_ofR (hu:WU u)(wc:WC u c)(hmx:mx<u.c4.length):CB 56 [.agg [.vec u.globals.length (g8 u.globals),.vec u.c4.length (g6 u.c4),.vec u.procs.length (l4 u.procs),.int .i64 u.main],.agg [.vec c.insts.length (l7 c.insts),.vec c.calls.length (n4 c.calls),.vec c.roots.length (g8 c.roots)],.int .i64 ((mx:Nat):Int)] h (.vec c.insts.length (aL (z9 u c mx))):=by
  refine .bz Tryz.f56 23 ?_;have hwl:=wc.len;have hk8:kM u mx≤8:=dV;have hk9:nD (u.c4.getD mx aA)≤8:=hk8;have hml:=hu.ml;refine c79z ?_;refine .ca rfl rfl (VA hu wc hmx) ?_;refine c147z ?_;refine .aR (fun m st=>∃(Sx:List (List Nat)),(m=4608*c.insts.length-tot Sx∧(Low u c mx Sx))∧st=⟨mkS 23 [(2,AV.int .i64 ((mx:Nat):Int)),(3,AV.ptr h.length 0 0),(4,AV.ptr (h.length+1) 0 0),(7,AV.vec c.insts.length (aL Sx))],h++[⟨0,false,30,4,[.vec u.globals.length (g8 u.globals),.vec u.c4.length (g6 u.c4),.vec u.procs.length (l4 u.procs),.int .i64 u.main],0⟩,⟨0,false,34,3,[.vec c.insts.length (l7 c.insts),.vec c.calls.length (n4 c.calls),.vec c.roots.length (g8 c.roots)],0⟩]⟩) _ (.v ⟨(F9 u c mx),⟨rfl,Low.zero⟩,rfl⟩) ?_;rintro m sl h' ⟨Sx,⟨hm,hL⟩,hst⟩;obtain ⟨rfl,rfl⟩:=St.mk.inj hst;have hSl:=hL.tb.1;have hRl:=(lB (u:=u) (c:=c) (m:=mx) Sx).1;refine .block ?_;refine c30z ?_;refine .ca rfl rfl (VB hu wc hmx hL.tb) ?_;refine c27z ?_;refine c17z ?_;refine .ca rfl rfl (VC hSl hRl (by omega) (fun r hr=>by have:=(hL.tb.2 r hr).1;omega)) ?_;refine .nil ?_;refine u2z ?_ ?_
  ·intro e1 qe1;refine .c7 [7] ?_;refine .z ?_;exact .ret (.ex (hq:=by (rw[hL.done hu wc (Eq.symm (by assumption))])))
  intro e1 qe1;refine .sk ?_;refine .c7 [2,3,4,8] ?_;refine .rz ?_;have hgr:=hL.grow hu wc (by assumption);exact ⟨_,by omega,.v ⟨(zJ u c mx Sx),⟨rfl,(hL.round hu wc).1⟩,rfl⟩⟩
end Go.Proofs.YtonbocmibeikmaaGreat
end
section
namespace Go.Un
open Go.Ab
section
variable (u:Un)(c:Clo)(m:Nat)
structure FN (E:List Nat):Prop where
 es:Es u c m E
 le:Sub E (gR u c m)
 rt:∀i:Nat,(i:Int)∈c.roots→bt E i 0=true
structure xP (E:List Nat)(j:Nat):Prop where
 es:Es u c m E
 le:Sub E (gR u c m)
 rt:∀k,k<j→bt E (c.roots.getD k 0).toNat 0=true
 z:∀i:Nat,(i:Int)∉c.roots→E.getD i 0=0
noncomputable def yM (E:List Nat)(i pc:Nat):Nat:=applyN ((inS u c m i).getD pc []) (E.getD i 0)
structure zL (E0 E:List Nat)(again:Bool)(i j:Nat):Prop where
 g:FN u c m E
 mo:E0.sum≤E.sum
 up:again=true→E0.sum<E.sum
 no:again=false→E=E0∧(∀x,x<i→∀pc,pc<r9 u c x→ClE u c m E x pc)∧∀pc,pc<j→ClE u c m E i pc
def Td (E:List Nat)(again:Bool):Nat:=if again then 512*c.insts.length-E.sum+1 else 0
end
section
variable {u:Un}{c:Clo}{m:Nat}
variable {j:Nat}
theorem MK:(1:Nat).testBit j=true↔j=0:=by
 cases j with
 | zero=>simp
 | succ j=>simp[Nat.testBit_succ]
theorem one_lt:1<2^(kM u m+1):=by have:=Nat.one_lt_two_pow (n:=kM u m+1) (by omega);exact this
theorem root_at (wc:WC u c)(hj:j<c.roots.length):((c.roots.getD j 0).toNat:Int)=c.roots.getD j 0∧(c.roots.getD j 0).toNat<c.insts.length∧(((c.roots.getD j 0).toNat:Nat):Int)∈c.roots:=by
 have h1:c.roots.getD j 0∈c.roots:=j0 hj;have h2:=wc.rr _ h1;have h3:((c.roots.getD j 0).toNat:Int)=c.roots.getD j 0:=by omega
 exact ⟨h3,by omega,by rw[h3];exact h1⟩
theorem xP.start:xP u c m (List.replicate c.insts.length 0) 0:=
 ⟨Es.zero,fun i d h=>(by rw[F7]at h;cases h),fun k hk=>by omega,fun i _=>(by simp only[List.getD,List.getElem?_replicate];split<;>rfl)⟩
variable {E:List Nat}
theorem xP.next (hu:WU u)(wc:WC u c)(h:xP u c m E j)(hj:j<c.roots.length):xP u c m (E.set (c.roots.getD j 0).toNat 1) (j+1):=by
 obtain ⟨h1,h2,h3⟩:=root_at wc hj;have hl:(c.roots.getD j 0).toNat<E.length:=by rw[h.es.1];exact h2
 refine ⟨h.es.set one_lt,fun i d hb=>?_,fun k hk=>?_,fun i hi=>?_⟩
 ·rw[BZ hl]at hb;split at hb
  ·rename_i e;subst e;rw[MK]at hb;subst hb;exact (G0 hu wc).2 (.root h3)
  ·exact h.le i d hb
 ·rw[BZ hl];split
  ·exact MK.2 rfl
  ·rename_i hne;rcases Nat.lt_succ_iff_lt_or_eq.1 hk with hk | rfl
   ·exact h.rt k hk
   ·exact absurd rfl hne
 ·have hne:(c.roots.getD j 0).toNat≠i:=fun e=>by subst e;exact hi h3
  rw[List.getD_eq_getElem?_getD,List.getElem?_set_ne hne,←List.getD_eq_getElem?_getD];exact h.z i hi
theorem xP.all (wc:WC u c)(h:xP u c m E c.roots.length):FN u c m E:=by refine ⟨h.es,h.le,fun i hi=>?_⟩;obtain ⟨k,hk,he⟩:=List.getElem_of_mem hi;have:=h.rt k hk;rw[show c.roots.getD k 0=c.roots[k] from by simp[List.getD,hk],he]at this;simpa using this
variable {i:Nat}
theorem FN.set (hu:WU u)(wc:WC u c)(h:FN u c m E){pc:Nat}(hi:i<c.insts.length)(hp:pc<r9 u c i)(ho:(eV u c i pc).op=2) :
  FN u c m (E.set (gZ c i pc) (E.getD (gZ c i pc) 0|||yM u c m E i pc)):=by
 have hk:=mP hu wc hi hp ho;have hl:gZ c i pc<E.length:=by rw[h.es.1];exact hk
 refine ⟨h.es.set (Nat.or_lt_two_pow (h.es.get _) (mQ ((LW i).get hp) _)),fun x d hb=>?_,fun x hx=>?_⟩
 ·rw[BZ hl]at hb;split at hb
  ·rename_i e;subst e;rw[Nat.testBit_or,Bool.or_eq_true]at hb;rcases hb with hb | hb
   ·exact h.le _ d hb
   ·obtain ⟨d0,k1,k2⟩:=(LY hu wc hi hp).1 hb;exact (G0 hu wc).2 (.call ((G0 hu wc).1 (h.le _ _ k1)) k2 ho)
  ·exact h.le x d hb
 ·rw[BZ hl];split
  ·rename_i e;subst e;rw[Nat.testBit_or,Bool.or_eq_true];exact .inl (h.rt _ hx)
  ·exact h.rt x hx
theorem FN.up (h:FN u c m E){k x:Nat}(hk:k<c.insts.length)(hx:x<2^(kM u m+1))(hne:¬∀j,x.testBit j=true→bt E k j=true):E.sum<(E.set k (E.getD k 0|||x)).sum∧(E.set k (E.getD k 0|||x)).sum≤512*c.insts.length:=by
 refine ⟨US (by rw[h.es.1];exact hk) (fun j hj=>?_) (fun he=>hne fun j hj=>?_),YJ (h.es.set (Nat.or_lt_two_pow (h.es.get _) hx))⟩
 ·rw[Nat.testBit_or,Bool.or_eq_true];exact .inl hj
 ·have:=congrArg (fun n=>n.testBit j) he;simp only[Nat.testBit_or]at this;unfold bt;rw[this,hj,Bool.or_true]
theorem ML {k x:Nat}:(E.getD k 0|||x)=E.getD k 0↔∀j,x.testBit j=true→bt E k j=true:=by
 constructor
 ·intro h j hj;have:=congrArg (fun n=>n.testBit j) h;simp only[Nat.testBit_or]at this;unfold bt;rw[←this,hj,Bool.or_true]
 ·intro h;refine F6 fun j=>?_;rw[Nat.testBit_or,Bool.or_eq_true];exact ⟨fun hj=>hj.elim id (h j),.inl⟩
theorem FN.done (hu:WU u)(wc:WC u c)(h:FN u c m E)(hc:∀i pc,i<c.insts.length→pc<r9 u c i→ClE u c m E i pc):E=gR u c m:=ent_eq hu wc h.es h.le h.rt hc
theorem zL.start (h:FN u c m E):zL u c m E E false 0 0:=⟨h,Nat.le_refl _,fun e=>(by cases e),fun _=>⟨rfl,fun x hx=>by omega,fun pc hp=>by omega⟩⟩
variable {E0:List Nat}{again:Bool}
theorem zL.skip (h:zL u c m E0 E again i j)(hs:(eV u c i j).op=2→∀q,(yM u c m E i j).testBit q=true→bt E (gZ c i j) q=true):zL u c m E0 E again i (j+1):=
 ⟨h.g,h.mo,h.up,fun e=>⟨(h.no e).1,(h.no e).2.1,fun pc hp=>by
  rcases Nat.lt_succ_iff_lt_or_eq.1 hp with hp | rfl
  ·exact (h.no e).2.2 pc hp
  ·exact hs⟩⟩
theorem zL.grow (hu:WU u)(wc:WC u c)(h:zL u c m E0 E again i j)(hi:i<c.insts.length)(hj:j<r9 u c i)(ho:(eV u c i j).op=2)(hne:¬∀q,(yM u c m E i j).testBit q=true→bt E (gZ c i j) q=true) :
  zL u c m E0 (E.set (gZ c i j) (E.getD (gZ c i j) 0|||yM u c m E i j)) true i (j+1):=by
 have hx:=mQ (s:=E.getD i 0) ((LW (u:=u) (c:=c) (m:=m) i).get hj);obtain ⟨s1,s2⟩:=h.g.up (mP hu wc hi hj ho) hx hne;have:=h.mo;exact ⟨h.g.set hu wc hi hj ho,by unfold yM;omega,fun _=>by unfold yM;omega,fun e=>(by cases e)⟩
theorem zL.fin (h:zL u c m E0 E again i (r9 u c i)):zL u c m E0 E again (i+1) 0:=
 ⟨h.g,h.mo,h.up,fun e=>⟨(h.no e).1,fun x hx pc hp=>by
  rcases Nat.lt_succ_iff_lt_or_eq.1 hx with hx | rfl
  ·exact (h.no e).2.1 x hx pc hp
  ·exact (h.no e).2.2 pc hp,fun pc hp=>by omega⟩⟩
theorem zL.done (hu:WU u)(wc:WC u c)(h:zL u c m E0 E false c.insts.length 0):E=gR u c m:=h.g.done hu wc fun i pc hi hp=>(h.no rfl).2.1 i hi pc hp
theorem MM (h:zL u c m E0 E again i j):Td c E again<Td c E0 true:=by
 have h1:=YJ h.g.es;have h2:=h.mo;unfold Td;cases again with
 | false=>simp
 | true=>have:=h.up rfl;simp;omega
end
section
variable {u:Un}{c:Clo}{m:Nat}
theorem mayAll:((List.range 512).all fun s=>(bits .andNot .i64 (s:Int) 1 != 0)==decide (1<(s:Int))&&(bits .and .i64 (s:Int) 1==0)==decide (s%2=0))=true:=by kernel_rfl
theorem CF {s:Nat}(hs:s<512):bits .and .i64 (s:Int) 1=0↔s%2=0:=by
 have:=List.all_eq_true.1 mayAll s (List.mem_range.2 hs);simp only[Bool.and_eq_true,beq_iff_eq]at this;have h1:=this.2;by_cases e:bits .and .i64 (s:Int) 1=0
 ·simp only[e,beq_self_eq_true]at h1;exact ⟨fun _=>of_decide_eq_true h1.symm,fun _=>e⟩
 ·have e2:(bits .and .i64 (s:Int) 1==0)=false:=by simpa using e
  rw[e2]at h1;exact ⟨fun h=>absurd h e,fun h=>absurd h (of_decide_eq_false h1.symm)⟩
end
end Go.Un
end
section
namespace Go.Proofs.YtonbocmibeikmaaGreat
open Go.Ab Go.Un
noncomputable def dM (u:Un)(c:Clo)(mx j:Nat):List (List (List Nat)):=(List.range j).map (bV u c mx (z9 u c mx))
def s9 (L:List (List (List Nat))):List AV:=L.map fun T=>.vec T.length (aL T)
variable {L:List (List (List Nat))}
theorem u4:(s9 L).length=L.length:=by simp[s9]
variable {u:Un}{c:Clo}{mx j:Nat}
theorem w9:(dM u c mx j).length=j:=by simp[dM]
theorem MN:dM u c mx 0=[]:=rfl
theorem xQ:dM u c mx (j+1)=dM u c mx j++[bV u c mx (z9 u c mx) j]:=by simp[dM,List.range_succ]
theorem oR {T:List (List Nat)}:s9 (L++[T])=s9 L++[.vec T.length (aL T)]:=by simp[s9]
theorem xR (L:List (List (List Nat))):z7 (s9 L):=z7.map fun _=>.vec
variable {i:Nat}
theorem MO (h:i<L.length):List.take 1 (List.drop i (s9 L))=[.vec (L.getD i []).length (aL (L.getD i []))]:=by unfold s9;rw[←List.map_drop,←List.map_take,List.drop_eq_getElem_cons h,List.take_succ_cons,List.take_zero];simp[List.getD,h]
theorem VD (h:i<j):(dM u c mx j).getD i []=bV u c mx (z9 u c mx) i:=by simp[dM,List.getD,h]
theorem lC:(bV u c mx (z9 u c mx) i).length=r9 u c i:=(nW _ _).1
theorem gS (h:i<j):List.take 1 (List.drop i (s9 (dM u c mx j)))=[.vec (r9 u c i) (aL (bV u c mx (z9 u c mx) i))]:=by rw[MO (by rw[w9];exact h),VD h,lC]
theorem gT {l:List Nat}(h:i<l.length):List.take i (l.map l5)++AV.int .i64 1::List.drop (i+1) (l.map l5)=(l.set i 1).map l5:=lP h
theorem bQ:(gR u c mx).length=c.insts.length:=W7.1
theorem MP {h:c6}{b0 b1 b2:Blk}{l:c6}{T:List (List Nat)}{m g n:Nat}(hn:L.length=n)(hx:T.length=m)(hl:n<100000):j9 cfg 32 (h++(b0::b1::b2::s8 32 1 g (s9 L)::⟨0,false,32,1,[.vec m (aL T)],0⟩::l)) (.own (h.length+3) g 0 n) (.own (h.length+4) 0 0 1)=some (.own (h.length+3) (g+1) 0 (n+1),h++(b0::b1::b2::s8 32 1 (g+1) (s9 (L++[T]))::⟨0,false,32,1,[.vec m (aL T)],0⟩::l)):=by subst hn hx;rw[aJ (C:=cfg) (K:=1) (m:=1) (new:=[.vec T.length (aL T)]) (zs:=s9 L) t36 rfl (by omega) (by simp[s9]) rfl (by omega) t155 rfl (by decide) (by omega),←oR,s3];rfl
theorem frz_N {n β g len:Nat}{H:c6}{a:List Nat}(hb:H[β]?=some ⟨g,false,3,1,a.map l5,0⟩)(hn:n≤β)(hl:a.length=len):jQ n H 6 (.own β g 0 len)=some (.vec len (a.map l5)):=by subst hl;rw[dW,if_neg (by omega),eN,hb];simp only[hn,and_self,if_true,Bool.false_eq_true,if_false,Nat.zero_add,Nat.mul_one,List.length_map,Nat.le_refl,List.drop_zero];rw[List.take_of_length_le (by rw[List.length_map];exact Nat.le_refl _),(CC a).frz]
attribute [local go_sem] rd bH r7 u6 p7 n6 l8 z6 o5 Int.natCast_nonneg Int.natCast_inj aD cW cJ cX gD fV nX kC aZ kD pR dL jE jF fW List.length_set List.length_replicate Int.toNat_natCast_add_one eG wrap64 List.length_map cL cY fP fQ aZ u4 w9 gS gT bQ o5 orN lP
section
end
section
end
section
end
end Go.Proofs.YtonbocmibeikmaaGreat
end
section
namespace Go.Proofs.YtonbocmibeikmaaGreat
open Go.Ab Go.Un
attribute [local go_sem] rd bH r7 u6 p7 n6 l8 z6 o5 Int.natCast_nonneg Int.natCast_inj aD cW cJ cX gD fV nX kC aZ kD pR dL jE jF fW List.length_set List.length_replicate Int.toNat_natCast_add_one eG wrap64 List.length_map cL cY fP fQ aZ u4 w9 gS gT bQ o5 orN lP
section
attribute [local go_sem] MP
theorem c_entR {h:c6}{u:Un}{c:Clo}(hu:WU u)(wc:WC u c){mx:Nat}(hmx:mx<u.c4.length):CB 32 [.agg [.vec u.globals.length (g8 u.globals),.vec u.c4.length (g6 u.c4),.vec u.procs.length (l4 u.procs),.int .i64 u.main],.agg [.vec c.insts.length (l7 c.insts),.vec c.calls.length (n4 c.calls),.vec c.roots.length (g8 c.roots)],.int .i64 ((mx:Nat):Int)] h (.vec c.insts.length ((gR u c mx).map l5)):=by
  refine .bz Tryz.f32 123 ?_;have hwl:=wc.len;have hk8:kM u mx≤8:=dV;have hk9:nD (u.c4.getD mx aA)≤8:=hk8;have hml:=hu.ml;have hrl:=wc.rl;have hrc:c.roots.length≤c.insts.length:=by have:=aT wc.rs wc.rr;omega
  have hel:(gR u c mx).length=c.insts.length:=bQ;have hsl:(z9 u c mx).length=c.insts.length:=dC.1;have hcl:=wc.cl;refine c283z ?_;refine c23z ?_;refine .c7 [2,3,4,7,8] ?_;refine c15z ?_;refine .aN (fun m st=>∃(j:Nat) (E:List Nat),(m=c.roots.length-j∧(xP u c mx E j∧j≤c.roots.length))∧st=⟨mkS 123 [(2,AV.int .i64 ((mx:Nat):Int)),(3,AV.ptr h.length 0 0),(4,AV.ptr (h.length+1) 0 0),(7,AV.vec c.insts.length (aL (z9 u c mx))),(8,AV.own (h.length+2) 0 0 c.insts.length),(9,AV.int .i64 ((j:Nat):Int))],h++[⟨0,false,30,4,[.vec u.globals.length (g8 u.globals),.vec u.c4.length (g6 u.c4),.vec u.procs.length (l4 u.procs),.int .i64 u.main],0⟩,⟨0,false,34,3,[.vec c.insts.length (l7 c.insts),.vec c.calls.length (n4 c.calls),.vec c.roots.length (g8 c.roots)],0⟩,⟨0,false,3,1,E.map l5,0⟩]⟩) (.v ⟨0,(List.replicate c.insts.length 0),⟨rfl,⟨xP.start,by omega⟩⟩,rfl⟩) ?_;rintro m sl h' ⟨j,E,⟨hm,⟨hR,hj⟩⟩,hst⟩;obtain ⟨rfl,rfl⟩:=St.mk.inj hst;clear hst;have hEl:=hR.es.1;refine c1z ?_;refine u2z ?_ ?_
  ·intro e1 qe1;refine c3z ?_;have hr:=wc.rr _ (j0 (d:=0) (show j<c.roots.length by omega));refine c2z ?_;refine .c7 [2,3,4,7,8,9] ?_;refine .rz ?_;exact ⟨_,by omega,.v ⟨(j+1),(E.set (c.roots.getD j 0).toNat 1),⟨rfl,⟨hR.next hu wc (by omega),by omega⟩⟩,rfl⟩ (he:=t17) (hk:=t197)⟩
  intro e1 qe1;refine .exit ?_;obtain rfl:j=c.roots.length:=by omega
  have hG:=hR.all wc;change c9 ..;refine c16z ?_;refine c9.wC 10 rfl ?_;refine .aN (fun m st=>∃(i:Nat),(m=c.insts.length-i∧(i≤c.insts.length))∧st=⟨mkS 123 [(2,AV.int .i64 ((mx:Nat):Int)),(3,AV.ptr h.length 0 0),(4,AV.ptr (h.length+1) 0 0),(7,AV.vec c.insts.length (aL (z9 u c mx))),(8,AV.own (h.length+2) 0 0 c.insts.length),(10,AV.own (h.length+3) i 0 i),(11,AV.int .i64 ((i:Nat):Int))],h++[⟨0,false,30,4,[.vec u.globals.length (g8 u.globals),.vec u.c4.length (g6 u.c4),.vec u.procs.length (l4 u.procs),.int .i64 u.main],0⟩,⟨0,false,34,3,[.vec c.insts.length (l7 c.insts),.vec c.calls.length (n4 c.calls),.vec c.roots.length (g8 c.roots)],0⟩,⟨0,false,3,1,E.map l5,0⟩,s8 32 1 i (s9 (dM u c mx i))]⟩) (.v ⟨0,⟨rfl,by omega⟩,rfl⟩ (hs:=t8)) ?_ (he:=t76);rintro m sl h' ⟨i,⟨hm,hi0⟩,hst⟩;obtain ⟨rfl,rfl⟩:=St.mk.inj hst;clear hst;have hinl:(dM u c mx i).length=i:=w9;refine c1z ?_;refine u2z ?_ ?_
  ·intro e2 qe2;refine c3z ?_;have hi:i<c.insts.length:=by omega
   have hTi0:(bV u c mx (z9 u c mx) i).length=r9 u c i:=lC;refine .r ?_;refine c84z ?_;refine c25z ?_;refine .c7 [2,3,4,7,8,10,11] ?_;refine .rz ?_;exact ⟨_,by omega,.v ⟨(i+1),⟨rfl,by omega⟩,rfl⟩ (he:=t91) (hk:=t154) (hs:=t8)⟩
  intro e2 qe2;refine .exit ?_;obtain rfl:i=c.insts.length:=by omega
  refine c9.tA (t:=10) (γ:=h.length+3) (len:=c.insts.length) t36 t175 (by omega) (xR _) (kT (by decide) rfl) ?_;rw[cA];simp only[s3,List.set_cons_succ,List.set_cons_zero];generalize gK _ _ _ _ _=Ib;change c9 ..;refine .seq ?_;refine .c7 [3,4,8,10] ?_;refine c15z ?_;refine .aN (fun m st=>∃(E1:List Nat) (ag:Bool),(m=Td c E1 ag∧(FN u c mx E1∧(ag=false→E1=(gR u c mx))))∧st=⟨mkS 123 [(3,AV.ptr h.length 0 0),(4,AV.ptr (h.length+1) 0 0),(8,AV.own (h.length+2) 0 0 c.insts.length),(10,AV.vec c.insts.length (s9 (dM u c mx c.insts.length))),(12,AV.bool ag)],h++[⟨0,false,30,4,[.vec u.globals.length (g8 u.globals),.vec u.c4.length (g6 u.c4),.vec u.procs.length (l4 u.procs),.int .i64 u.main],0⟩,⟨0,false,34,3,[.vec c.insts.length (l7 c.insts),.vec c.calls.length (n4 c.calls),.vec c.roots.length (g8 c.roots)],0⟩,⟨0,false,3,1,E1.map l5,0⟩,Ib]⟩) (.v ⟨E,true,⟨rfl,⟨hG,fun hf=>by cases hf⟩⟩,rfl⟩) ?_;rintro m sl h' ⟨E1,ag,⟨hm,⟨hG1,hdone⟩⟩,hst⟩;obtain ⟨rfl,rfl⟩:=St.mk.inj hst;clear hst;refine c1z ?_;refine u2z ?_ ?_
  ·intro e3 qe3;refine c178z ?_;have hag:ag=true:=by assumption
   subst hag;refine .z ?_;refine c15z ?_;refine .aN (fun m st=>∃(E2:List Nat) (a2:Bool) (i:Nat),(m=c.insts.length-i∧(zL u c mx E1 E2 a2 i 0∧i≤c.insts.length))∧st=⟨mkS 123 [(3,AV.ptr h.length 0 0),(4,AV.ptr (h.length+1) 0 0),(8,AV.own (h.length+2) 0 0 c.insts.length),(10,AV.vec c.insts.length (s9 (dM u c mx c.insts.length))),(12,AV.bool a2),(13,AV.int .i64 ((i:Nat):Int))],h++[⟨0,false,30,4,[.vec u.globals.length (g8 u.globals),.vec u.c4.length (g6 u.c4),.vec u.procs.length (l4 u.procs),.int .i64 u.main],0⟩,⟨0,false,34,3,[.vec c.insts.length (l7 c.insts),.vec c.calls.length (n4 c.calls),.vec c.roots.length (g8 c.roots)],0⟩,⟨0,false,3,1,E2.map l5,0⟩,Ib]⟩) (.v ⟨E1,false,0,⟨rfl,⟨zL.start hG1,by omega⟩⟩,rfl⟩) ?_;rintro m sl h' ⟨E2,a2,i,⟨hm,⟨hJ,hi0⟩⟩,hst⟩;obtain ⟨rfl,rfl⟩:=St.mk.inj hst;clear hst;refine c1z ?_;refine u2z ?_ ?_
   ·intro e4 qe4;refine c3z ?_;have hi:i<c.insts.length:=by omega
    have w:=gE wc hi;have w1:=w.lo;have w2:=w.hi;have hsz:(c8 u (itI c i)).length≤1664:=q9 hu w;have hcll:(c.calls.getD i []).length=(c8 u (itI c i)).length:=wc.cll i hi;have hlI:r9 u c i=(c8 u (itI c i)).length:=rfl;have hTl:(bV u c mx (z9 u c mx) i).length=r9 u c i:=lC;have hcall:∀j,j<r9 u c i→(eV u c i j).op=2→0≤(c.calls.getD i []).getD j 0∧(c.calls.getD i []).getD j 0<c.insts.length:=fun j hp ho=>by have:=(wc.call i hi j hp).1 (.inl ho);exact ⟨this.1,this.2.1⟩
    refine c15z ?_;refine .aN (fun m st=>∃(E3:List Nat) (a3:Bool) (j:Nat),(m=r9 u c i-j∧(zL u c mx E1 E3 a3 i j∧j≤r9 u c i))∧st=⟨mkS 123 [(3,AV.ptr h.length 0 0),(4,AV.ptr (h.length+1) 0 0),(8,AV.own (h.length+2) 0 0 c.insts.length),(10,AV.vec c.insts.length (s9 (dM u c mx c.insts.length))),(12,AV.bool a3),(13,AV.int .i64 ((i:Nat):Int)),(14,AV.int .i64 ((j:Nat):Int))],h++[⟨0,false,30,4,[.vec u.globals.length (g8 u.globals),.vec u.c4.length (g6 u.c4),.vec u.procs.length (l4 u.procs),.int .i64 u.main],0⟩,⟨0,false,34,3,[.vec c.insts.length (l7 c.insts),.vec c.calls.length (n4 c.calls),.vec c.roots.length (g8 c.roots)],0⟩,⟨0,false,3,1,E3.map l5,0⟩,Ib]⟩) (.v ⟨E2,a2,0,⟨rfl,⟨hJ,by omega⟩⟩,rfl⟩) ?_;rintro m sl h' ⟨E3,a3,j,⟨hm,⟨hJ1,hj0⟩⟩,hst⟩;obtain ⟨rfl,rfl⟩:=St.mk.inj hst;clear hst;have hE3:E3.length=c.insts.length:=hJ1.g.es.1;refine c1z ?_;refine u2z ?_ ?_
    ·intro e5 qe5;refine c3z ?_;refine .seq ?_;have hjp:j<r9 u c i:=by omega
     have hop0:(eV u c i j).op=((c8 u (itI c i)).getD j g0).op:=rfl;refine c74z ?_;refine u2z ?_ ?_
     ·intro e6 qe6;refine c8z ?_;refine c121z ?_;exact ⟨_,by omega,.v ⟨E3,a3,(j+1),⟨rfl,⟨hJ1.skip (fun ho=>absurd ho (by rw[hop0];omega)),by omega⟩⟩,rfl⟩ (he:=t17) (hk:=t47)⟩
     intro e6 qe6;refine .sk ?_;refine .c7 [3,4,8,10,12,13,14] ?_;have hop:(eV u c i j).op=2:=by rw[hop0];omega
     obtain ⟨hc1,hc2⟩:=hcall j hjp hop;obtain ⟨q,hqe⟩:∃q:Nat,(c.calls.getD i []).getD j 0=(q:Int):=⟨_,(Int.toNat_of_nonneg hc1).symm⟩;have hqc:gZ c i j=q:=by unfold gZ;rw[hqe];rfl
     have hTi:=(nW (u:=u) (c:=c) (m:=mx) (z9 u c mx) i).get hjp;have hc3:=hc1;have hc4:=hc2;rw[hqe]at hc3 hc4;have hq3:q<c.insts.length:=by omega
     refine c134z ?_;refine .c7 [3,4,8,10,12,13,14,15] ?_;rw[hqe];have hfl:applyN ((bV u c mx (z9 u c mx) i).getD j []) (E3.getD i 0)<512:=Nat.lt_of_lt_of_le (mQ hTi _) (nU hk8).2;have hEq:E3.getD q 0<512:=hJ1.g.es.lt _ (j0 (by omega));have hne:(E3.getD q 0|||applyN ((bV u c mx (z9 u c mx) i).getD j []) (E3.getD i 0))=E3.getD q 0↔∀b,(yM u c mx E3 i j).testBit b=true→bt E3 (gZ c i j) b=true:=by rw[hqc];exact ML
     refine .ss z8 (mkP 18 [0,0,3,7,0,0,48,112,0,496,1008,0,0,6144,14336,32752,65535,131071] []) ?_;refine .k 8 [] ?_;refine .k 7 [] ?_;refine .ca rfl rfl (zK _ _ (hTi.lt hk8) (hJ1.g.es.lt _ (j0 (by omega))) (by have:=hTi.1;omega)) ?_;refine .n [] ?_;refine .c7 [3,4,8,10,12,13,14,15,16] ?_;refine .z ?_;refine u2z ?_ ?_
     ·intro e7 qe7;refine c2z ?_;refine c121z ?_;exact ⟨_,by omega,.v ⟨(E3.set q (E3.getD q 0|||yM u c mx E3 i j)),true,(j+1),⟨rfl,⟨t198,by omega⟩⟩,rfl⟩ (he:=t17) (hk:=t47)⟩
     intro e7 qe7;refine c5z ?_;refine c121z ?_;exact ⟨_,by omega,.v ⟨E3,a3,(j+1),⟨rfl,⟨hJ1.skip (fun _=>hne.1 (by omega)),by omega⟩⟩,rfl⟩ (he:=t17) (hk:=t47)⟩
    intro e5 qe5;refine .exit ?_;obtain rfl:j=r9 u c i:=by omega
    change c9 ..;refine .c7 [3,4,8,10,12,13] ?_;refine .rz ?_;exact ⟨_,by omega,.v ⟨E3,a3,(i+1),⟨rfl,⟨hJ1.fin,by omega⟩⟩,rfl⟩ (he:=t17) (hk:=t47)⟩
   intro e4 qe4;refine .exit ?_;obtain rfl:i=c.insts.length:=by omega
   have hlt:=MM hJ;exact ⟨_,by omega,.v ⟨E2,a2,⟨rfl,⟨hJ.g,fun hf=>by subst hf;exact hJ.done hu wc⟩⟩,rfl⟩ (he:=t17) (hk:=t47)⟩
  intro e3 qe3;refine c63z ?_;exact ⟨_,_,rfl,frz_N t36 (by omega) hG1.es.1,by (rw[hdone (by assumption)])⟩
end
section
end
section
end
end Go.Proofs.YtonbocmibeikmaaGreat
end
section
namespace Go.Proofs.YtonbocmibeikmaaGreat
open Go.Ab Go.Un
variable {h:c6}
theorem G4 {b0 b1:Blk}{l:c6}{L:List (List (List Nat))}{T:List (List Nat)}{m g n:Nat}(hn:L.length=n)(hx:T.length=m)(hl:n<100000):j9 cfg 32 (h++(b0::b1::s8 32 1 g (s9 L)::⟨0,false,32,1,[.vec m (aL T)],0⟩::l)) (.own (h.length+2) g 0 n) (.own (h.length+3) 0 0 1)=some (.own (h.length+2) (g+1) 0 (n+1),h++(b0::b1::s8 32 1 (g+1) (s9 (L++[T]))::⟨0,false,32,1,[.vec m (aL T)],0⟩::l)):=by subst hn hx;rw[aJ (C:=cfg) (K:=1) (m:=1) (new:=[.vec T.length (aL T)]) (zs:=s9 L) t36 rfl (by omega) (by simp[s9]) rfl (by omega) t155 rfl (by decide) (by omega),←oR,s3];rfl
theorem vC {L:List (List (List Nat))}{i:Nat}(h:i<L.length):List.take 1 (List.drop i (s9 L))=[.vec (L.getD i []).length (aL (L.getD i []))]:=MO h
theorem rL {T:List (List Nat)}(h:0<T.length):List.take 1 (aL T)=[.vec (T.getD 0 []).length ((T.getD 0 []).map l5)]:=nX (i:=0) h
def OW:List Int→Int→Int→Int
  | [],_,_ => -1
  | x::l,v,k=>if x=v then k else OW l v (k+1)
theorem YL {v:Int}:∀{X:List Int} {i:Nat} {k:Int},(∀d,d<i→X.getD d 0≠v)→i<X.length→X.getD i 0=v→OW X v k=k+i
  | [],i,k,_,hi,_=>by simp at hi
  | x::l,0,k,_,_,he=>by
    have:x=v:=by simpa using he
    simp[OW,this]
  | x::l,i+1,k,hn,hi,he=>by
    have h0:x≠v:=by simpa using hn 0 (by omega)
    rw[OW,if_neg h0,YL (X:=l) (i:=i) (fun d hd=>by simpa using hn (d+1) (by omega)) (by simpa using hi) (by simpa using he)];omega
theorem YM {v:Int}:∀{X:List Int} {k:Int},(∀d,d<X.length→X.getD d 0≠v)→OW X v k = -1
  | [],k,_=>rfl
  | x::l,k,hn=>by
    have h0:x≠v:=by simpa using hn 0 (by simp)
    rw[OW,if_neg h0];exact YM fun d hd=>by simpa using hn (d+1) (by simpa using hd)
theorem MQ {v:Int}:∀{X:List Int} {k:Int},0≤k→(0≤OW X v k↔v∈X)
  | [],k,_=>by simp[OW]
  | x::l,k,hk=>by
    rw[OW];by_cases e:x=v
    · simp[e,hk]
    · rw[if_neg e,MQ (X:=l) (by omega),List.mem_cons]
      exact ⟨.inr,fun h=>h.elim (fun h=>absurd h.symm e) id⟩
section
variable {u:Un}{c:Clo}{mx:Nat}
end
attribute [local go_sem] rd bH r7 u6 p7 n6 l8 z6 o5 Int.natCast_nonneg Int.natCast_inj aD cW cJ cX gD fV nX kC aZ kD pR dL jE jF fW List.length_set List.length_replicate Int.toNat_natCast_add_one eG wrap64 List.length_map cL cY fP fQ aZ u4 w9 gS gT bQ o5 orN lP beq_self_eq_true bne_self_eq_false yL rL
section
attribute [local go_sem] G4
end
section
attribute [local go_sem] G4
theorem c_tabR {u:Un}{c:Clo}(hu:WU u)(wc:WC u c){mx:Nat}(hmx:mx<u.c4.length):CB 38 [.agg [.vec u.globals.length (g8 u.globals),.vec u.c4.length (g6 u.c4),.vec u.procs.length (l4 u.procs),.int .i64 u.main],.agg [.vec c.insts.length (l7 c.insts),.vec c.calls.length (n4 c.calls),.vec c.roots.length (g8 c.roots)],.int .i64 ((mx:Nat):Int)] h (.tup [.vec c.insts.length (s9 (dM u c mx c.insts.length)),.vec c.insts.length ((gR u c mx).map l5)]):=by
  refine .bz Tryz.f38 36 ?_;have hwl:=wc.len;have hk8:kM u mx≤8:=dV;have hk9:nD (u.c4.getD mx aA)≤8:=hk8;have hml:=hu.ml;have hrl:=wc.rl;have hrc:c.roots.length≤c.insts.length:=by have:=aT wc.rs wc.rr;omega
  have hel:(gR u c mx).length=c.insts.length:=bQ;have hsl:(z9 u c mx).length=c.insts.length:=dC.1;have hcl:=wc.cl;refine c283z ?_;refine c269z ?_;refine .aN (fun m st=>∃(i:Nat),(m=c.insts.length-i∧(i≤c.insts.length))∧st=⟨mkS 36 [(2,AV.int .i64 ((mx:Nat):Int)),(3,AV.ptr h.length 0 0),(4,AV.ptr (h.length+1) 0 0),(8,AV.vec c.insts.length (aL (z9 u c mx))),(9,AV.own (h.length+2) i 0 i),(10,AV.int .i64 ((i:Nat):Int))],h++[⟨0,false,30,4,[.vec u.globals.length (g8 u.globals),.vec u.c4.length (g6 u.c4),.vec u.procs.length (l4 u.procs),.int .i64 u.main],0⟩,⟨0,false,34,3,[.vec c.insts.length (l7 c.insts),.vec c.calls.length (n4 c.calls),.vec c.roots.length (g8 c.roots)],0⟩,s8 32 1 i (s9 (dM u c mx i))]⟩) (.v ⟨0,⟨rfl,by omega⟩,rfl⟩ (hs:=t8)) ?_ (he:=t76);rintro m sl h' ⟨i,⟨hm,hi0⟩,hst⟩;obtain ⟨rfl,rfl⟩:=St.mk.inj hst;clear hst;have hinl:(dM u c mx i).length=i:=w9;refine c1z ?_;refine u2z ?_ ?_
  ·intro e1 qe1;refine c3z ?_;have hi:i<c.insts.length:=by omega
   have hTi0:(bV u c mx (z9 u c mx) i).length=r9 u c i:=lC;refine .r ?_;refine c84z ?_;refine c169z ?_;refine .rz ?_;exact ⟨_,by omega,.v ⟨(i+1),⟨rfl,by omega⟩,rfl⟩ (he:=t91) (hk:=t111) (hs:=t8)⟩
  intro e1 qe1;refine .exit ?_;obtain rfl:i=c.insts.length:=by omega
  refine c9.tA (t:=9) (γ:=h.length+2) (len:=c.insts.length) t36 t175 (by omega) (xR _) (kT (by decide) rfl) ?_;rw[cA];simp only[s3,List.set_cons_succ,List.set_cons_zero];generalize gK _ _ _ _ _=Ib;change c9 ..;refine c277z ?_;refine .n ?_;exact .ret (.ex (hq:=by rfl))
end
section
attribute [local go_sem] vC
end
theorem c_fullN {k:Nat}(hk:k≤8):CB 29 [.int .i64 ((k:Nat):Int)] h (.int .i64 ((2^(k+1)-1:Nat):Int)):=by refine .bz Tryz.f29 7 ?_;have h5:=nU hk;refine .z ?_;refine c28z ?_;exact ⟨[],_,(List.append_nil _).symm,t42,by (show AV.int .i64 _=_;congr 1;omega)⟩
theorem VE {X:List Int}(hl:X.length<1000000)(v:Int):CB 149 [.vec X.length (g8 X),.int .i64 v] h (.int .i64 (OW X v 0)):=by
  refine .bz Tryz.f149 19 ?_;refine c16z ?_;refine .aR (fun m st=>∃(i:Nat),(m=X.length-i∧((∀d,d<i→X.getD d 0≠v)∧i≤X.length))∧st=⟨mkS 19 [(0,AV.vec X.length (g8 X)),(1,AV.int .i64 v),(7,AV.int .i64 ((X.length:Nat):Int)),(8,AV.int .i64 ((i:Nat):Int))],h⟩) _ (.v ⟨0,⟨rfl,⟨t78,by omega⟩⟩,rfl⟩) ?_;rintro m sl h' ⟨i,⟨hm,⟨hI,hi0⟩⟩,hst⟩;obtain ⟨rfl,rfl⟩:=St.mk.inj hst;refine c23z ?_;refine u2z ?_ ?_
  ·intro e1 qe1;refine c3z ?_;refine c75z ?_;refine u2z ?_ ?_
   ·intro e2 qe2;refine .c7 [5] ?_;refine c28z ?_;exact ⟨[],_,(List.append_nil _).symm,t42,t146⟩
   intro e2 qe2;refine c214z ?_;refine .rz ?_;exact ⟨_,by omega,.v ⟨(i+1),⟨rfl,⟨(fun d hd=>if e:d=i then by rw[e];omega else hI d (by omega)),by omega⟩⟩,rfl⟩⟩
  intro e1 qe1;refine c63z ?_;exact ⟨[],_,(List.append_nil _).symm,t42,t146⟩
theorem FF {X:List Int}(hl:X.length<1000000)(v:Int):CB 118 [.vec X.length (g8 X),.int .i64 v] h (.bool (decide (v∈X))):=by refine .bz Tryz.f118 9 ?_;refine c209z ?_;refine .ca rfl rfl (VE hl v) ?_;refine c105z ?_;exact ⟨[],_,(List.append_nil _).symm,t42,by (exact congrArg AV.bool (by rw[decide_eq_decide];exact MQ (Int.le_refl 0)))⟩
end Go.Proofs.YtonbocmibeikmaaGreat
end
section
namespace Go.Un
open Go.Ab
noncomputable def upto (p:Nat→Prop):Nat→Nat
 | 0=>0
 | n+1=>open Classical in if upto p n=n∧p n then n+1 else upto p n
theorem rM {p:Nat→Prop}:∀{n:Nat},(∀i,i<n→p i)→upto p n=n
 | 0,_=>rfl
 | n+1,h=>by rw[upto,if_pos ⟨rM fun i hi=>h i (by omega),h n (by omega)⟩]
theorem G5 {p:Nat→Prop}{k:Nat}(h:∀i,i<k→p i)(hk:¬p k):∀{n:Nat},k<n→upto p n=k
 | 0,hn=>by omega
 | n+1,hn=>by
  by_cases e:k=n
  ·subst e;rw[upto,if_neg (fun hh=>hk hh.2),rM h]
  ·rw[upto,G5 h hk (n:=n) (by omega),if_neg (fun hh=>e hh.1)]
theorem X0 {p:Nat→Prop}:∀{n:Nat},upto p n≤n
 | 0=>Nat.le_refl _
 | n+1=>by
  rw[upto];split
  ·exact Nat.le_refl _
  ·exact Nat.le_succ_of_le X0
theorem CG {p:Nat→Prop}:∀{n:Nat},upto p n=n→∀i,i<n→p i
 | 0,_,i,hi=>by omega
 | n+1,h,i,hi=>by
  rw[upto]at h;split at h
  ·rename_i hh;by_cases e:i=n
   ·rw[e];exact hh.2
   ·exact CG hh.1 i (by omega)
  ·have:=X0 (p:=p) (n:=n);omega
noncomputable def dcd (p:Prop):Bool:=@decide p (Classical.propDecidable p)
theorem tS {p:Prop}(h:p):dcd p=true:=@decide_eq_true p (Classical.propDecidable p) h
theorem nY {p:Prop}(h:¬p):dcd p=false:=@decide_eq_false p (Classical.propDecidable p) h
theorem lD {p:Prop}:dcd p=true↔p:=@decide_eq_true_iff p (Classical.propDecidable p)
theorem dcd_eq {p:Prop}[Decidable p]:dcd p=decide p:=by
 by_cases h:p
 ·rw[tS h,decide_eq_true h]
 ·rw[nY h,decide_eq_false h]
noncomputable def ixB (p:Nat→Bool)(n:Nat):Int:=if upto (fun j=>p j=false) n<n then (upto (fun j=>p j=false) n:Nat) else -1
variable {p:Nat→Bool}{n:Nat}
theorem ixB_at {i:Nat}(h:∀d,d<i→p d=false)(hi:i<n)(hp:p i=true):ixB p n=i:=by have e:upto (fun j=>p j=false) n=i:=G5 h (by rw[hp];decide) hi;rw[ixB,e,if_pos hi]
theorem YN (h:∀d,d<n→p d=false):ixB p n = -1:=by have e:upto (fun j=>p j=false) n=n:=rM h;rw[ixB,e,if_neg (Nat.lt_irrefl _)]
theorem ixB_iff:0≤ixB p n↔∃j,j<n∧p j=true:=by
 by_cases h:∀d,d<n→p d=false
 ·rw[YN h];constructor
  ·intro h;omega
  ·rintro ⟨j,hj,hp⟩;rw[h j hj]at hp;cases hp
 ·have h1:upto (fun j=>p j=false) n<n:=by have:=X0 (p:=fun j=>p j=false) (n:=n);have h2:upto (fun j=>p j=false) n≠n:=fun e=>h (CG e);omega
  rw[ixB,if_pos h1];refine ⟨fun _=>Classical.byContradiction fun hn=>h fun d hd=>?_,fun _=>by omega⟩;cases hb:p d
  ·rfl
  ·exact absurd ⟨d,hd,hb⟩ hn
def errU (n e:Int)(k:Nat):Int:=if (k:Int)=n then 0 else e
section
variable (u:Un)(c:Clo)(m:Nat)
structure Shp (L:List (List (List Nat)))(E:List Nat):Prop where
 len:L.length=c.insts.length
 tb:∀i,i<c.insts.length→Tb (kM u m) (r9 u c i) (L.getD i [])
 es:Es u c m E
noncomputable def exS (L:List (List (List Nat))):List (List Nat):=(List.range c.insts.length).map fun i=>yK u c m i (L.getD i []) (r9 u c i)
def HdP (L:List (List (List Nat)))(E:List Nat)(i:Nat):Prop:=jA (dhN (kM u m) 0) ((L.getD i []).getD 0 [])∧((i:Int)∈c.roots→E.getD i 0%2=1)
def AtC (L:List (List (List Nat)))(E:List Nat)(i pc:Nat):Prop:=(eV u c i pc).op=2→∀b,(applyN ((L.getD i []).getD pc []) (E.getD i 0)).testBit b=true→bt E (gZ c i pc) b=true
def AtN (L:List (List (List Nat)))(i pc:Nat):Prop:=∀q∈nxI u c i pc,jA (n5 ((L.getD i []).getD pc []) (stS u c m (exS u c m L) i pc)) ((L.getD i []).getD q.toNat [])
def Hc (L:List (List (List Nat)))(E:List Nat)(i:Nat):Prop:=HdP u c m L E i∧∀pc,pc<r9 u c i→AtC u c L E i pc∧AtN u c m L i pc
noncomputable def He (L:List (List (List Nat)))(E:List Nat):Nat:=upto (Hc u c m L E) c.insts.length
end
section
variable {u:Un}{c:Clo}{m:Nat}
theorem MR (L:List (List (List Nat))):Tb (kM u m) c.insts.length (exS u c m L):=by refine ⟨by simp[exS],fun r hr=>?_⟩;obtain ⟨i,_,rfl⟩:=List.mem_map.1 hr;exact pP _ _ _
theorem sN {L:List (List (List Nat))}{i:Nat}(hi:i<c.insts.length):(exS u c m L).getD i []=yK u c m i (L.getD i []) (r9 u c i):=by simp[exS,List.getD,hi]
section
variable {L:List (List (List Nat))}{E:List Nat}
end
end
end Go.Un
end
section
namespace Go.Proofs.YtonbocmibeikmaaGreat
open Go.Ab Go.Un
section
variable {h l:c6}{L:List (List (List Nat))}{E:List Nat}
end
variable {u:Un}{c:Clo}{L:List (List (List Nat))}{E:List Nat}{i pc:Nat}
theorem MS {q:Nat}(ho:(eV u c i pc).op=2)(hq:gZ c i pc=q)(h1:applyN ((L.getD i []).getD pc []) (E.getD i 0)<512)(h2:E.getD q 0<512):bits .andNot .i64 ((applyN ((L.getD i []).getD pc []) (E.getD i 0):Nat):Int) (((E.getD q 0:Nat)):Int)=0↔AtC u c L E i pc:=by subst hq;rw[andNotN h1 h2];exact ⟨fun h _=>h,fun h=>h ho⟩
theorem MT (ho:¬(eV u c i pc).op=2):AtC u c L E i pc:=fun h=>absurd h ho
variable {mx:Nat}
theorem atN_ix:(∃j,j<(o3 (eV u c i pc) pc).length∧(! decide (jA (n5 ((L.getD i []).getD pc []) (stS u c mx (exS u c mx L) i pc)) ((L.getD i []).getD ((o3 (eV u c i pc) pc).getD j 0).toNat [])))=true)↔¬AtN u c mx L i pc:=by
  constructor
  · rintro ⟨j,hj,hw⟩ h
    have h1:jA (n5 ((L.getD i []).getD pc []) (stS u c mx (exS u c mx L) i pc)) ((L.getD i []).getD ((o3 (eV u c i pc) pc).getD j 0).toNat []):=h _ (j0 (d:=0) hj);rw[decide_eq_true h1]at hw;cases hw
  · intro h
    refine Classical.byContradiction fun hn=>h fun q hq=>?_;obtain ⟨j,hj,rfl⟩:=List.getElem_of_mem hq;refine Classical.byContradiction fun hw=>hn ⟨j,hj,?_⟩;have e:(o3 (eV u c i pc) pc).getD j 0=(nxI u c i pc)[j]:=by simp[List.getD,nxI,show j<(o3 (eV u c i pc) pc).length from hj]
    rw[e,decide_eq_false hw];rfl
theorem clo_f (hp:pc<r9 u c i)(h:¬(AtC u c L E i pc∧AtN u c mx L i pc)):¬Hc u c mx L E i:=fun hc=>h (hc.2 pc hp)
attribute [local go_sem] rd bH r7 u6 p7 n6 l8 z6 o5 Int.natCast_nonneg Int.natCast_inj aD cW cJ cX gD fV nX kC aZ kD pR dL jE jF fW List.length_set List.length_replicate Int.toNat_natCast_add_one eG wrap64 List.length_map cL cY fP fQ aZ u4 w9 gS gT bQ o5 orN lP beq_self_eq_true bne_self_eq_false yL rL vC Bool.not_not
variable {h:c6}
theorem c_gcode (hu:WU u)(wc:WC u c)(hmx:mx<u.c4.length)(hS:Shp u c mx L E)(hi:i<c.insts.length):CB 113 [.agg [.vec u.globals.length (g8 u.globals),.vec u.c4.length (g6 u.c4),.vec u.procs.length (l4 u.procs),.int .i64 u.main,.vec c.insts.length (l7 c.insts),.vec c.calls.length (n4 c.calls),.vec c.roots.length (g8 c.roots),.int .i64 ((mx:Nat):Int),.vec c.insts.length (s9 L),.vec c.insts.length (E.map l5)],.int .i64 ((i:Nat):Int)] h (.vec (c8 u (itI c i)).length (s5 (c8 u (itI c i)))):=by
  refine .bz Tryz.f113 18 ?_;have hwl:=wc.len;have hk8:kM u mx≤8:=dV;have hk9:nD (u.c4.getD mx aA)≤8:=hk8;have hml:=hu.ml;have hrl:=wc.rl;have hrc:c.roots.length≤c.insts.length:=by have:=aT wc.rs wc.rr;omega
  have hcl:=wc.cl;have hLl:=hS.len;have hEl:=hS.es.1;have w:=gE wc hi;have w1:=w.lo;have w2:=w.hi;have hsz:(c8 u (itI c i)).length≤1664:=q9 hu w;have hcll:(c.calls.getD i []).length=(c8 u (itI c i)).length:=wc.cll i hi;have hlI:r9 u c i=(c8 u (itI c i)).length:=rfl;have hT:=hS.tb i hi;have hTl:(L.getD i []).length=r9 u c i:=hT.1;have hlp:1≤(c8 u (itI c i)).length:=(dU hu w).1;refine .z ?_;refine .ss z8 (mkP 14 [0,1,3,0,8,24,0,120,248,504,1023,2047,4095,8191] []) ?_;refine c47z ?_;exact .ret (.ex (hq:=by rfl))
theorem c_gexit (hu:WU u)(wc:WC u c)(hmx:mx<u.c4.length)(hS:Shp u c mx L E)(hi:i<c.insts.length):CB 150 [.agg [.vec u.globals.length (g8 u.globals),.vec u.c4.length (g6 u.c4),.vec u.procs.length (l4 u.procs),.int .i64 u.main,.vec c.insts.length (l7 c.insts),.vec c.calls.length (n4 c.calls),.vec c.roots.length (g8 c.roots),.int .i64 ((mx:Nat):Int),.vec c.insts.length (s9 L),.vec c.insts.length (E.map l5)],.int .i64 ((i:Nat):Int)] h (bH (yK u c mx i (L.getD i []) (r9 u c i))):=by
  refine .bz Tryz.f150 43 ?_;have hwl:=wc.len;have hk8:kM u mx≤8:=dV;have hk9:nD (u.c4.getD mx aA)≤8:=hk8;have hml:=hu.ml;have hrl:=wc.rl;have hrc:c.roots.length≤c.insts.length:=by have:=aT wc.rs wc.rr;omega
  have hcl:=wc.cl;have hLl:=hS.len;have hEl:=hS.es.1;have w:=gE wc hi;have w1:=w.lo;have w2:=w.hi;have hsz:(c8 u (itI c i)).length≤1664:=q9 hu w;have hcll:(c.calls.getD i []).length=(c8 u (itI c i)).length:=wc.cll i hi;have hlI:r9 u c i=(c8 u (itI c i)).length:=rfl;have hT:=hS.tb i hi;have hTl:(L.getD i []).length=r9 u c i:=hT.1;have hlp:1≤(c8 u (itI c i)).length:=(dU hu w).1;refine .z ?_;refine .s ?_;refine .e 7 ?_;refine .ca rfl rfl (MJ u mx) ?_;refine c27z ?_;refine .c7 [1,2,5] ?_;refine c9.Fc (t:=5) (γ:=(h.length+1)) (len:=(kM u mx+1)) t36 (by simp) (by omega) (kT (by decide) rfl) ?_;rw[cA];simp only[s3,List.set_cons_succ,List.set_cons_zero];generalize (⟨0,false,3,1,(List.replicate (kM u mx+1) 0).map l5,kM u mx+1⟩:Blk)=Vb;refine c177z ?_;refine c147z ?_;refine .aN (fun m st=>∃(j:Nat),(m=r9 u c i-j∧(j≤r9 u c i))∧st=⟨mkS 43 [(1,AV.int .i64 ((i:Nat):Int)),(2,AV.ptr h.length 0 0),(5,bH (yK u c mx i (L.getD i []) j)),(20,AV.vec (c8 u (itI c i)).length (s5 (c8 u (itI c i)))),(21,AV.int .i64 (((c8 u (itI c i)).length:Nat):Int)),(22,AV.int .i64 ((j:Nat):Int))],h++[⟨0,false,114,10,[.vec u.globals.length (g8 u.globals),.vec u.c4.length (g6 u.c4),.vec u.procs.length (l4 u.procs),.int .i64 u.main,.vec c.insts.length (l7 c.insts),.vec c.calls.length (n4 c.calls),.vec c.roots.length (g8 c.roots),.int .i64 ((mx:Nat):Int),.vec c.insts.length (s9 L),.vec c.insts.length (E.map l5)],0⟩,Vb]⟩) (.v ⟨0,⟨rfl,by omega⟩,rfl⟩ (hs:=t29)) ?_;rintro m sl h' ⟨j,⟨hm,hj⟩,hst⟩;obtain ⟨rfl,rfl⟩:=St.mk.inj hst;clear hst;have hop:(eV u c i j).op=((c8 u (itI c i)).getD j g0).op:=rfl;refine c23z ?_;refine u2z ?_ ?_
  ·intro e1 qe1;refine c3z ?_;refine c75z ?_;refine u2z ?_ ?_
   ·intro e2 qe2;refine .c7 [1,2,5,6,20,21,22] ?_;have hTj:=hT.get (i:=j) (by omega);have hEj:=pP (u:=u) (c:=c) (m:=mx) i (L.getD i []) j;refine c98z ?_;refine .e 2 ?_;refine .ca rfl rfl (c_union _ _ (hTj.lt hk8) (hEj.lt hk8) (by have:=hEj.1;omega) t213) ?_;refine c25z ?_;refine .c7 [1,2,5,20,21,22] ?_;refine .rz ?_;exact ⟨_,by omega,.v ⟨(j+1),⟨rfl,by omega⟩,rfl⟩ (he:=t17) (hs:=t29)⟩
   intro e2 qe2;refine c5z ?_;refine .c7 [1,2,5,20,21,22] ?_;refine .rz ?_;exact ⟨_,by omega,.v ⟨(j+1),⟨rfl,by omega⟩,rfl⟩ (he:=t17) (hs:=t29)⟩
  intro e1 qe1;refine .exit ?_;obtain rfl:j=r9 u c i:=by omega
  change c9 ..;refine .z ?_;exact .ret (.ex (hq:=by rfl))
theorem MU (hu:WU u)(wc:WC u c)(hmx:mx<u.c4.length)(hS:Shp u c mx L E)(hi:i<c.insts.length){n:Nat}(hn:(L.getD i []).length=n):CB 122 [.agg [.vec u.globals.length (g8 u.globals),.vec u.c4.length (g6 u.c4),.vec u.procs.length (l4 u.procs),.int .i64 u.main],.agg [.vec c.insts.length (l7 c.insts),.vec c.calls.length (n4 c.calls),.vec c.roots.length (g8 c.roots)],.int .i64 ((mx:Nat):Int),.vec n (aL (L.getD i [])),.int .i64 ((i:Nat):Int)] h (bH (yK u c mx i (L.getD i []) (r9 u c i))):=by
  refine .bz Tryz.f122 50 ?_;have hwl:=wc.len;have hk8:kM u mx≤8:=dV;have hk9:nD (u.c4.getD mx aA)≤8:=hk8;have hml:=hu.ml;have hrl:=wc.rl;have hrc:c.roots.length≤c.insts.length:=by have:=aT wc.rs wc.rr;omega
  have hcl:=wc.cl;have hLl:=hS.len;have hEl:=hS.es.1;have w:=gE wc hi;have w1:=w.lo;have w2:=w.hi;have hsz:(c8 u (itI c i)).length≤1664:=q9 hu w;have hcll:(c.calls.getD i []).length=(c8 u (itI c i)).length:=wc.cll i hi;have hlI:r9 u c i=(c8 u (itI c i)).length:=rfl;have hT:=hS.tb i hi;have hTl:(L.getD i []).length=r9 u c i:=hT.1;have hlp:1≤(c8 u (itI c i)).length:=(dU hu w).1;refine .z ?_;refine c168z ?_;refine c27z ?_;refine .c7 [3,4,5,6,11] ?_;refine c9.Fc (t:=11) (γ:=(h.length+2)) (len:=(kM u mx+1)) t36 (by simp) (by omega) (kT (by decide) rfl) ?_;rw[cA];simp only[s3,List.set_cons_succ,List.set_cons_zero];generalize (⟨0,false,3,1,(List.replicate (kM u mx+1) 0).map l5,kM u mx+1⟩:Blk)=Vb;refine c15z ?_;refine .aN (fun m st=>∃(j:Nat),(m=r9 u c i-j∧(j≤r9 u c i))∧st=⟨mkS 50 [(3,AV.vec n (aL (L.getD i []))),(4,AV.int .i64 ((i:Nat):Int)),(5,AV.ptr h.length 0 0),(6,AV.ptr (h.length+1) 0 0),(11,bH (yK u c mx i (L.getD i []) j)),(12,AV.int .i64 ((j:Nat):Int))],h++[⟨0,false,30,4,[.vec u.globals.length (g8 u.globals),.vec u.c4.length (g6 u.c4),.vec u.procs.length (l4 u.procs),.int .i64 u.main],0⟩,⟨0,false,34,3,[.vec c.insts.length (l7 c.insts),.vec c.calls.length (n4 c.calls),.vec c.roots.length (g8 c.roots)],0⟩,Vb]⟩) (.v ⟨0,⟨rfl,by omega⟩,rfl⟩ (hs:=t29)) ?_;rintro m sl h' ⟨j,⟨hm,hj⟩,hst⟩;obtain ⟨rfl,rfl⟩:=St.mk.inj hst;clear hst;have hop:(eV u c i j).op=((c8 u (itI c i)).getD j g0).op:=rfl;refine c1z ?_;refine u2z ?_ ?_
  ·intro e1 qe1;refine c3z ?_;refine c74z ?_;refine u2z ?_ ?_
   ·intro e2 qe2;refine .c7 [3,4,5,6,11,12] ?_;have hTj:=hT.get (i:=j) (by omega);have hEj:=pP (u:=u) (c:=c) (m:=mx) i (L.getD i []) j;refine .r ?_;refine .e 5 ?_;refine .ca rfl rfl (vB _ _ (hTj.lt hk8) (hEj.lt hk8) (by have:=hEj.1;omega) t213) ?_;refine c25z ?_;refine .rz ?_;exact ⟨_,by omega,.v ⟨(j+1),⟨rfl,by omega⟩,rfl⟩ (he:=t17) (hs:=t29)⟩
   intro e2 qe2;refine c5z ?_;refine .c7 [3,4,5,6,11,12] ?_;refine .rz ?_;exact ⟨_,by omega,.v ⟨(j+1),⟨rfl,by omega⟩,rfl⟩ (he:=t17) (hs:=t29)⟩
  intro e1 qe1;refine .exit ?_;obtain rfl:j=r9 u c i:=by omega
  change c9 ..;refine .c7 [11] ?_;refine .z ?_;exact .ret (.ex (hq:=by rfl))
theorem YO (hu:WU u)(wc:WC u c)(hmx:mx<u.c4.length)(hS:Shp u c mx L E)(hi:i<c.insts.length){a:List Nat}(ha:Rl (kM u mx) a){q:Int}(hq1:0≤q)(hq2:q.toNat<r9 u c i)(l:c6):CB 151 [.int .i64 q,.ptr (h.length+2) 0 0,.ptr h.length 0 0,.ptr (h.length+1) 0 0] (h++(⟨0,false,114,10,[.vec u.globals.length (g8 u.globals),.vec u.c4.length (g6 u.c4),.vec u.procs.length (l4 u.procs),.int .i64 u.main,.vec c.insts.length (l7 c.insts),.vec c.calls.length (n4 c.calls),.vec c.roots.length (g8 c.roots),.int .i64 ((mx:Nat):Int),.vec c.insts.length (s9 L),.vec c.insts.length (E.map l5)],0⟩::⟨0,false,3,1,[.int .i64 ((i:Nat):Int)],0⟩::⟨0,false,22,1,[bH a],0⟩::l)) (.bool (! decide (jA a ((L.getD i []).getD q.toNat [])))):=by
  refine .bz Tryz.f151 18 ?_;have hwl:=wc.len;have hk8:kM u mx≤8:=dV;have hk9:nD (u.c4.getD mx aA)≤8:=hk8;have hml:=hu.ml;have hrl:=wc.rl;have hrc:c.roots.length≤c.insts.length:=by have:=aT wc.rs wc.rr;omega
  have hcl:=wc.cl;have hLl:=hS.len;have hEl:=hS.es.1;have w:=gE wc hi;have w1:=w.lo;have w2:=w.hi;have hsz:(c8 u (itI c i)).length≤1664:=q9 hu w;have hcll:(c.calls.getD i []).length=(c8 u (itI c i)).length:=wc.cll i hi;have hlI:r9 u c i=(c8 u (itI c i)).length:=rfl;have hT:=hS.tb i hi;have hTl:(L.getD i []).length=r9 u c i:=hT.1;have hlp:1≤(c8 u (itI c i)).length:=(dU hu w).1;have hTq:=hT.get hq2;refine .z ?_;refine .ss z8 (mkP 13 [0,0,2,6,0,30,62,0,254,510,1023,2047,4095] []) ?_;refine .k 8 [] ?_;refine .k 2 [] ?_;refine .ca rfl rfl (P0 _ _ (by have:=ha.1;omega) (by have:=ha.1;have:=hTq.1;omega)) ?_;refine .n [] ?_;exact .ret (.ex (hq:=by rfl))
variable {caps:List AV}
theorem c_gix {X:List Int}(hl:X.length<100000){p:Nat→Bool}(hF:∀j,j<X.length→CB 151 (.int .i64 (X.getD j 0)::caps) h (.bool (p j))):CB 148 [.vec X.length (g8 X),.fn (.func 151) [] caps] h (.int .i64 (ixB p X.length)):=by
  refine .bz Tryz.f148 19 ?_;refine c16z ?_;refine .aR (fun m st=>∃(i:Nat),(m=X.length-i∧((∀d,d<i→p d=false)∧i≤X.length))∧st=⟨mkS 19 [(0,AV.vec X.length (g8 X)),(1,AV.fn (.func 151) [] caps),(7,AV.int .i64 ((X.length:Nat):Int)),(8,AV.int .i64 ((i:Nat):Int))],h⟩) _ (.v ⟨0,⟨rfl,⟨t78,by omega⟩⟩,rfl⟩) ?_;rintro m sl h' ⟨i,⟨hm,⟨hI,hi0⟩⟩,hst⟩;obtain ⟨rfl,rfl⟩:=St.mk.inj hst;refine c23z ?_;refine u2z ?_ ?_
  ·intro e1 qe1;refine c131z ?_;refine c29z ?_;refine o4.cq rfl (rfl) hb151 (hF _ (by omega)) ?_;refine .nil ?_;refine u2z ?_ ?_
   ·intro e2 qe2;refine .c7 [5] ?_;refine c28z ?_;exact ⟨[],_,(List.append_nil _).symm,t42,t67⟩
   intro e2 qe2;refine c214z ?_;refine .rz ?_;exact ⟨_,by omega,.v ⟨(i+1),⟨rfl,⟨(fun d hd=>if e:d=i then by rw[e];assumption else hI d (by omega)),by omega⟩⟩,rfl⟩⟩
  intro e1 qe1;refine c63z ?_;exact ⟨[],_,(List.append_nil _).symm,t42,t67⟩
theorem c_gcf {X:List Int}(hl:X.length<100000){p:Nat→Bool}(hF:∀j,j<X.length→CB 151 (.int .i64 (X.getD j 0)::caps) h (.bool (p j))):CB 116 [.vec X.length (g8 X),.fn (.func 151) [] caps] h (.bool (dcd (∃j,j<X.length∧p j=true))):=by refine .bz Tryz.f116 9 ?_;refine c209z ?_;refine .ca rfl rfl (c_gix hl hF) ?_;refine c105z ?_;exact ⟨[],_,(List.append_nil _).symm,t42,t132⟩
theorem c_gat (hu:WU u)(wc:WC u c)(hmx:mx<u.c4.length)(hS:Shp u c mx L E)(hi:i<c.insts.length)(hp:pc<r9 u c i):CB 119 [.agg [.vec u.globals.length (g8 u.globals),.vec u.c4.length (g6 u.c4),.vec u.procs.length (l4 u.procs),.int .i64 u.main,.vec c.insts.length (l7 c.insts),.vec c.calls.length (n4 c.calls),.vec c.roots.length (g8 c.roots),.int .i64 ((mx:Nat):Int),.vec c.insts.length (s9 L),.vec c.insts.length (E.map l5)],.int .i64 ((i:Nat):Int),.int .i64 ((pc:Nat):Int)] h (.bool (dcd (AtC u c L E i pc∧AtN u c mx L i pc))):=by
  refine .bz Tryz.f119 90 ?_;have hwl:=wc.len;have hk8:kM u mx≤8:=dV;have hk9:nD (u.c4.getD mx aA)≤8:=hk8;have hml:=hu.ml;have hrl:=wc.rl;have hrc:c.roots.length≤c.insts.length:=by have:=aT wc.rs wc.rr;omega
  have hcl:=wc.cl;have hLl:=hS.len;have hEl:=hS.es.1;have w:=gE wc hi;have w1:=w.lo;have w2:=w.hi;have hsz:(c8 u (itI c i)).length≤1664:=q9 hu w;have hcll:(c.calls.getD i []).length=(c8 u (itI c i)).length:=wc.cll i hi;have hlI:r9 u c i=(c8 u (itI c i)).length:=rfl;have hT:=hS.tb i hi;have hTl:(L.getD i []).length=r9 u c i:=hT.1;have hlp:1≤(c8 u (itI c i)).length:=(dU hu w).1;have hpro:=OV (m:=mx) hu wc (MR L) hi;have hst1:=hpro.st pc hp;have hop:eV u c i pc=(c8 u (itI c i)).getD pc g0:=rfl;have hTp:=hT.get hp;have hcall:(eV u c i pc).op=2→0≤(c.calls.getD i []).getD pc 0∧(c.calls.getD i []).getD pc 0<c.insts.length:=fun ho=>by have:=(wc.call i hi pc hp).1 (.inl ho);exact ⟨this.1,this.2.1⟩
  have hnl:=kB (x:=(c8 u (itI c i)).getD pc g0) (pc:=pc);have hap:applyN ((L.getD i []).getD pc []) (E.getD i 0)<512:=Nat.lt_of_lt_of_le (mQ hTp _) (nU hk8).2;refine .z ?_;refine .ss z8 (mkP 13 [0,1,0,4,12,0,60,124,0,0,512,2047,4095] []) ?_;refine .k 8 [] ?_;refine .k 3 [] ?_;refine .ca rfl rfl (c_relN hu wc hmx hi hp) ?_;refine .n [] ?_;refine .seq ?_;refine .c7 [2,3,4,7] ?_;refine c177z ?_;refine .n ?_;refine u2z ?_ ?_
  ·intro e1 qe1;refine .c7 [2,3,4] ?_;have hop2:(eV u c i pc).op=2:=by rw[hop];omega
   obtain ⟨hc1,hc2⟩:=hcall hop2;obtain ⟨q,hqe⟩:∃q:Nat,(c.calls.getD i []).getD pc 0=(q:Int):=⟨_,(Int.toNat_of_nonneg hc1).symm⟩;have hqc:gZ c i pc=q:=by unfold gZ;rw[hqe];rfl
   have hc3:=hc1;have hc4:=hc2;rw[hqe]at hc3 hc4;have hq3:q<c.insts.length:=by omega
   have hTq:=hS.tb q hq3;have hTql:(L.getD q []).length=r9 u c q:=hTq.1;have hz:=MS (E:=E) (L:=L) hop2 hqc hap (hS.es.lt _ (j0 (by omega)));refine c134z ?_;refine .c7 [2,3,4,8] ?_;rw[hqe];refine c17z ?_;refine .ca rfl rfl (c_gexit hu wc hmx hS hq3) ?_;refine .n ?_;refine .ss z8 (mkP 24 [0,1,3,0,15,31,0,127,255,0,512,1536,0,7680,15872,32767,0,65536,196608,0,983040,2031616,4194303,8388607] []) ?_;refine .k 8 [] ?_;refine .k 7 [] ?_;refine .ca rfl rfl (CD _ _ (hTp.lt hk8) (hS.es.lt _ (j0 (by omega))) t110) ?_;refine .n [] ?_;refine u2z ?_ ?_
   ·intro e2 qe2;refine c10z ?_;exact .ret (.ex (hq:=t48))
   intro e2 qe2;refine .sk ?_;refine .c7 [2,3,4,7] ?_;have hst2:yK u c mx q (L.getD q []) (r9 u c q)=(stS u c mx (exS u c mx L) i pc):=by unfold stS;rw[if_pos (show (eV u c i pc).op=2 from by rw[hop];omega)];first | done | rfl | (rw[hqc,sN hq3])
   rw[hst2];refine c39z ?_;refine .e 2 ?_;refine .ca rfl rfl (YK _ _ (hst1.lt hk8) t142 (hTp.lt hk8) t110) ?_;refine .n ?_;refine .c7 [2,3,4,9] ?_;refine .ss z8 (mkP 14 [0,1,0,4,12,0,60,124,0,511,0,2047,4095,8191] []) ?_;refine .k 8 [] ?_;refine .k 1 [] ?_;refine .ca rfl rfl (MI hu w (show pc<(c8 u (itI c i)).length by omega)) ?_;refine .k 1 [] ?_;refine .ca rfl rfl (c_gcf (by omega) (fun j hj=>YO hu wc hmx hS hi (lQ hTp hst1) (hpro.nx pc hp _ (j0 (d:=0) hj)).1 (by have:=hpro.nx pc hp _ (j0 (d:=0) hj);omega) [])) ?_;refine .n [] ?_;exact .ret (.ex (hq:=t48))
  intro e1 qe1;refine .sk ?_;refine .c7 [2,3,4,7] ?_;have hst2:dhN (kM u mx) (chI (itI c i) (eV u c i pc) mx)=(stS u c mx (exS u c mx L) i pc):=by unfold stS;rw[if_neg (show ¬(eV u c i pc).op=2 from by rw[hop];omega)];first | done | rfl | (rw[hqc,sN hq3])
  rw[hst2];refine c39z ?_;refine .e 2 ?_;refine .ca rfl rfl (YK _ _ (hst1.lt hk8) t142 (hTp.lt hk8) t110) ?_;refine .n ?_;refine .c7 [2,3,4,9] ?_;refine .ss z8 (mkP 14 [0,1,0,4,12,0,60,124,0,511,0,2047,4095,8191] []) ?_;refine .k 8 [] ?_;refine .k 1 [] ?_;refine .ca rfl rfl (MI hu w (show pc<(c8 u (itI c i)).length by omega)) ?_;refine .k 1 [] ?_;refine .ca rfl rfl (c_gcf (by omega) (fun j hj=>YO hu wc hmx hS hi (lQ hTp hst1) (hpro.nx pc hp _ (j0 (d:=0) hj)).1 (by have:=hpro.nx pc hp _ (j0 (d:=0) hj);omega) [])) ?_;refine .n [] ?_;exact .ret (.ex (hq:=t48))
theorem MV (hu:WU u)(wc:WC u c)(hmx:mx<u.c4.length)(hS:Shp u c mx L E)(hi:i<c.insts.length):CB 72 [.agg [.vec u.globals.length (g8 u.globals),.vec u.c4.length (g6 u.c4),.vec u.procs.length (l4 u.procs),.int .i64 u.main,.vec c.insts.length (l7 c.insts),.vec c.calls.length (n4 c.calls),.vec c.roots.length (g8 c.roots),.int .i64 ((mx:Nat):Int),.vec c.insts.length (s9 L),.vec c.insts.length (E.map l5)],.int .i64 ((i:Nat):Int)] h (.bool (dcd (Hc u c mx L E i))):=by
  refine .bz Tryz.f72 53 ?_;have hwl:=wc.len;have hk8:kM u mx≤8:=dV;have hk9:nD (u.c4.getD mx aA)≤8:=hk8;have hml:=hu.ml;have hrl:=wc.rl;have hrc:c.roots.length≤c.insts.length:=by have:=aT wc.rs wc.rr;omega
  have hcl:=wc.cl;have hLl:=hS.len;have hEl:=hS.es.1;have w:=gE wc hi;have w1:=w.lo;have w2:=w.hi;have hsz:(c8 u (itI c i)).length≤1664:=q9 hu w;have hcll:(c.calls.getD i []).length=(c8 u (itI c i)).length:=wc.cll i hi;have hlI:r9 u c i=(c8 u (itI c i)).length:=rfl;have hT:=hS.tb i hi;have hTl:(L.getD i []).length=r9 u c i:=hT.1;have hlp:1≤(c8 u (itI c i)).length:=(dU hu w).1;have hT0:=hT.get (i:=0) (by omega);have hE5:E.getD i 0<512:=hS.es.lt _ (j0 (by omega));have hmu:=CF hE5;refine c23z ?_;refine .ss z8 (mkP 19 [0,1,3,0,8,31,63,127,255,0,512,1536,0,7680,15872,32256,65024,131071,262143] []) ?_;refine .k 7 [] ?_;refine .ca rfl rfl (MJ u mx) ?_;refine .ca rfl rfl (c_idN _ hk8) ?_;refine .k 8 [] ?_;refine .ca rfl rfl (P0 _ _ (by rw[BV];omega) (by rw[BV];exact hT0.1)) ?_;refine .n [] ?_;refine u2z ?_ ?_
  ·intro e1 qe1;refine c10z ?_;exact .ret (.ex (hq:=t25))
  intro e1 qe1;refine c137z ?_;refine .c7 [1,2] ?_;refine c30z ?_;refine .ca rfl rfl (FF (by omega) _) ?_;refine .e 1 ?_;refine .spl 30 rfl rfl (fun e2=>?_) (fun e2=>?_)
  ·try simp only[e2]
   have qe2:=fact e2;refine .k 8 [(5,30)] ?_;refine .n ?_;refine u2z ?_ ?_
   ·intro e3 qe3;refine c10z ?_;exact .ret (.ex (hq:=t25))
   intro e3 qe3;refine c137z ?_;refine .c7 [1,2] ?_;refine c177z ?_;refine c147z ?_;refine .aR (fun m st=>∃(j:Nat),(m=r9 u c i-j∧((∀p,p<j→AtC u c L E i p∧AtN u c mx L i p)∧j≤r9 u c i))∧st=⟨mkS 53 [(1,AV.int .i64 ((i:Nat):Int)),(2,AV.ptr h.length 0 0),(43,AV.int .i64 (((c8 u (itI c i)).length:Nat):Int)),(44,AV.int .i64 ((j:Nat):Int))],h++[⟨0,false,114,10,[.vec u.globals.length (g8 u.globals),.vec u.c4.length (g6 u.c4),.vec u.procs.length (l4 u.procs),.int .i64 u.main,.vec c.insts.length (l7 c.insts),.vec c.calls.length (n4 c.calls),.vec c.roots.length (g8 c.roots),.int .i64 ((mx:Nat):Int),.vec c.insts.length (s9 L),.vec c.insts.length (E.map l5)],0⟩]⟩) _ (.v ⟨0,⟨rfl,⟨t222,by omega⟩⟩,rfl⟩) ?_;rintro m sl h' ⟨j,⟨hm,⟨hI,hj⟩⟩,hst⟩;obtain ⟨rfl,rfl⟩:=St.mk.inj hst;refine c23z ?_;refine u2z ?_ ?_
   ·intro e4 qe4;refine c3z ?_;refine c79z ?_;refine .ca rfl rfl (c_gat hu wc hmx hS hi (show j<r9 u c i by omega)) ?_;refine .n ?_;refine u2z ?_ ?_
    ·intro e5 qe5;refine c10z ?_;exact .ret (.ex (hq:=t25))
    intro e5 qe5;refine c5z ?_;refine .c7 [1,2,43,44] ?_;refine .rz ?_;exact ⟨_,by omega,.v ⟨(j+1),⟨rfl,⟨(fun p hp=>if e:p=j then by rw[e];exact lD.1 (by assumption) else hI p (by omega)),by omega⟩⟩,rfl⟩⟩
   intro e4 qe4;refine c8z ?_;refine .z ?_;exact .ret (.ex (hq:=t25))
  try simp only[e2]
  have qe2:=fact e2;refine .k 8 [(5,30)] ?_;refine .n ?_;refine c85z ?_;refine .c7 [1,2] ?_;refine c177z ?_;refine c147z ?_;refine .aR (fun m st=>∃(j:Nat),(m=r9 u c i-j∧((∀p,p<j→AtC u c L E i p∧AtN u c mx L i p)∧j≤r9 u c i))∧st=⟨mkS 53 [(1,AV.int .i64 ((i:Nat):Int)),(2,AV.ptr h.length 0 0),(43,AV.int .i64 (((c8 u (itI c i)).length:Nat):Int)),(44,AV.int .i64 ((j:Nat):Int))],h++[⟨0,false,114,10,[.vec u.globals.length (g8 u.globals),.vec u.c4.length (g6 u.c4),.vec u.procs.length (l4 u.procs),.int .i64 u.main,.vec c.insts.length (l7 c.insts),.vec c.calls.length (n4 c.calls),.vec c.roots.length (g8 c.roots),.int .i64 ((mx:Nat):Int),.vec c.insts.length (s9 L),.vec c.insts.length (E.map l5)],0⟩]⟩) _ (.v ⟨0,⟨rfl,⟨t222,by omega⟩⟩,rfl⟩) ?_;rintro m sl h' ⟨j,⟨hm,⟨hI,hj⟩⟩,hst⟩;obtain ⟨rfl,rfl⟩:=St.mk.inj hst;refine c23z ?_;refine u2z ?_ ?_
  ·intro e6 qe6;refine c3z ?_;refine c79z ?_;refine .ca rfl rfl (c_gat hu wc hmx hS hi (show j<r9 u c i by omega)) ?_;refine .n ?_;refine u2z ?_ ?_
   ·intro e7 qe7;refine c10z ?_;exact .ret (.ex (hq:=t25))
   intro e7 qe7;refine c5z ?_;refine .c7 [1,2,43,44] ?_;refine .rz ?_;exact ⟨_,by omega,.v ⟨(j+1),⟨rfl,⟨(fun p hp=>if e:p=j then by rw[e];exact lD.1 (by assumption) else hI p (by omega)),by omega⟩⟩,rfl⟩⟩
  intro e6 qe6;refine c8z ?_;refine .z ?_;exact .ret (.ex (hq:=t25))
end Go.Proofs.YtonbocmibeikmaaGreat
end
section
namespace Go.Proofs.YtonbocmibeikmaaGreat
open Go.Ab Go.Un
attribute [local go_sem] rd bH r7 u6 p7 n6 l8 z6 o5 Int.natCast_nonneg Int.natCast_inj aD cW cJ cX gD fV nX kC aZ kD pR dL jE jF fW List.length_set List.length_replicate Int.toNat_natCast_add_one eG wrap64 List.length_map cL cY fP fQ aZ u4 w9 gS gT bQ o5 orN lP beq_self_eq_true bne_self_eq_false yL rL vC Bool.not_not
variable {h:c6}
theorem P3 (a b:List Nat)(hla:a.length≤9)(hab:b.length=a.length):CB 120 [bH a,bH b] h (.bool (decide (jA a b))):=by
  refine .bz Tryz.f120 22 ?_;refine c16z ?_;refine .aR (fun m st=>∃(i:Nat),(m=a.length-i∧((∀d,d<i→bits .andNot .i64 ((a.getD d 0:Nat):Int) ((b.getD d 0:Nat):Int)=0)∧i≤a.length))∧st=⟨mkS 22 [(0,bH a),(1,bH b),(5,AV.int .i64 ((i:Nat):Int))],h⟩) _ (.v ⟨0,⟨rfl,⟨t78,by omega⟩⟩,rfl⟩) ?_;rintro m sl h' ⟨i,⟨hm,⟨hI,hi0⟩⟩,hst⟩;obtain ⟨rfl,rfl⟩:=St.mk.inj hst;refine c1z ?_;refine u2z ?_ ?_
  ·intro e1 qe1;refine c3z ?_;refine .ss z8 (mkP 10 [0,0,3,7,0,0,48,112,255,511] []) ?_;refine c47z ?_;refine u2z ?_ ?_
   ·intro e2 qe2;refine c158z ?_;exact ⟨[],_,(List.append_nil _).symm,t42,t119⟩
   intro e2 qe2;refine c270z ?_;exact ⟨_,by omega,.v ⟨(i+1),⟨rfl,⟨(fun d hd=>if e:d=i then by rw[e];simp_all else hI d (by omega)),by omega⟩⟩,rfl⟩⟩
  intro e1 qe1;refine c63z ?_;exact ⟨[],_,(List.append_nil _).symm,t42,t119⟩
theorem c_rin {X:List Int}(hl:X.length<1000000)(v:Int):CB 121 [.vec X.length (g8 X),.int .i64 v] h (.bool (decide (v∈X))):=by
  refine .bz Tryz.f121 18 ?_;refine c16z ?_;refine .aR (fun m st=>∃(i:Nat),(m=X.length-i∧((∀d,d<i→X.getD d 0≠v)∧i≤X.length))∧st=⟨mkS 18 [(0,AV.vec X.length (g8 X)),(1,AV.int .i64 v),(5,AV.int .i64 ((i:Nat):Int))],h⟩) _ (.v ⟨0,⟨rfl,⟨t78,by omega⟩⟩,rfl⟩) ?_;rintro m sl h' ⟨i,⟨hm,⟨hI,hi0⟩⟩,hst⟩;obtain ⟨rfl,rfl⟩:=St.mk.inj hst;refine c1z ?_;refine u2z ?_ ?_
  ·intro e1 qe1;refine c131z ?_;refine u2z ?_ ?_
   ·intro e2 qe2;refine c158z ?_;exact ⟨[],_,(List.append_nil _).symm,t42,t92⟩
   intro e2 qe2;refine c270z ?_;exact ⟨_,by omega,.v ⟨(i+1),⟨rfl,⟨(fun d hd=>if e:d=i then by rw[e];omega else hI d (by omega)),by omega⟩⟩,rfl⟩⟩
  intro e1 qe1;refine c63z ?_;exact ⟨[],_,(List.append_nil _).symm,t42,t92⟩
theorem MW {u:Un}{c:Clo}(hu:WU u)(wc:WC u c){mx:Nat}(hmx:mx<u.c4.length){L:List (List (List Nat))}{E:List Nat}(hS:Shp u c mx L E){i:Nat}(hi:i<c.insts.length):CB 77 [.agg [.vec u.globals.length (g8 u.globals),.vec u.c4.length (g6 u.c4),.vec u.procs.length (l4 u.procs),.int .i64 u.main],.agg [.vec c.insts.length (l7 c.insts),.vec c.calls.length (n4 c.calls),.vec c.roots.length (g8 c.roots)],.int .i64 ((mx:Nat):Int),.vec c.insts.length (s9 L),.vec c.insts.length (E.map l5),.int .i64 ((i:Nat):Int)] h (.bool (dcd (Hc u c mx L E i))):=by
  refine .bz Tryz.f77 147 ?_;have hwl:=wc.len;have hk8:kM u mx≤8:=dV;have hk9:nD (u.c4.getD mx aA)≤8:=hk8;have hml:=hu.ml;have hrl:=wc.rl;have hrc:c.roots.length≤c.insts.length:=by have:=aT wc.rs wc.rr;omega
  have hcl:=wc.cl;have hLl:=hS.len;have hEl:=hS.es.1;have w:=gE wc hi;have w1:=w.lo;have w2:=w.hi;have hsz:(c8 u (itI c i)).length≤1664:=q9 hu w;have hcll:(c.calls.getD i []).length=(c8 u (itI c i)).length:=wc.cll i hi;have hlI:r9 u c i=(c8 u (itI c i)).length:=rfl;have hT:=hS.tb i hi;have hTl:(L.getD i []).length=r9 u c i:=hT.1;have hlp:1≤(c8 u (itI c i)).length:=(dU hu w).1;have hT0:=hT.get (i:=0) (by omega);have hE5:E.getD i 0<512:=hS.es.lt _ (j0 (by omega));have hmu:=CF hE5;refine .z ?_;refine .sg z8 (mkH 14 [0,1,0,7,15,0,32,0,224,480,992,0,4095,8191] [11,12] [] [0,2048,6144] [0,1,2,3,4,5,6,7,8,9,10]) 0 ?_;refine c187z ?_;refine c110z ?_;refine .p 2 ?_;refine .rm [true] ?_;refine .cl rfl rfl (fun _=>G2 u mx) ?_;refine c191z ?_;refine .p 1 ?_;refine c32z ?_;refine c145z ?_;refine .seq ?_;refine .c7 [2,3,4,5,6,7,13,14] ?_;refine .ss z8 (mkP 24 [0,1,0,0,12,28,60,124,255,511,1023,2047,4095,2047,16383,32767,65535,65535,262143,524287,1048575,2097151,4194303,8388607] []) ?_;refine .k 1 [] ?_;refine .ca rfl rfl (CE _ hk8) ?_;refine .k 6 [] ?_;refine .ca rfl rfl (P3 _ _ (by rw[BV];omega) (by rw[BV];exact hT0.1)) ?_;refine .k 2 [] ?_;refine .spl 41 rfl rfl (fun e1=>?_) (fun e1=>?_)
  ·try simp only[e1]
   have qe1:=fact e1;refine .k 8 [(10,41),(15,46)] ?_;refine .n [(10,41),(15,46)] ?_;refine c210z ?_;exact .ret (.ex (hq:=t5))
  try simp only[e1]
  have qe1:=fact e1;refine .k 3 [(10,41)] ?_;refine .ca rfl rfl (c_rin (by omega) _) ?_;refine .k 1 [(10,41)] ?_;refine .spl 46 rfl rfl (fun e2=>?_) (fun e2=>?_)
  ·try simp only[e2]
   have qe2:=fact e2;refine .n [(10,41),(15,46)] ?_;refine u2z ?_ ?_
   ·intro e3 qe3;refine c10z ?_;exact .ret (.ex (hq:=t5))
   intro e3 qe3;refine c137z ?_;refine .c7 [2,3,4,5,6,7,13] ?_;have hW0:jA (dhN (kM u mx) 0) ((L.getD i []).getD 0 []):=by assumption
   have hODD:(i:Int)∈c.roots→E.getD i 0%2=1:=fun hr9=>by first | exact absurd hr9 (by assumption) | (have h3:=mt hmu.2 (by assumption);omega)
   refine c15z ?_;refine .aR (fun m st=>∃(pc:Nat),(m=r9 u c i-pc∧((∀p,p<pc→AtC u c L E i p∧AtN u c mx L i p)∧pc≤r9 u c i))∧st=⟨mkS 147 [(2,AV.int .i64 ((mx:Nat):Int)),(3,AV.vec c.insts.length (s9 L)),(4,AV.vec c.insts.length (E.map l5)),(5,AV.int .i64 ((i:Nat):Int)),(6,AV.ptr h.length 0 0),(7,AV.ptr (h.length+1) 0 0),(13,AV.ptr (h.length+2) 0 0),(15,AV.int .i64 ((pc:Nat):Int))],h++[⟨0,false,30,4,[.vec u.globals.length (g8 u.globals),.vec u.c4.length (g6 u.c4),.vec u.procs.length (l4 u.procs),.int .i64 u.main],0⟩,⟨0,false,34,3,[.vec c.insts.length (l7 c.insts),.vec c.calls.length (n4 c.calls),.vec c.roots.length (g8 c.roots)],0⟩,⟨0,false,46,2,[.int .i64 (itI c i).proc,.vec (itI c i).j5.length (g8 (itI c i).j5)],0⟩]⟩) _ (.v ⟨0,⟨rfl,⟨t222,by omega⟩⟩,rfl⟩) ?_;rintro m sl h' ⟨pc,⟨hm,⟨hI,hj⟩⟩,hst⟩;obtain ⟨rfl,rfl⟩:=St.mk.inj hst;refine c1z ?_;refine u2z ?_ ?_
   ·intro e4 qe4;refine c3z ?_;have hp:pc<r9 u c i:=by omega
    have hpro:=OV (m:=mx) hu wc (MR L) hi;have hst1:=hpro.st pc hp;have hop:eV u c i pc=(c8 u (itI c i)).getD pc g0:=rfl;have hTp:=hT.get hp;have hnxl:(nxI u c i pc).length=(o3 ((c8 u (itI c i)).getD pc g0) pc).length:=rfl;have hcall:(eV u c i pc).op=2→0≤(c.calls.getD i []).getD pc 0∧(c.calls.getD i []).getD pc 0<c.insts.length:=fun ho=>by have:=(wc.call i hi pc hp).1 (.inl ho);exact ⟨this.1,this.2.1⟩
    have hnl:=kB (x:=(c8 u (itI c i)).getD pc g0) (pc:=pc);have hap:applyN ((L.getD i []).getD pc []) (E.getD i 0)<512:=Nat.lt_of_lt_of_le (mQ hTp _) (nU hk8).2;refine c30z ?_;refine .ca rfl rfl (G3 hu wc hmx hi hp) ?_;refine c27z ?_;refine .c7 [2,3,4,5,6,7,13,15,16] ?_;refine c134z ?_;refine u2z ?_ ?_
    ·intro e5 qe5;refine .c7 [2,3,4,5,6,7,13,15] ?_;have hop2:(eV u c i pc).op=2:=by rw[hop];omega
     obtain ⟨hc1,hc2⟩:=hcall hop2;obtain ⟨q,hqe⟩:∃q:Nat,(c.calls.getD i []).getD pc 0=(q:Int):=⟨_,(Int.toNat_of_nonneg hc1).symm⟩;have hqc:gZ c i pc=q:=by unfold gZ;rw[hqe];rfl
     have hc3:=hc1;have hc4:=hc2;rw[hqe]at hc3 hc4;have hq3:q<c.insts.length:=by omega
     have hTq:=hS.tb q hq3;have hTql:(L.getD q []).length=r9 u c q:=hTq.1;have hz:=MS (E:=E) (L:=L) hop2 hqc hap (hS.es.lt _ (j0 (by omega)));refine c134z ?_;refine .c7 [2,3,4,5,6,7,13,15,17] ?_;rw[hqe];refine .ss z8 (mkP 10 [0,0,0,0,0,24,56,0,255,511] []) ?_;refine .k 8 [] ?_;refine .ca rfl rfl (MU hu wc hmx hS hq3 rfl) ?_;refine .n [] ?_;refine .c7 [2,3,4,5,6,7,13,15,16,17] ?_;refine .ss z8 (mkP 18 [0,0,3,7,0,31,63,0,0,384,896,2047,0,0,12288,28672,65535,131071] []) ?_;refine .k 8 [] ?_;refine .k 3 [] ?_;refine .ca rfl rfl (zK _ _ (hTp.lt hk8) (hS.es.lt _ (j0 (by omega))) t110) ?_;refine .n [] ?_;refine u2z ?_ ?_
     ·intro e6 qe6;refine c10z ?_;exact .ret (.ex (hq:=t5))
     intro e6 qe6;refine c183z ?_;have hst2:yK u c mx q (L.getD q []) (r9 u c q)=(stS u c mx (exS u c mx L) i pc):=by unfold stS;rw[if_pos (show (eV u c i pc).op=2 from by rw[hop];omega)];first | done | rfl | (rw[hqc,sN hq3])
     rw[hst2];have hCC:AtC u c L E i pc:=hz.1 (by first | assumption | omega);refine c101z ?_;refine c286z ?_;refine c0z ?_;rintro m sl h' ⟨k,⟨hm,⟨hK,hk0⟩⟩,hst⟩;obtain ⟨rfl,rfl⟩:=St.mk.inj hst;refine c1z ?_;refine u2z ?_ ?_
     ·intro e7 qe7;refine c3z ?_;have hq9:=hpro.nx pc hp _ (show (o3 ((c8 u (itI c i)).getD pc g0) pc).getD k 0∈nxI u c i pc from j0 (d:=0) (by omega));have hTq9:=hT.get (i:=((o3 ((c8 u (itI c i)).getD pc g0) pc).getD k 0).toNat) (by omega);refine c52z ?_;refine c114z ?_;refine c166z ?_;refine .n [] ?_;refine u2z ?_ ?_
      ·intro e8 qe8;refine c10z ?_;exact .ret (.ex (hq:=t5))
      intro e8 qe8;refine c155z ?_;refine .rz ?_;exact ⟨_,by omega,.v ⟨(k+1),⟨rfl,⟨(fun d hd=>if e:d=k then by rw[e];assumption else hK d (by omega)),by omega⟩⟩,rfl⟩⟩
     intro e7 qe7;refine .exit ?_;have hNN:AtN u c mx L i pc:=fun q hq=>by obtain ⟨j,hj5,rfl⟩:=List.getElem_of_mem hq;have h9:=hK j t97;have e9:(o3 ((c8 u (itI c i)).getD pc g0) pc).getD j 0=(nxI u c i pc)[j]:=t99;rw[e9]at h9;exact h9
     refine c195z ?_;exact ⟨_,by omega,.v ⟨(pc+1),⟨rfl,⟨(fun p hp9=>if e:p=pc then by rw[e];exact ⟨hCC,hNN⟩ else hI p (by omega)),by omega⟩⟩,rfl⟩⟩
    intro e5 qe5;refine c183z ?_;have hst2:dhN (kM u mx) (chI (itI c i) (eV u c i pc) mx)=(stS u c mx (exS u c mx L) i pc):=by unfold stS;rw[if_neg (show ¬(eV u c i pc).op=2 from by rw[hop];omega)];first | done | rfl | (rw[hqc,sN hq3])
    rw[hst2];have hCC:AtC u c L E i pc:=MT (by rw[hop];omega);refine c101z ?_;refine c286z ?_;refine c0z ?_;rintro m sl h' ⟨k,⟨hm,⟨hK,hk0⟩⟩,hst⟩;obtain ⟨rfl,rfl⟩:=St.mk.inj hst;refine c1z ?_;refine u2z ?_ ?_
    ·intro e9 qe9;refine c3z ?_;have hq9:=hpro.nx pc hp _ (show (o3 ((c8 u (itI c i)).getD pc g0) pc).getD k 0∈nxI u c i pc from j0 (d:=0) (by omega));have hTq9:=hT.get (i:=((o3 ((c8 u (itI c i)).getD pc g0) pc).getD k 0).toNat) (by omega);refine c52z ?_;refine c114z ?_;refine c166z ?_;refine .n [] ?_;refine u2z ?_ ?_
     ·intro e10 qe10;refine c10z ?_;exact .ret (.ex (hq:=t5))
     intro e10 qe10;refine c155z ?_;refine .rz ?_;exact ⟨_,by omega,.v ⟨(k+1),⟨rfl,⟨(fun d hd=>if e:d=k then by rw[e];assumption else hK d (by omega)),by omega⟩⟩,rfl⟩⟩
    intro e9 qe9;refine .exit ?_;have hNN:AtN u c mx L i pc:=fun q hq=>by obtain ⟨j,hj5,rfl⟩:=List.getElem_of_mem hq;have h9:=hK j t97;have e9:(o3 ((c8 u (itI c i)).getD pc g0) pc).getD j 0=(nxI u c i pc)[j]:=t99;rw[e9]at h9;exact h9
    refine c195z ?_;exact ⟨_,by omega,.v ⟨(pc+1),⟨rfl,⟨(fun p hp9=>if e:p=pc then by rw[e];exact ⟨hCC,hNN⟩ else hI p (by omega)),by omega⟩⟩,rfl⟩⟩
   intro e4 qe4;refine c8z ?_;refine c10z ?_;exact .ret (.ex (hq:=t5))
  try simp only[e2]
  have qe2:=fact e2;refine .n [(10,41),(15,46)] ?_;refine c85z ?_;refine .c7 [2,3,4,5,6,7,13] ?_;have hW0:jA (dhN (kM u mx) 0) ((L.getD i []).getD 0 []):=by assumption
  have hODD:(i:Int)∈c.roots→E.getD i 0%2=1:=fun hr9=>by first | exact absurd hr9 (by assumption) | (have h3:=mt hmu.2 (by assumption);omega)
  refine c15z ?_;refine .aR (fun m st=>∃(pc:Nat),(m=r9 u c i-pc∧((∀p,p<pc→AtC u c L E i p∧AtN u c mx L i p)∧pc≤r9 u c i))∧st=⟨mkS 147 [(2,AV.int .i64 ((mx:Nat):Int)),(3,AV.vec c.insts.length (s9 L)),(4,AV.vec c.insts.length (E.map l5)),(5,AV.int .i64 ((i:Nat):Int)),(6,AV.ptr h.length 0 0),(7,AV.ptr (h.length+1) 0 0),(13,AV.ptr (h.length+2) 0 0),(15,AV.int .i64 ((pc:Nat):Int))],h++[⟨0,false,30,4,[.vec u.globals.length (g8 u.globals),.vec u.c4.length (g6 u.c4),.vec u.procs.length (l4 u.procs),.int .i64 u.main],0⟩,⟨0,false,34,3,[.vec c.insts.length (l7 c.insts),.vec c.calls.length (n4 c.calls),.vec c.roots.length (g8 c.roots)],0⟩,⟨0,false,46,2,[.int .i64 (itI c i).proc,.vec (itI c i).j5.length (g8 (itI c i).j5)],0⟩]⟩) _ (.v ⟨0,⟨rfl,⟨t222,by omega⟩⟩,rfl⟩) ?_;rintro m sl h' ⟨pc,⟨hm,⟨hI,hj⟩⟩,hst⟩;obtain ⟨rfl,rfl⟩:=St.mk.inj hst;refine c1z ?_;refine u2z ?_ ?_
  ·intro e11 qe11;refine c3z ?_;have hp:pc<r9 u c i:=by omega
   have hpro:=OV (m:=mx) hu wc (MR L) hi;have hst1:=hpro.st pc hp;have hop:eV u c i pc=(c8 u (itI c i)).getD pc g0:=rfl;have hTp:=hT.get hp;have hnxl:(nxI u c i pc).length=(o3 ((c8 u (itI c i)).getD pc g0) pc).length:=rfl;have hcall:(eV u c i pc).op=2→0≤(c.calls.getD i []).getD pc 0∧(c.calls.getD i []).getD pc 0<c.insts.length:=fun ho=>by have:=(wc.call i hi pc hp).1 (.inl ho);exact ⟨this.1,this.2.1⟩
   have hnl:=kB (x:=(c8 u (itI c i)).getD pc g0) (pc:=pc);have hap:applyN ((L.getD i []).getD pc []) (E.getD i 0)<512:=Nat.lt_of_lt_of_le (mQ hTp _) (nU hk8).2;refine c30z ?_;refine .ca rfl rfl (G3 hu wc hmx hi hp) ?_;refine c27z ?_;refine .c7 [2,3,4,5,6,7,13,15,16] ?_;refine c134z ?_;refine u2z ?_ ?_
   ·intro e12 qe12;refine .c7 [2,3,4,5,6,7,13,15] ?_;have hop2:(eV u c i pc).op=2:=by rw[hop];omega
    obtain ⟨hc1,hc2⟩:=hcall hop2;obtain ⟨q,hqe⟩:∃q:Nat,(c.calls.getD i []).getD pc 0=(q:Int):=⟨_,(Int.toNat_of_nonneg hc1).symm⟩;have hqc:gZ c i pc=q:=by unfold gZ;rw[hqe];rfl
    have hc3:=hc1;have hc4:=hc2;rw[hqe]at hc3 hc4;have hq3:q<c.insts.length:=by omega
    have hTq:=hS.tb q hq3;have hTql:(L.getD q []).length=r9 u c q:=hTq.1;have hz:=MS (E:=E) (L:=L) hop2 hqc hap (hS.es.lt _ (j0 (by omega)));refine c134z ?_;refine .c7 [2,3,4,5,6,7,13,15,17] ?_;rw[hqe];refine .ss z8 (mkP 10 [0,0,0,0,0,24,56,0,255,511] []) ?_;refine .k 8 [] ?_;refine .ca rfl rfl (MU hu wc hmx hS hq3 rfl) ?_;refine .n [] ?_;refine .c7 [2,3,4,5,6,7,13,15,16,17] ?_;refine .ss z8 (mkP 18 [0,0,3,7,0,31,63,0,0,384,896,2047,0,0,12288,28672,65535,131071] []) ?_;refine .k 8 [] ?_;refine .k 3 [] ?_;refine .ca rfl rfl (zK _ _ (hTp.lt hk8) (hS.es.lt _ (j0 (by omega))) t110) ?_;refine .n [] ?_;refine u2z ?_ ?_
    ·intro e13 qe13;refine c10z ?_;exact .ret (.ex (hq:=t5))
    intro e13 qe13;refine c183z ?_;have hst2:yK u c mx q (L.getD q []) (r9 u c q)=(stS u c mx (exS u c mx L) i pc):=by unfold stS;rw[if_pos (show (eV u c i pc).op=2 from by rw[hop];omega)];first | done | rfl | (rw[hqc,sN hq3])
    rw[hst2];have hCC:AtC u c L E i pc:=hz.1 (by first | assumption | omega);refine c101z ?_;refine c286z ?_;refine c0z ?_;rintro m sl h' ⟨k,⟨hm,⟨hK,hk0⟩⟩,hst⟩;obtain ⟨rfl,rfl⟩:=St.mk.inj hst;refine c1z ?_;refine u2z ?_ ?_
    ·intro e14 qe14;refine c3z ?_;have hq9:=hpro.nx pc hp _ (show (o3 ((c8 u (itI c i)).getD pc g0) pc).getD k 0∈nxI u c i pc from j0 (d:=0) (by omega));have hTq9:=hT.get (i:=((o3 ((c8 u (itI c i)).getD pc g0) pc).getD k 0).toNat) (by omega);refine c52z ?_;refine c114z ?_;refine c166z ?_;refine .n [] ?_;refine u2z ?_ ?_
     ·intro e15 qe15;refine c10z ?_;exact .ret (.ex (hq:=t5))
     intro e15 qe15;refine c155z ?_;refine .rz ?_;exact ⟨_,by omega,.v ⟨(k+1),⟨rfl,⟨(fun d hd=>if e:d=k then by rw[e];assumption else hK d (by omega)),by omega⟩⟩,rfl⟩⟩
    intro e14 qe14;refine .exit ?_;have hNN:AtN u c mx L i pc:=fun q hq=>by obtain ⟨j,hj5,rfl⟩:=List.getElem_of_mem hq;have h9:=hK j t97;have e9:(o3 ((c8 u (itI c i)).getD pc g0) pc).getD j 0=(nxI u c i pc)[j]:=t99;rw[e9]at h9;exact h9
    refine c195z ?_;exact ⟨_,by omega,.v ⟨(pc+1),⟨rfl,⟨(fun p hp9=>if e:p=pc then by rw[e];exact ⟨hCC,hNN⟩ else hI p (by omega)),by omega⟩⟩,rfl⟩⟩
   intro e12 qe12;refine c183z ?_;have hst2:dhN (kM u mx) (chI (itI c i) (eV u c i pc) mx)=(stS u c mx (exS u c mx L) i pc):=by unfold stS;rw[if_neg (show ¬(eV u c i pc).op=2 from by rw[hop];omega)];first | done | rfl | (rw[hqc,sN hq3])
   rw[hst2];have hCC:AtC u c L E i pc:=MT (by rw[hop];omega);refine c101z ?_;refine c286z ?_;refine c0z ?_;rintro m sl h' ⟨k,⟨hm,⟨hK,hk0⟩⟩,hst⟩;obtain ⟨rfl,rfl⟩:=St.mk.inj hst;refine c1z ?_;refine u2z ?_ ?_
   ·intro e16 qe16;refine c3z ?_;have hq9:=hpro.nx pc hp _ (show (o3 ((c8 u (itI c i)).getD pc g0) pc).getD k 0∈nxI u c i pc from j0 (d:=0) (by omega));have hTq9:=hT.get (i:=((o3 ((c8 u (itI c i)).getD pc g0) pc).getD k 0).toNat) (by omega);refine c52z ?_;refine c114z ?_;refine c166z ?_;refine .n [] ?_;refine u2z ?_ ?_
    ·intro e17 qe17;refine c10z ?_;exact .ret (.ex (hq:=t5))
    intro e17 qe17;refine c155z ?_;refine .rz ?_;exact ⟨_,by omega,.v ⟨(k+1),⟨rfl,⟨(fun d hd=>if e:d=k then by rw[e];assumption else hK d (by omega)),by omega⟩⟩,rfl⟩⟩
   intro e16 qe16;refine .exit ?_;have hNN:AtN u c mx L i pc:=fun q hq=>by obtain ⟨j,hj5,rfl⟩:=List.getElem_of_mem hq;have h9:=hK j t97;have e9:(o3 ((c8 u (itI c i)).getD pc g0) pc).getD j 0=(nxI u c i pc)[j]:=t99;rw[e9]at h9;exact h9
   refine c195z ?_;exact ⟨_,by omega,.v ⟨(pc+1),⟨rfl,⟨(fun p hp9=>if e:p=pc then by rw[e];exact ⟨hCC,hNN⟩ else hI p (by omega)),by omega⟩⟩,rfl⟩⟩
  intro e11 qe11;refine c8z ?_;refine c10z ?_;exact .ret (.ex (hq:=t5))
end Go.Proofs.YtonbocmibeikmaaGreat
end
section
namespace Go.Un
open Go.Ab
abbrev bU (u:Un):Blk:=⟨0,false,30,4,[.vec u.globals.length (g8 u.globals),.vec u.c4.length (g6 u.c4),.vec u.procs.length (l4 u.procs),.int .i64 u.main],0⟩
abbrev bC (c:Clo):Blk:=⟨0,false,34,3,[.vec c.insts.length (l7 c.insts),.vec c.calls.length (n4 c.calls),.vec c.roots.length (g8 c.roots)],0⟩
def I64 (x:Int):Prop := -9223372036854775808≤x∧x<9223372036854775808
theorem wrap_zero {w:Nat}(hw:w<18446744073709551616):IntKind.wrap .i64 (w:Int)=0↔w=0:=by
 by_cases h:w<9223372036854775808
 ·rw[wrap64 (by omega) (by omega)];omega
 ·unfold IntKind.wrap;have e1:(2:Int)^IntKind.bits .i64=18446744073709551616:=rfl;have e2:(2:Int)^(IntKind.bits .i64-1)=9223372036854775808:=rfl;have e3:IntKind.signed .i64=true:=rfl;simp only[e1,e2,e3,Bool.true_and,decide_eq_true_eq];split<;>omega
theorem VF {x:Int}(hx:I64 x){k:Nat}(hk:k≤8):bits .andNot .i64 x ((2^(k+1)-1:Nat):Int)=0↔0≤x∧x<((2^(k+1):Nat):Int):=by
 obtain ⟨h1,h2⟩:=hx;have hp:=nU hk;have e2:bits .andNot .i64 x ((2^(k+1)-1:Nat):Int)=IntKind.wrap .i64 (((BitVec.ofInt 64 x&&&~~~ BitVec.ofNat 64 (2^(k+1)-1)).toNat:Nat):Int):=by show IntKind.wrap .i64 (((BitVec.ofInt 64 x&&&~~~ BitVec.ofInt 64 ((2^(k+1)-1:Nat):Int)).toNat:Nat):Int)=_;rw[show BitVec.ofInt 64 ((2^(k+1)-1:Nat):Int)=BitVec.ofNat 64 (2^(k+1)-1) from BitVec.ofInt_natCast _ _]
 have ht:∀j,(BitVec.ofInt 64 x&&&~~~ BitVec.ofNat 64 (2^(k+1)-1)).toNat.testBit j=((BitVec.ofInt 64 x).toNat.testBit j&&! decide (j<k+1)):=fun j=>by
  rw[BitVec.testBit_toNat,BitVec.testBit_toNat,BitVec.getLsbD_and,BitVec.getLsbD_not,BitVec.getLsbD_ofNat,Nat.testBit_two_pow_sub_one];by_cases hj:j<64
  ·simp[hj]
  ·rw[BitVec.getLsbD_of_ge _ _ (by omega)];simp
 have hv:(BitVec.ofInt 64 x).toNat=(x%18446744073709551616).toNat:=BitVec.toNat_ofInt _;rw[e2,wrap_zero (BitVec.isLt _)];have key:(BitVec.ofInt 64 x&&&~~~ BitVec.ofNat 64 (2^(k+1)-1)).toNat=0↔(BitVec.ofInt 64 x).toNat<2^(k+1):=by
  constructor
  ·intro h;refine Nat.lt_pow_two_of_testBit _ fun j hj=>?_;have:=ht j;rw[h,Nat.zero_testBit,decide_eq_false (by omega)]at this;simpa using this.symm
  ·intro h;refine Nat.eq_of_testBit_eq fun j=>?_;rw[ht,Nat.zero_testBit];by_cases hj:j<k+1
   ·simp[hj]
   ·rw[Nat.testBit_lt_two_pow (Nat.lt_of_lt_of_le h (Nat.pow_le_pow_right (by decide) (by omega)))];rfl
 rw[key,hv];omega
def encTI (t:List (List (List Int))):List AV:=t.map fun T=>.vec T.length (T.map fun r=>.vec r.length (g8 r))
section
variable (u:Un)(c:Clo)(m:Nat)
def OkX (x:Int):Prop:=0≤x∧x<((2^(kM u m+1):Nat):Int)
def tT (r:List Int):Prop:=r.length=kM u m+1∧∀x∈r,OkX u m x
def FO (t:List (List (List Int)))(e:List Int)(i:Nat):Prop:=(t.getD i []).length=r9 u c i∧(∀r∈t.getD i [],tT u m r)∧OkX u m (e.getD i 0)
def MX (t:List (List (List Int))):List (List (List Nat)):=t.map fun T=>T.map fun r=>r.map Int.toNat
def OX (e:List Int):List Nat:=e.map Int.toNat
def Lng (t:List (List (List Int)))(e:List Int):Prop:=t.length=c.insts.length∧e.length=c.insts.length
noncomputable def Tn (t:List (List (List Int)))(e:List Int):Nat:=upto (FO u c m t e) c.insts.length
open Classical in
noncomputable def OY (t:List (List (List Int)))(e:List Int):Int:=if Lng c t e then (if Tn u c m t e<c.insts.length then (Tn u c m t e:Nat) else (He u c m (MX t) (OX e):Nat)) else 0
open Classical in
noncomputable def OZ (t:List (List (List Int)))(e:List Int):Int:=if Lng c t e then (if Tn u c m t e<c.insts.length then 10 else errU c.insts.length 12 (He u c m (MX t) (OX e))) else 10
structure X1 (t:List (List (List Int)))(e:List Int):Prop where
 t:∀T∈t,∀r∈T,∀x∈r,I64 x
 e:∀x∈e,I64 x
end
section
variable {u:Un}{c:Clo}{m:Nat}{t:List (List (List Int))}{e:List Int}
theorem raw_len (h:¬Lng c t e):OY u c m t e=0∧OZ u c m t e=10:=by unfold OY OZ;rw[if_neg h,if_neg h];exact ⟨rfl,rfl⟩
theorem MY (h:Lng c t e){i:Nat}(hi:i<c.insts.length)(h1:∀d,d<i→FO u c m t e d)(h2:¬FO u c m t e i):OY u c m t e=i∧OZ u c m t e=10:=by have e1:Tn u c m t e=i:=G5 h1 h2 hi;unfold OY OZ;rw[if_pos h,if_pos h,e1,if_pos hi,if_pos hi];exact ⟨rfl,rfl⟩
theorem MZ (h:Lng c t e)(h1:∀d,d<c.insts.length→FO u c m t e d):OY u c m t e=(He u c m (MX t) (OX e):Nat)∧OZ u c m t e=errU c.insts.length 12 (He u c m (MX t) (OX e)):=by have e1:Tn u c m t e=c.insts.length:=rM h1;unfold OY OZ;rw[if_pos h,if_pos h,e1,if_neg (Nat.lt_irrefl _),if_neg (Nat.lt_irrefl _)];exact ⟨rfl,rfl⟩
theorem X2 {l:List Int}(h:∀x∈l,0≤x):g8 l=(l.map Int.toNat).map l5:=by unfold g8;rw[List.map_map];refine List.map_congr_left fun x hx=>?_;show AV.int .i64 x=AV.int .i64 ((x.toNat:Nat):Int);rw[Int.toNat_of_nonneg (h x hx)]
theorem map_mem {α β:Type}{f:α→β}{l:List α}{d:β}(d':α){i:Nat}(hi:i<l.length):(l.map f).getD i d=f (l.getD i d'):=by simp[List.getD,hi]
theorem NA (h:Lng c t e)(h1:∀d,d<c.insts.length→FO u c m t e d):Shp u c m (MX t) (OX e)∧(∀T∈t,∀r∈T,∀x∈r,0≤x)∧∀x∈e,0≤x:=by
 have hrow:∀r:List Int,tT u m r→Rl (kM u m) (r.map Int.toNat):=fun r hr=>⟨by rw[List.length_map];exact hr.1,fun y hy=>by obtain ⟨x,hx,rfl⟩:=List.mem_map.1 hy;have:=hr.2 x hx;have h2:=this.1;have h3:=this.2;omega⟩
 refine ⟨⟨by rw[MX,List.length_map];exact h.1,fun i hi=>?_,by rw[OX,List.length_map];exact h.2,fun y hy=>?_⟩,fun T hT r hr x hx=>?_,fun x hx=>?_⟩
 ·have e1:(MX t).getD i []=(t.getD i []).map fun r=>r.map Int.toNat:=map_mem [] (by rw[h.1];exact hi);rw[e1];have h2:=h1 i hi;refine ⟨by rw[List.length_map];exact h2.1,fun r hr=>?_⟩;obtain ⟨r',hr',rfl⟩:=List.mem_map.1 hr;exact hrow r' (h2.2.1 r' hr')
 ·obtain ⟨x,hx,rfl⟩:=List.mem_map.1 hy;obtain ⟨i,hi,rfl⟩:=List.getElem_of_mem hx;have h2:=(h1 i (by rw[←h.2];exact hi)).2.2;have e1:e.getD i 0=e[i]:=by simp[List.getD,hi]
  rw[e1]at h2;have h3:=h2.1;have h4:=h2.2;omega
 ·obtain ⟨i,hi,rfl⟩:=List.getElem_of_mem hT;have e1:t.getD i []=t[i]:=by simp[List.getD,hi]
  have h2:=(h1 i (by rw[←h.1];exact hi)).2.1 r (by rw[e1];exact hr);exact (h2.2 x hx).1
 ·obtain ⟨i,hi,rfl⟩:=List.getElem_of_mem hx;have e1:e.getD i 0=e[i]:=by simp[List.getD,hi]
  have h2:=(h1 i (by rw[←h.2];exact hi)).2.2;rw[e1]at h2;exact h2.1
end
end Go.Un
end
section
namespace Go.Proofs.YtonbocmibeikmaaGreat
open Go.Ab Go.Un
def fY (T:List (List Int)):List AV:=T.map fun r=>.vec r.length (g8 r)
variable {t:List (List (List Int))}
theorem xS:(encTI t).length=t.length:=List.length_map _
variable {T:List (List Int)}
theorem rN:(fY T).length=T.length:=List.length_map _
variable {i:Nat}
theorem NB (h:i<t.length):List.take 1 (List.drop i (encTI t))=[.vec (t.getD i []).length (fY (t.getD i []))]:=by unfold encTI;rw[←List.map_drop,←List.map_take,List.drop_eq_getElem_cons h,List.take_succ_cons,List.take_zero];simp[List.getD,h,fY]
theorem NC {j:Nat}(h:j<T.length):List.take 1 (List.drop j (fY T))=[.vec (T.getD j []).length (g8 (T.getD j []))]:=by unfold fY;rw[←List.map_drop,←List.map_take,List.drop_eq_getElem_cons h,List.take_succ_cons,List.take_zero];simp[List.getD,h]
variable {e:List Int}
theorem rng_row (h:X1 t e)(hi:i<t.length):∀r∈t.getD i [],∀x∈r,I64 x:=h.t _ (j0 hi)
theorem CI (h:∀T∈t,∀r∈T,∀x∈r,0≤x):encTI t=s9 (MX t):=by unfold encTI s9 MX;rw[List.map_map];refine List.map_congr_left fun T hT=>?_;show AV.vec T.length _=AV.vec (T.map fun r=>r.map Int.toNat).length _;rw[List.length_map];refine congrArg (AV.vec T.length) ?_;unfold aL;rw[List.map_map];refine List.map_congr_left fun r hr=>?_;show AV.vec r.length (g8 r)=bH (r.map Int.toNat);rw[bH,List.length_map,X2 (h T hT r hr)]
theorem YP {p:Nat→Prop}{n:Nat}:(∃j,j<n∧(! dcd (p j))=true)↔¬∀j,j<n→p j:=by
  constructor
  · rintro ⟨j,hj,h⟩ ha
    rw[tS (ha j hj)]at h;cases h
  · intro h
    refine Classical.byContradiction fun hn=>h fun j hj=>Classical.byContradiction fun hp=>hn ⟨j,hj,?_⟩;rw[nY hp];rfl
theorem ND {p:Prop}:(! dcd p)=dcd (¬p):=by
  by_cases h:p
  · rw[tS h,nY (fun hn=>hn h)]
    rfl
  · rw[nY h,tS h]
    rfl
theorem G6 {α:Type}{l:List α}{d:α}{p:α→Prop}:(∀j,j<l.length→p (l.getD j d))↔∀x∈l,p x:=by
  constructor
  · intro h x hx
    obtain ⟨j,hj,rfl⟩:=List.getElem_of_mem hx;have:=h j hj;have e1:l.getD j d=l[j]:=by simp[List.getD,hj]
    rw[e1]at this;exact this
  · intro h j hj
    exact h _ (j0 hj)
variable {u:Un}{mx:Nat}
theorem row_all {r:List Int}(h:r.length=kM u mx+1):dcd (∃j,j<r.length∧(! dcd (OkX u mx (r.getD j 0)))=true)=! dcd (tT u mx r):=by rw[ND];refine congrArg dcd (propext ?_);rw[YP (p:=fun j=>OkX u mx (r.getD j 0)),G6 (p:=OkX u mx)];exact not_congr ⟨fun h2=>⟨h,h2⟩,fun h2=>h2.2⟩
variable {c:Clo}
theorem shp_all (h:(t.getD i []).length=r9 u c i)(he:OkX u mx (e.getD i 0)):(! dcd (∃j,j<(t.getD i []).length∧(! dcd (tT u mx ((t.getD i []).getD j [])))=true))=dcd (FO u c mx t e i):=by rw[ND];refine congrArg dcd (propext ?_);rw[YP (p:=fun j=>tT u mx ((t.getD i []).getD j [])),G6 (p:=tT u mx),Classical.not_not];exact ⟨fun h2=>⟨h,h2,he⟩,fun h2=>h2.2.1⟩
attribute [local go_sem] rd bH r7 u6 p7 n6 l8 z6 o5 Int.natCast_nonneg Int.natCast_inj aD cW cJ cX gD fV nX kC aZ kD pR dL jE jF fW List.length_set List.length_replicate Int.toNat_natCast_add_one eG wrap64 List.length_map cL cY fP fQ aZ u4 w9 gS gT bQ o5 orN lP beq_self_eq_true bne_self_eq_false yL rL vC Bool.not_not NB NC xS rN
variable {h:c6}
theorem c_rcode (hu:WU u)(wc:WC u c)(hmx:mx<u.c4.length)(hg:X1 t e)(hL:Lng c t e)(hi:i<c.insts.length):CB 113 [.agg [.vec u.globals.length (g8 u.globals),.vec u.c4.length (g6 u.c4),.vec u.procs.length (l4 u.procs),.int .i64 u.main,.vec c.insts.length (l7 c.insts),.vec c.calls.length (n4 c.calls),.vec c.roots.length (g8 c.roots),.int .i64 ((mx:Nat):Int),.vec t.length (encTI t),.vec e.length (g8 e)],.int .i64 ((i:Nat):Int)] h (.vec (c8 u (itI c i)).length (s5 (c8 u (itI c i)))):=by refine .bz Tryz.f113 18 ?_;have hwl:=wc.len;have hk8:kM u mx≤8:=dV;have hk9:nD (u.c4.getD mx aA)≤8:=hk8;have hml:=hu.ml;have hrl:=wc.rl;have hcl:=wc.cl;have htl:t.length=c.insts.length:=hL.1;have hel:e.length=c.insts.length:=hL.2;have w:=gE wc hi;have w1:=w.lo;have w2:=w.hi;have hsz:(c8 u (itI c i)).length≤1664:=q9 hu w;have hlI:r9 u c i=(c8 u (itI c i)).length:=rfl;have hlp:1≤(c8 u (itI c i)).length:=(dU hu w).1;refine .z ?_;refine .ss z8 (mkP 14 [0,1,3,0,8,24,0,120,248,504,1023,2047,4095,8191] []) ?_;refine c47z ?_;exact .ret (.ex (hq:=by rfl))
theorem c_hiI (hu:WU u)(wc:WC u c)(hmx:mx<u.c4.length){b0:Blk}{x:Int}(hx:I64 x)(l:c6):CB 112 [.int .i64 x,.ptr (h.length+1) 0 0] (h++(b0::⟨0,false,3,1,[.int .i64 ((kM u mx:Nat):Int)],0⟩::l)) (.bool (! dcd (OkX u mx x))):=by refine .bz Tryz.f112 9 ?_;have hwl:=wc.len;have hk8:kM u mx≤8:=dV;have hk9:nD (u.c4.getD mx aA)≤8:=hk8;have hml:=hu.ml;have hz:=VF hx hk8;refine c209z ?_;refine .ca rfl rfl (c_fullN hk8) ?_;refine .n ?_;exact .ret (.ex (hq:=by (refine congrArg AV.bool ?_;rw[Bool.eq_iff_iff,Bool.not_eq_true',←Bool.not_eq_true,lD,bne_iff_ne,ne_eq,hz];exact Iff.rfl)))
variable {caps:List AV}{p:Nat→Bool}
theorem c_ixH {X:List Int}(hl:X.length<100000)(hF:∀j,j<X.length→CB 112 (.int .i64 (X.getD j 0)::caps) h (.bool (p j))):CB 148 [.vec X.length (g8 X),.fn (.func 112) [] caps] h (.int .i64 (ixB p X.length)):=by
  refine .bz Tryz.f148 19 ?_;refine c16z ?_;refine .aR (fun m st=>∃(i:Nat),(m=X.length-i∧((∀d,d<i→p d=false)∧i≤X.length))∧st=⟨mkS 19 [(0,AV.vec X.length (g8 X)),(1,AV.fn (.func 112) [] caps),(7,AV.int .i64 ((X.length:Nat):Int)),(8,AV.int .i64 ((i:Nat):Int))],h⟩) _ (.v ⟨0,⟨rfl,⟨t78,by omega⟩⟩,rfl⟩) ?_;rintro m sl h' ⟨i,⟨hm,⟨hI,hi0⟩⟩,hst⟩;obtain ⟨rfl,rfl⟩:=St.mk.inj hst;refine c23z ?_;refine u2z ?_ ?_
  ·intro e1 qe1;refine c131z ?_;refine c29z ?_;refine o4.cq rfl (rfl) hb112 (hF _ (by omega)) ?_;refine .nil ?_;refine u2z ?_ ?_
   ·intro e2 qe2;refine .c7 [5] ?_;refine c28z ?_;exact ⟨[],_,(List.append_nil _).symm,t42,t67⟩
   intro e2 qe2;refine c214z ?_;refine .rz ?_;exact ⟨_,by omega,.v ⟨(i+1),⟨rfl,⟨(fun d hd=>if h9:d=i then by rw[h9];assumption else hI d (by omega)),by omega⟩⟩,rfl⟩⟩
  intro e1 qe1;refine c63z ?_;exact ⟨[],_,(List.append_nil _).symm,t42,t67⟩
theorem c_cfH {X:List Int}(hl:X.length<100000)(hF:∀j,j<X.length→CB 112 (.int .i64 (X.getD j 0)::caps) h (.bool (p j))):CB 116 [.vec X.length (g8 X),.fn (.func 112) [] caps] h (.bool (dcd (∃j,j<X.length∧p j=true))):=by refine .bz Tryz.f116 9 ?_;refine c209z ?_;refine .ca rfl rfl (c_ixH hl hF) ?_;refine c105z ?_;exact ⟨[],_,(List.append_nil _).symm,t42,t132⟩
theorem c_ixS (hl:T.length<100000)(hF:∀j,j<T.length→CB 115 (AV.vec (T.getD j []).length (g8 (T.getD j []))::caps) h (.bool (p j))):CB 147 [.vec T.length (fY T),.fn (.func 115) [] caps] h (.int .i64 (ixB p T.length)):=by
  refine .bz Tryz.f147 19 ?_;refine c16z ?_;refine .aR (fun m st=>∃(i:Nat),(m=T.length-i∧((∀d,d<i→p d=false)∧i≤T.length))∧st=⟨mkS 19 [(0,AV.vec T.length (fY T)),(1,AV.fn (.func 115) [] caps),(7,AV.int .i64 ((T.length:Nat):Int)),(8,AV.int .i64 ((i:Nat):Int))],h⟩) _ (.v ⟨0,⟨rfl,⟨t78,by omega⟩⟩,rfl⟩) ?_;rintro m sl h' ⟨i,⟨hm,⟨hI,hi0⟩⟩,hst⟩;obtain ⟨rfl,rfl⟩:=St.mk.inj hst;refine c23z ?_;refine u2z ?_ ?_
  ·intro e1 qe1;refine c131z ?_;refine c29z ?_;refine o4.cq rfl (rfl) hb115 (hF _ (by omega)) ?_;refine .nil ?_;refine u2z ?_ ?_
   ·intro e2 qe2;refine .c7 [5] ?_;refine c28z ?_;exact ⟨[],_,(List.append_nil _).symm,t42,t67⟩
   intro e2 qe2;refine c214z ?_;refine .rz ?_;exact ⟨_,by omega,.v ⟨(i+1),⟨rfl,⟨(fun d hd=>if h9:d=i then by rw[h9];assumption else hI d (by omega)),by omega⟩⟩,rfl⟩⟩
  intro e1 qe1;refine c63z ?_;exact ⟨[],_,(List.append_nil _).symm,t42,t67⟩
theorem c_cfS (hl:T.length<100000)(hF:∀j,j<T.length→CB 115 (AV.vec (T.getD j []).length (g8 (T.getD j []))::caps) h (.bool (p j))):CB 114 [.vec T.length (fY T),.fn (.func 115) [] caps] h (.bool (dcd (∃j,j<T.length∧p j=true))):=by refine .bz Tryz.f114 9 ?_;refine c209z ?_;refine .ca rfl rfl (c_ixS hl hF) ?_;refine c105z ?_;exact ⟨[],_,(List.append_nil _).symm,t42,t132⟩
theorem c_rowI (hu:WU u)(wc:WC u c)(hmx:mx<u.c4.length){b0:Blk}{r:List Int}(hr:∀x∈r,I64 x)(l:c6):CB 115 [.vec r.length (g8 r),.ptr (h.length+1) 0 0,.ptr (h.length+2) 0 0] (h++(b0::⟨0,false,3,1,[.int .i64 ((kM u mx:Nat):Int)],0⟩::⟨0,false,115,1,[.fn (.func 112) [] [.ptr (h.length+1) 0 0]],0⟩::l)) (.bool (! dcd (tT u mx r))):=by
  refine .bz Tryz.f115 15 ?_;have hwl:=wc.len;have hk8:kM u mx≤8:=dV;have hk9:nD (u.c4.getD mx aA)≤8:=hk8;have hml:=hu.ml;refine .z ?_;refine c133z ?_;refine .spl 10 rfl rfl (fun e1=>?_) (fun e1=>?_)
  ·try simp only[e1]
   have qe1:=fact e1;refine .m [(5,10)] ?_;exact .ret (.ex (hq:=t140))
  try simp only[e1]
  have qe1:=fact e1;refine .k 2 [(5,10)] ?_;refine .ca rfl rfl (c_cfH (by omega) (fun j hj=>c_hiI hu wc hmx (hr _ (j0 hj)) _)) ?_;refine .n ?_;exact .ret (.ex (hq:=t140))
theorem VG (hu:WU u)(wc:WC u c)(hmx:mx<u.c4.length)(hg:X1 t e)(hL:Lng c t e)(hi:i<c.insts.length):CB 71 [.agg [.vec u.globals.length (g8 u.globals),.vec u.c4.length (g6 u.c4),.vec u.procs.length (l4 u.procs),.int .i64 u.main,.vec c.insts.length (l7 c.insts),.vec c.calls.length (n4 c.calls),.vec c.roots.length (g8 c.roots),.int .i64 ((mx:Nat):Int),.vec t.length (encTI t),.vec e.length (g8 e)],.int .i64 ((i:Nat):Int)] h (.bool (dcd (FO u c mx t e i))):=by
  refine .bz Tryz.f71 47 ?_;have hwl:=wc.len;have hk8:kM u mx≤8:=dV;have hk9:nD (u.c4.getD mx aA)≤8:=hk8;have hml:=hu.ml;have hrl:=wc.rl;have hcl:=wc.cl;have htl:t.length=c.insts.length:=hL.1;have hel:e.length=c.insts.length:=hL.2;have w:=gE wc hi;have w1:=w.lo;have w2:=w.hi;have hsz:(c8 u (itI c i)).length≤1664:=q9 hu w;have hlI:r9 u c i=(c8 u (itI c i)).length:=rfl;have hlp:1≤(c8 u (itI c i)).length:=(dU hu w).1;refine .z ?_;refine .s ?_;refine .e 7 ?_;refine .ca rfl rfl (MJ u mx) ?_;refine .n ?_;refine .c7 [1,2,5] ?_;refine c23z ?_;refine .ss z8 (mkP 22 [0,1,3,0,15,31,63,0,0,384,896,2047,4095,8191,8191,24575,57343,8191,253951,516095,1048575,2097151] []) ?_;refine .k 8 [] ?_;refine .k 1 [] ?_;refine .ca rfl rfl (c_rcode hu wc hmx hg hL hi) ?_;refine .k 3 [] ?_;refine .spl 28 rfl rfl (fun e1=>?_) (fun e1=>?_)
  ·try simp only[e1]
   have qe1:=fact e1;refine .k 8 [(12,28)] ?_;refine .n [] ?_;refine c210z ?_;exact .ret (.ex (hq:=t61))
  try simp only[e1]
  have qe1:=fact e1;refine .k 7 [(12,28)] ?_;refine kF.cq rfl (rfl) hb112 (c_hiI hu wc hmx (hg.e _ (j0 (by omega))) _) ?_;refine .n [] ?_;refine u2z ?_ ?_
  ·intro e2 qe2;refine c10z ?_;exact .ret (.ex (hq:=t61))
  intro e2 qe2;refine .sk ?_;refine .c7 [1,2,5,6] ?_;refine .s ?_;refine .e 7 ?_;refine .ca rfl rfl (c_cfS (by omega) (fun j hj=>c_rowI hu wc hmx (rng_row hg (by omega) _ (j0 hj)) [])) ?_;refine .n ?_;exact .ret (.ex (hq:=t61))
theorem FG (hu:WU u)(wc:WC u c)(hmx:mx<u.c4.length)(hg:X1 t e):CB 39 [.agg [.vec u.globals.length (g8 u.globals),.vec u.c4.length (g6 u.c4),.vec u.procs.length (l4 u.procs),.int .i64 u.main],.agg [.vec c.insts.length (l7 c.insts),.vec c.calls.length (n4 c.calls),.vec c.roots.length (g8 c.roots)],.int .i64 ((mx:Nat):Int),.vec t.length (encTI t),.vec e.length (g8 e)] h (.tup [.int .i64 (OY u c mx t e),.int .i64 (OZ u c mx t e)]):=by
  refine .bz Tryz.f39 60 ?_;have hwl:=wc.len;have hk8:kM u mx≤8:=dV;have hk9:nD (u.c4.getD mx aA)≤8:=hk8;have hml:=hu.ml;have hrl:=wc.rl;have hcl:=wc.cl;refine c23z ?_;refine .s ?_;refine .e 7 ?_;refine .spl 21 rfl rfl (fun e1=>?_) (fun e1=>?_)
  ·try simp only[e1]
   have qe1:=fact e1;refine .m [(6,21)] ?_;refine c210z ?_;exact .ret (.ex (hq:=t80))
  try simp only[e1]
  have qe1:=fact e1;refine .m [(6,21)] ?_;refine u2z ?_ ?_
  ·intro e2 qe2;refine c10z ?_;exact .ret (.ex (hq:=t80))
  intro e2 qe2;refine .sk ?_;refine .c7 [2,3,4,5,6] ?_;have hL:Lng c t e:=⟨by omega,by omega⟩;have htl:t.length=c.insts.length:=hL.1;have hel:e.length=c.insts.length:=hL.2;refine c244z ?_;refine .c7 [3,12] ?_;refine c15z ?_;refine .aR (fun m st=>∃(i:Nat),(m=t.length-i∧((∀d,d<i→FO u c mx t e d)∧i≤t.length))∧st=⟨mkS 60 [(3,AV.vec t.length (encTI t)),(12,AV.ptr (h.length+2) 0 0),(37,AV.int .i64 ((t.length:Nat):Int)),(38,AV.int .i64 ((i:Nat):Int))],h++[bU u,bC c,⟨0,false,114,10,[.vec u.globals.length (g8 u.globals),.vec u.c4.length (g6 u.c4),.vec u.procs.length (l4 u.procs),.int .i64 u.main,.vec c.insts.length (l7 c.insts),.vec c.calls.length (n4 c.calls),.vec c.roots.length (g8 c.roots),.int .i64 ((mx:Nat):Int),.vec t.length (encTI t),.vec e.length (g8 e)],0⟩]⟩) _ (.v ⟨0,⟨rfl,⟨t78,by omega⟩⟩,rfl⟩) ?_;rintro m sl h' ⟨i,⟨hm,⟨hI,hi0⟩⟩,hst⟩;obtain ⟨rfl,rfl⟩:=St.mk.inj hst;refine c23z ?_;refine u2z ?_ ?_
  ·intro e3 qe3;refine c131z ?_;refine c17z ?_;refine .ca rfl rfl (VG hu wc hmx hg hL (show i<c.insts.length by omega)) ?_;refine .n ?_;refine u2z ?_ ?_
   ·intro e4 qe4;refine .c7 [13] ?_;refine .z ?_;exact .ret (.ex (hq:=by (obtain ⟨hq1,hq2⟩:=MY (m:=mx) hL (show i<c.insts.length by omega) hI (fun hh=>by have h1:=tS hh;have h2:dcd (FO u c mx t e i)=false:=t130;rw[h1]at h2;cases h2);rw[hq1,hq2])))
   intro e4 qe4;refine c5z ?_;refine .rz ?_;exact ⟨_,by omega,.v ⟨(i+1),⟨rfl,⟨(fun d hd=>if h9:d=i then by rw[h9];exact lD.1 (by assumption) else hI d (by omega)),by omega⟩⟩,rfl⟩⟩
  intro e3 qe3;refine c8z ?_;refine .seq ?_;have hsh:∀d,d<c.insts.length→FO u c mx t e d:=fun d hd=>hI d (by omega);obtain ⟨hq1,hq2⟩:=MZ hL hsh;rw[hq1,hq2];obtain ⟨hS,hn1,hn2⟩:=NA hL hsh;have ee1:=CI hn1;have ee2:g8 e=(OX e).map l5:=X2 hn2;simp only[ee1,ee2,htl,hel];generalize MX t=L at hS ⊢;generalize OX e=E at hS ⊢;refine c15z ?_;refine .aR (fun m st=>∃(i:Nat),(m=c.insts.length-i∧((∀d,d<i→Hc u c mx L E d)∧i≤c.insts.length))∧st=⟨mkS 60 [(3,AV.vec c.insts.length (s9 L)),(12,AV.ptr (h.length+2) 0 0),(48,AV.int .i64 ((c.insts.length:Nat):Int)),(49,AV.int .i64 ((i:Nat):Int))],h++[bU u,bC c,⟨0,false,114,10,[.vec u.globals.length (g8 u.globals),.vec u.c4.length (g6 u.c4),.vec u.procs.length (l4 u.procs),.int .i64 u.main,.vec c.insts.length (l7 c.insts),.vec c.calls.length (n4 c.calls),.vec c.roots.length (g8 c.roots),.int .i64 ((mx:Nat):Int),.vec c.insts.length (s9 L),.vec c.insts.length (E.map l5)],0⟩]⟩) _ (.v ⟨0,⟨rfl,⟨t78,by omega⟩⟩,rfl⟩) ?_;rintro m sl h' ⟨i,⟨hm,⟨hI,hi0⟩⟩,hst⟩;obtain ⟨rfl,rfl⟩:=St.mk.inj hst;refine c23z ?_;refine u2z ?_ ?_
  ·intro e5 qe5;refine c131z ?_;refine c17z ?_;refine .ca rfl rfl (MV hu wc hmx hS (show i<c.insts.length by omega)) ?_;refine .n ?_;refine u2z ?_ ?_
   ·intro e6 qe6;refine .c7 [14] ?_;refine .z ?_;exact .ret (.ex (hq:=t145))
   intro e6 qe6;refine c5z ?_;refine .rz ?_;exact ⟨_,by omega,.v ⟨(i+1),⟨rfl,⟨(fun d hd=>if h9:d=i then by rw[h9];exact lD.1 (by assumption) else hI d (by omega)),by omega⟩⟩,rfl⟩⟩
  intro e5 qe5;refine c8z ?_;refine .z ?_;exact .ret (.ex (hq:=t165))
theorem NF (hu:WU u)(wc:WC u c)(hmx:mx<u.c4.length)(hi:i<c.insts.length):CB 76 [.agg [.vec u.globals.length (g8 u.globals),.vec u.c4.length (g6 u.c4),.vec u.procs.length (l4 u.procs),.int .i64 u.main],.agg [.vec c.insts.length (l7 c.insts),.vec c.calls.length (n4 c.calls),.vec c.roots.length (g8 c.roots)],.int .i64 ((mx:Nat):Int),.vec T.length (fY T),.int .i64 ((i:Nat):Int)] h (.bool (dcd (T.length=r9 u c i∧∀r∈T,tT u mx r))):=by
  refine .bz Tryz.f76 75 ?_;have hwl:=wc.len;have hk8:kM u mx≤8:=dV;have hk9:nD (u.c4.getD mx aA)≤8:=hk8;have hml:=hu.ml;have hrl:=wc.rl;have hcl:=wc.cl;have w:=gE wc hi;have w1:=w.lo;have w2:=w.hi;have hsz:(c8 u (itI c i)).length≤1664:=q9 hu w;have hlI:r9 u c i=(c8 u (itI c i)).length:=rfl;have hlp:1≤(c8 u (itI c i)).length:=(dU hu w).1;have hk5:=nU hk8;refine .z ?_;refine c168z ?_;refine c27z ?_;refine .c7 [3,4,5,6,11] ?_;refine .ss z8 (mkP 15 [0,1,0,4,0,16,0,112,240,496,1020,2044,4092,8188,16383] []) ?_;refine c47z ?_;refine u2z ?_ ?_
  ·intro e1 qe1;refine c10z ?_;exact .ret (.ex (hq:=t19))
  intro e1 qe1;refine c137z ?_;refine .c7 [3,11] ?_;refine c15z ?_;refine .aR (fun m st=>∃(j:Nat),(m=r9 u c i-j∧((∀p,p<j→tT u mx (T.getD p []))∧j≤r9 u c i))∧st=⟨mkS 75 [(3,AV.vec T.length (fY T)),(11,AV.int .i64 ((kM u mx:Nat):Int)),(12,AV.int .i64 ((j:Nat):Int))],h++[bU u,bC c]⟩) _ (.v ⟨0,⟨rfl,⟨t222,by omega⟩⟩,rfl⟩) ?_;rintro m sl h' ⟨j,⟨hm,⟨hJ,hj⟩⟩,hst⟩;obtain ⟨rfl,rfl⟩:=St.mk.inj hst;refine c1z ?_;refine u2z ?_ ?_
  ·intro e2 qe2;refine c3z ?_;refine c1z ?_;refine u2z ?_ ?_
   ·intro e3 qe3;refine c10z ?_;exact .ret (.ex (hq:=t19))
   intro e3 qe3;refine .sk ?_;refine .c7 [3,11,12] ?_;refine c15z ?_;refine .aR (fun m st=>∃(d:Nat),(m=kM u mx+1-d∧((∀q,q<d→OkX u mx ((T.getD j []).getD q 0))∧d≤kM u mx+1))∧st=⟨mkS 75 [(3,AV.vec T.length (fY T)),(11,AV.int .i64 ((kM u mx:Nat):Int)),(12,AV.int .i64 ((j:Nat):Int)),(13,AV.int .i64 ((d:Nat):Int))],h++[bU u,bC c]⟩) _ (.v ⟨0,⟨rfl,⟨by intro q hq;omega,by omega⟩⟩,rfl⟩) ?_;rintro m sl h' ⟨d,⟨hm,⟨hD,hd⟩⟩,hst⟩;obtain ⟨rfl,rfl⟩:=St.mk.inj hst;refine c1z ?_;refine u2z ?_ ?_
   ·intro e4 qe4;refine c3z ?_;refine .ss z8 (mkP 21 [0,0,3,7,0,31,63,127,255,511,511,2047,4095,511,16383,32767,511,66047,197119,524287,1048575] []) ?_;refine .k 8 [] ?_;refine .k 1 [] ?_;refine .spl 62 rfl rfl (fun e5=>?_) (fun e5=>?_)
    ·try simp only[e5]
     have qe5:=fact e5;refine .k 8 [(8,62)] ?_;refine .n [(8,62)] ?_;refine c210z ?_;exact .ret (.ex (hq:=t19))
    try simp only[e5]
    have qe5:=fact e5;refine .k 8 [(8,62)] ?_;refine .n [(8,62)] ?_;refine u2z ?_ ?_
    ·intro e6 qe6;refine c10z ?_;exact .ret (.ex (hq:=t19))
    intro e6 qe6;refine c5z ?_;refine .c7 [3,11,12,13] ?_;refine .rz ?_;exact ⟨_,by omega,.v ⟨(d+1),⟨rfl,⟨(fun q hq=>if h9:q=d then by rw[h9];exact ⟨by omega,by omega⟩ else hD q (by omega)),by omega⟩⟩,rfl⟩⟩
   intro e4 qe4;refine c8z ?_;refine .rz ?_;exact ⟨_,by omega,.v ⟨(j+1),⟨rfl,⟨(fun p hp=>if h9:p=j then by rw[h9];exact ⟨by omega,G6.1 (fun q hq=>hD q (by omega))⟩ else hJ p (by omega)),by omega⟩⟩,rfl⟩⟩
  intro e2 qe2;refine c8z ?_;refine .z ?_;exact .ret (.ex (hq:=t19))
theorem VH (hu:WU u)(wc:WC u c)(hmx:mx<u.c4.length)(hg:X1 t e):CB 44 [.agg [.vec u.globals.length (g8 u.globals),.vec u.c4.length (g6 u.c4),.vec u.procs.length (l4 u.procs),.int .i64 u.main],.agg [.vec c.insts.length (l7 c.insts),.vec c.calls.length (n4 c.calls),.vec c.roots.length (g8 c.roots)],.int .i64 ((mx:Nat):Int),.vec t.length (encTI t),.vec e.length (g8 e)] h (.tup [.int .i64 (OY u c mx t e),.int .i64 (OZ u c mx t e)]):=by
  refine .bz Tryz.f44 81 ?_;have hwl:=wc.len;have hk8:kM u mx≤8:=dV;have hk9:nD (u.c4.getD mx aA)≤8:=hk8;have hml:=hu.ml;have hrl:=wc.rl;have hcl:=wc.cl;have hk5:=nU hk8;refine c239z ?_;refine c29z ?_;refine .spl 22 rfl rfl (fun e1=>?_) (fun e1=>?_)
  ·try simp only[e1]
   have qe1:=fact e1;refine .m [(4,22)] ?_;refine c210z ?_;exact .ret (.ex (hq:=t80))
  try simp only[e1]
  have qe1:=fact e1;refine .m [(4,22)] ?_;refine u2z ?_ ?_
  ·intro e2 qe2;refine c10z ?_;exact .ret (.ex (hq:=t80))
  intro e2 qe2;refine c137z ?_;refine .c7 [2,3,4,5,6,12] ?_;have hL:Lng c t e:=⟨by omega,by omega⟩;have htl:t.length=c.insts.length:=hL.1;have hel:e.length=c.insts.length:=hL.2;refine c15z ?_;refine .aR (fun m st=>∃(i:Nat),(m=c.insts.length-i∧((∀d,d<i→FO u c mx t e d)∧i≤c.insts.length))∧st=⟨mkS 81 [(2,AV.int .i64 ((mx:Nat):Int)),(3,AV.vec t.length (encTI t)),(4,AV.vec e.length (g8 e)),(5,AV.ptr h.length 0 0),(6,AV.ptr (h.length+1) 0 0),(12,AV.int .i64 ((c.insts.length:Nat):Int)),(13,AV.int .i64 ((i:Nat):Int))],h++[bU u,bC c]⟩) _ (.v ⟨0,⟨rfl,⟨t78,by omega⟩⟩,rfl⟩) ?_;rintro m sl h' ⟨i,⟨hm,⟨hI,hi0⟩⟩,hst⟩;obtain ⟨rfl,rfl⟩:=St.mk.inj hst;refine c1z ?_;refine u2z ?_ ?_
  ·intro e3 qe3;refine c3z ?_;refine .ss z8 (mkP 32 [0,0,0,0,0,24,56,0,255,511,1023,2047,2047,8191,16383,32767,65535,131071,262143,262143,1048575,2097151,262143,4456447,262143,29622271,63176703,130285567,264503295,532938751,1073741823,2147483647] []) ?_;refine .k 8 [] ?_;refine .ca rfl rfl (NF hu wc hmx (show i<c.insts.length by omega)) ?_;refine .k 2 [] ?_;refine .spl 43 rfl rfl (fun e4=>?_) (fun e4=>?_)
   ·try simp only[e4]
    have qe4:=fact e4;refine .k 8 [(10,43),(17,50)] ?_;refine .k 8 [(17,50)] ?_;refine .n [(17,50)] ?_;refine .T ?_;refine .c7 [13] ?_;refine .z ?_;exact .ret (.ex (hq:=t45))
   try simp only[e4]
   have qe4:=fact e4;refine .k 7 [(10,43)] ?_;refine .spl 50 rfl rfl (fun e5=>?_) (fun e5=>?_)
   ·try simp only[e5]
    have qe5:=fact e5;refine .k 8 [(17,50)] ?_;refine .n [(17,50)] ?_;refine .T ?_;refine .c7 [13] ?_;refine .z ?_;exact .ret (.ex (hq:=t45))
   try simp only[e5]
   have qe5:=fact e5;refine .k 8 [(17,50)] ?_;refine .k 1 [(17,50)] ?_;refine .ca rfl rfl (G2 u mx) ?_;refine .n [(17,50)] ?_;refine u2z ?_ ?_
   ·intro e6 qe6;refine .c7 [13] ?_;refine .z ?_;exact .ret (.ex (hq:=t45))
   intro e6 qe6;refine c5z ?_;refine .c7 [2,3,4,5,6,12,13] ?_;refine .rz ?_;exact ⟨_,by omega,.v ⟨(i+1),⟨rfl,⟨(fun d hd=>if h9:d=i then by rw[h9];have h8:dcd ((t.getD i []).length=r9 u c i∧∀r∈(t.getD i []),tT u mx r)=true:=(by assumption);have h7:=lD.1 h8;exact ⟨h7.1,h7.2,by omega,by omega⟩ else hI d (by omega)),by omega⟩⟩,rfl⟩⟩
  intro e3 qe3;refine c8z ?_;refine .seq ?_;have hsh:∀d,d<c.insts.length→FO u c mx t e d:=fun d hd=>hI d (by omega);obtain ⟨hq1,hq2⟩:=MZ hL hsh;rw[hq1,hq2];obtain ⟨hS,hn1,hn2⟩:=NA hL hsh;have ee1:=CI hn1;have ee2:g8 e=(OX e).map l5:=X2 hn2;simp only[ee1,ee2,htl,hel];generalize MX t=L at hS ⊢;generalize OX e=E at hS ⊢;refine c15z ?_;refine .aR (fun m st=>∃(i:Nat),(m=c.insts.length-i∧((∀d,d<i→Hc u c mx L E d)∧i≤c.insts.length))∧st=⟨mkS 81 [(2,AV.int .i64 ((mx:Nat):Int)),(3,AV.vec c.insts.length (s9 L)),(4,AV.vec c.insts.length (E.map l5)),(5,AV.ptr h.length 0 0),(6,AV.ptr (h.length+1) 0 0),(12,AV.int .i64 ((c.insts.length:Nat):Int)),(14,AV.int .i64 ((i:Nat):Int))],h++[bU u,bC c]⟩) _ (.v ⟨0,⟨rfl,⟨t78,by omega⟩⟩,rfl⟩) ?_;rintro m sl h' ⟨i,⟨hm,⟨hI,hi0⟩⟩,hst⟩;obtain ⟨rfl,rfl⟩:=St.mk.inj hst;refine c1z ?_;refine u2z ?_ ?_
  ·intro e7 qe7;refine c3z ?_;refine c133z ?_;refine .ca rfl rfl (MW hu wc hmx hS (show i<c.insts.length by omega)) ?_;refine .n ?_;refine u2z ?_ ?_
   ·intro e8 qe8;refine .c7 [14] ?_;refine .z ?_;exact .ret (.ex (hq:=t145))
   intro e8 qe8;refine c5z ?_;refine .c7 [2,3,4,5,6,12,14] ?_;refine .rz ?_;exact ⟨_,by omega,.v ⟨(i+1),⟨rfl,⟨(fun d hd=>if h9:d=i then by rw[h9];exact lD.1 (by assumption) else hI d (by omega)),by omega⟩⟩,rfl⟩⟩
  intro e7 qe7;refine c8z ?_;refine .c7 [12] ?_;refine .z ?_;exact .ret (.ex (hq:=t165))
end Go.Proofs.YtonbocmibeikmaaGreat
end
section
namespace Go.Ab
section
variable {P:Program}{C:Cfg}{h:c6}
theorem CallA.lend {f:FuncId}{args args':List AV}{n:Nat}{e:TypeId}{cs:List AV}(ha:OQ 0 h args' args)(hc:∀x∈cs,∃k m,x=.int k m)
  (r:CallA P C f args' (z4 0 h) fun y k=>y=.own h.length 0 0 n∧k=z4 0 h++[⟨0,false,e,1,cs,0⟩]):CallA P C f args h fun y k=>y=.own h.length 0 0 n∧k=h++[⟨0,false,e,1,cs,0⟩]:=by
 intro B φ w cargs i hs hr;obtain ⟨i',_⟩:=B1 0 i;obtain ⟨k1,k2⟩:=ha.get;have hdl:(z4 0 h).length=h.length:=kL 0 h;have hdv:∀{β:Nat} {c:Blk},(z4 0 h)[β]?=some c→c.cQ=false→False:=fun {β c} hb hv=>by
  rcases dO hb with ⟨hn,_⟩ | ⟨_,b',_,rfl⟩
  ·omega
  ·cases hv
 have i0:Pic C.eJ w.heap.size (z4 0 h) φ w:=⟨fun β b hb hv=>(hdv hb hv).elim,fun β β' b b' hb _ hv=>(hdv hb hv).elim,fun β b hb hv=>(hdv hb hv).elim,i'.cQ,Nat.le_refl _,i'.eJ⟩;refine (r w.heap.size φ w cargs i0 t221 fun j v y h1 h2=>?_).mono fun ex w' hp=>?_
 ·have hj:j<args.length:=by rw[←k1];exact (List.getElem?_eq_some_iff.1 h2).1
  have e1:args'.getD j .any=y:=by simp[List.getD,h2]
  have e2:args.getD j .any=args[j]:=by simp[List.getD,hj]
  rcases k2 j with h | h
  ·rw[e1]at h;rw[h];exact .jW _
  ·rw[e1,e2]at h;exact B2 i 0 h (hr j v _ h1 (List.getElem?_eq_getElem hj))
 obtain ⟨v,y,h',φ',rfl,h1,h2,h3,rfl,rfl⟩:=hp;have hnew:(z4 0 h++[(⟨0,false,e,1,cs,0⟩:Blk)])[h.length]?=some ⟨0,false,e,1,cs,0⟩:=by rw[List.getElem?_append_right (by omega),hdl,Nat.sub_self];rfl
 have hb2:w.heap.size≤(φ' h.length).1:=h1.base _ _ hnew rfl;obtain ⟨cur,q1,q2,q3,q4⟩:=h1.blk _ _ hnew rfl;have hk:∀k,k<w.heap.size→w'.heap[k]?=w.heap[k]?:=fun k hk=>(h2.lU k ⟨hk,fun β b hb hv=>(hdv hb hv).elim⟩).1;have look:∀{β:Nat} {b:Blk},(h++[(⟨0,false,e,1,cs,0⟩:Blk)])[β]?=some b→(h[β]?=some b∧β≠h.length)∨(β=h.length∧b=⟨0,false,e,1,cs,0⟩):=by
  intro β b hb;rcases Nat.lt_trichotomy β h.length with hl | he | hl
  ·rw[List.getElem?_append_left hl]at hb;exact .inl ⟨hb,by omega⟩
  ·subst he;simp at hb;exact .inr ⟨rfl,hb.symm⟩
  ·rw[List.getElem?_eq_none t65]at hb;cases hb
 have hne:∀{β:Nat} {b:Blk},h[β]?=some b→β≠h.length:=fun hb he=>by have:=(List.getElem?_eq_some_iff.1 hb).1;omega
 have ev:Ev h φ w (h++[⟨0,false,e,1,cs,0⟩]) (fun β=>if β=h.length then φ' h.length else φ β) w':=by
  refine ⟨h2.os,h2.tape,h2.output,h2.size,fun j hj=>⟨hk j hj.1,Nat.lt_of_lt_of_le hj.1 h2.size,fun β b hb hv=>?_⟩,fun j m hj=>⟨World.cell?_of_block (hk j hj.1),Nat.lt_of_lt_of_le hj.1 h2.size,fun β b hb hv=>?_⟩,by simp,fun β b b' h1 h2=>?_⟩
  ·rcases look hb with ⟨hb',hn⟩ | ⟨rfl,rfl⟩
   ·simp only[hn,if_false];exact hj.2 β b hb' hv
   ·have:=hj.1;simp only[if_true];omega
  ·rcases look hb with ⟨hb',hn⟩ | ⟨rfl,rfl⟩
   ·simp only[hn,if_false];exact hj.2 β b hb' hv
   ·have:=hj.1;simp only[if_true];omega
  ·rcases look h2 with ⟨hb',hn⟩ | ⟨rfl,rfl⟩
   ·rw[h1]at hb';cases hb';exact ⟨Nat.le_refl _,fun _=>by simp[hn]⟩
   ·exact absurd rfl (hne h1)
 refine ⟨v,_,h++[⟨0,false,e,1,cs,0⟩],(fun β=>if β=h.length then φ' h.length else φ β),rfl,⟨fun β b hb hv=>?_,fun β β' b b' hb hb' hv hv' he=>?_,fun β b hb hv=>?_,fun β b hb hv=>?_,Nat.le_trans i.room h2.size,fun g=>ev.H8 (i.eJ g)⟩,ev,?_,rfl,rfl⟩
 ·rcases look hb with ⟨hb',hn⟩ | ⟨rfl,rfl⟩
  ·simp only[hn,if_false];obtain ⟨c,a1,a2,a3,a4⟩:=i.blk β b hb' hv;exact ⟨c,(hk _ (Array.getElem?_eq_some_iff.1 a1).1).trans a1,a2,a3,fun j v x a c=>⟨(a4 j v x a c).1,ev.rel (a4 j v x a c).2⟩⟩
  ·simp only[if_true];refine ⟨cur,q1,q2,q3,fun j v x a c=>⟨(q4 j v x a c).1,?_⟩⟩;obtain ⟨k,m,rfl⟩:=hc x (List.mem_of_getElem? c);rw[(q4 j v _ a c).2.z5];exact .bY _ _
 ·rcases look hb with ⟨h1',n1⟩ | ⟨rfl,rfl⟩<;>rcases look hb' with ⟨h2',n2⟩ | ⟨rfl,rfl⟩
  ·simp only[n1,n2,if_false]at he;exact i.inj β β' b b' h1' h2' hv hv' he
  ·simp only[n1,if_false,if_true]at he;have:=i.lt h1' hv;omega
  ·simp only[n2,if_false,if_true]at he;have:=i.lt h2' hv';omega
  ·rfl
 ·rcases look hb with ⟨hb',hn⟩ | ⟨rfl,rfl⟩
  ·simp only[hn,if_false];exact i.base β b hb' hv
  ·simp only[if_true];exact Nat.le_trans i.room hb2
 ·rcases look hb with ⟨hb',hn⟩ | ⟨rfl,rfl⟩
  ·exact i.cQ β b hb' hv
  ·cases hv
 ·obtain ⟨ad,cap,b',rfl,hb',hg2,hlc,hcm,had,hn,hvv⟩:=h3.jV;rw[hnew]at hb';cases hb';refine .own h.length 0 0 n cap ad ⟨0,false,e,1,cs,0⟩ (by simp) (Nat.le_refl _) hlc hcm had (fun _ hv=>by cases hv) fun he hv=>?_;simp only[if_true];exact ⟨(hvv he hv).1,fun _=>(hvv he hv).2 rfl⟩
end
end Go.Ab
end
section
namespace Go.Proofs.YtonbocmibeikmaaGreat
open Go.Ab Go.Un
def mW (r:List Nat):Blk:=⟨0,false,3,1,r.map l5,0⟩
theorem enc_rep {n:Nat}:g8 (List.replicate n 0)=(List.replicate n (0:Nat)).map l5:=by simp[g8,l5]
theorem CJ {r:List Nat}:∀x∈r.map l5,∃k m,x=AV.int k m:=fun x hx=>by obtain ⟨n,_,rfl⟩:=List.mem_map.1 hx;exact ⟨_,_,rfl⟩
theorem NG {H:c6}{β n:Nat}{r:List Nat}(hb:H[β]?=some (mW r))(hn:r.length=n):pJ 0 H (.own β 0 0 n)=some (.vec n (r.map l5)):=by show iT 0 H 6 (.own β 0 0 n)=some (.vec n (r.map l5));rw[eN,hb];simp only[mW,Nat.zero_le,and_self,if_true,Bool.false_eq_true,if_false,Nat.zero_add,Nat.mul_one,List.length_map,hn,Nat.le_refl,List.drop_zero];rw[List.take_of_length_le (by rw[List.length_map];omega),(CC r).frz]
attribute [local go_sem] rd bH r7 u6 p7 n6 l8 z6 o5 Int.natCast_nonneg Int.natCast_inj aD cW cJ cX gD fV nX kC aZ kD pR dL jE jF fW List.length_set List.length_replicate Int.toNat_natCast_add_one eG wrap64 List.length_map cL cY fP fQ aZ u4 w9 gS gT bQ o5 orN lP beq_self_eq_true bne_self_eq_false yL rL
variable {h:c6}
theorem c_compO (a b:List Nat)(hb:∀x∈b,x<512)(hl:b.length≤9)(ha:∀x∈a,x<512)(hla:a.length≤9):CH 81 [bH a,bH b] h (.own h.length 0 0 a.length) (h++[⟨0,false,3,1,(n5 a b).map l5,0⟩]):=by
  refine .wz Tryz.f81 26 ?_;refine c49z ?_;refine .aR (fun m st=>∃(i:Nat) (zs:List Nat),(m=(a.length)-i∧(UpN (fun d=>applyN b (a.getD d 0)) i zs∧zs.length=(a.length)∧i≤(a.length)))∧st=⟨mkS 26 [(0,bH a),(1,bH b),(5,AV.own h.length 0 0 (a.length)),(6,AV.int .i64 ((i:Nat):Int))],h++[⟨0,false,3,1,zs.map l5,0⟩]⟩) _ (.v ⟨0,(List.replicate (a.length) 0),⟨rfl,⟨UpN.zero _ _,by simp,by omega⟩⟩,rfl⟩) ?_;rintro m sl h' ⟨i,zs,⟨hm,⟨hI,hz,hi⟩⟩,hst⟩;obtain ⟨rfl,rfl⟩:=St.mk.inj hst;have hga:=jB ha i;refine c1z ?_;refine u2z ?_ ?_
  ·intro e1 qe1;refine c3z ?_;refine .r ?_;refine .e 7 ?_;refine .ca rfl rfl (zK _ _ hb hga hl) ?_;refine c25z ?_;refine c89z ?_;exact ⟨_,by omega,.v ⟨(i+1),(zs.set i _),⟨rfl,⟨UpN.set (by omega) hI rfl,t100,by omega⟩⟩,rfl⟩⟩
  intro e1 qe1;refine c63z ?_;exact ⟨(h++[⟨0,false,3,1,zs.map l5,0⟩]),[],_,(List.append_nil _).symm,by simp,aI.new (fun b hb=>by obtain rfl:=List.mem_singleton.1 hb;exact CC _),xO (by simp),by (rw[hI.all hz (by omega)];exact ⟨rfl,by simp[n5]⟩)⟩
theorem VI (a b:List Nat)(hb:∀x∈b,x<512)(ha:∀x∈a,x<512)(hla:a.length≤9)(hab:b.length=a.length):CH 78 [bH a,bH b] h (.own h.length 0 0 a.length) (h++[⟨0,false,3,1,(bG a b).map l5,0⟩]):=by
  refine .wz Tryz.f78 29 ?_;refine c49z ?_;refine .aR (fun m st=>∃(i:Nat) (zs:List Nat),(m=(a.length)-i∧(UpN (fun d=>a.getD d 0|||b.getD d 0) i zs∧zs.length=(a.length)∧i≤(a.length)))∧st=⟨mkS 29 [(0,bH a),(1,bH b),(5,AV.own h.length 0 0 (a.length)),(6,AV.int .i64 ((i:Nat):Int))],h++[⟨0,false,3,1,zs.map l5,0⟩]⟩) _ (.v ⟨0,(List.replicate (a.length) 0),⟨rfl,⟨UpN.zero _ _,by simp,by omega⟩⟩,rfl⟩) ?_;rintro m sl h' ⟨i,zs,⟨hm,⟨hI,hz,hi⟩⟩,hst⟩;obtain ⟨rfl,rfl⟩:=St.mk.inj hst;have hga:=jB ha i;have hgb:=jB hb i;refine c1z ?_;refine u2z ?_ ?_
  ·intro e1 qe1;refine c3z ?_;refine c146z ?_;change c9 ..;refine c89z ?_;exact ⟨_,by omega,.v ⟨(i+1),(zs.set i _),⟨rfl,⟨UpN.set (by omega) hI rfl,t100,by omega⟩⟩,rfl⟩⟩
  intro e1 qe1;refine c63z ?_;exact ⟨(h++[⟨0,false,3,1,zs.map l5,0⟩]),[],_,(List.append_nil _).symm,by simp,aI.new (fun b hb=>by obtain rfl:=List.mem_singleton.1 hb;exact CC _),xO (by simp),by (rw[hI.all hz (by omega)];exact ⟨rfl,by simp[bG]⟩)⟩
attribute [local go_sem] BS Ea
theorem VJ (k:Nat)(hk:k≤8):CH 79 [.int .i64 ((k:Nat):Int),.int .i64 0] h (.own h.length 0 0 (k+1)) (h++[⟨0,false,3,1,g8 (shI k 0),0⟩]):=by
  refine .wz Tryz.f79 32 ?_;refine c49z ?_;refine .aR (fun m st=>∃(i:Nat) (zs:List Int),(m=(k+1)-i∧(tR (shV k 0) i zs∧zs.length=(k+1)∧i≤(k+1)))∧st=⟨mkS 32 [(0,AV.int .i64 ((k:Nat):Int)),(1,AV.int .i64 0),(5,AV.own h.length 0 0 (k+1)),(6,AV.int .i64 ((i:Nat):Int))],h++[⟨0,false,3,1,g8 zs,0⟩]⟩) _ (.v ⟨0,(List.replicate (k+1) 0),⟨rfl,⟨tR.zero _ _,by simp,by omega⟩⟩,(congrArg (St.mk _) (by rw[enc_rep]))⟩) ?_;rintro m sl h' ⟨i,zs,⟨hm,⟨hI,hz,hi⟩⟩,hst⟩;obtain ⟨rfl,rfl⟩:=St.mk.inj hst;refine c1z ?_;refine u2z ?_ ?_
  ·intro e1 qe1;refine c3z ?_;refine c79z ?_;refine .spl 21 rfl rfl (fun e2=>?_) (fun e2=>?_)
   ·try simp only[e2]
    have qe2:=fact e2;refine .m [(2,21)] ?_;refine u2z ?_ ?_
    ·intro e3 qe3;refine .c7 [0,1,5,6,7] ?_;refine c67z ?_;exact ⟨_,by omega,.v ⟨(i+1),(zs.set i _),⟨rfl,⟨tR.set (by omega) hI (by rw[shV,if_pos (by omega)]),t100,by omega⟩⟩,rfl⟩⟩
    intro e3 qe3;refine c5z ?_;refine c89z ?_;exact ⟨_,by omega,.v ⟨(i+1),zs,⟨rfl,⟨tR.skip hI t152,hz,by omega⟩⟩,rfl⟩⟩
   try simp only[e2]
   have qe2:=fact e2;refine .m [(2,21)] ?_;refine c48z ?_;refine c89z ?_;exact ⟨_,by omega,.v ⟨(i+1),zs,⟨rfl,⟨tR.skip hI t152,hz,by omega⟩⟩,rfl⟩⟩
  intro e1 qe1;refine c63z ?_;exact ⟨(h++[⟨0,false,3,1,g8 zs,0⟩]),[],_,(List.append_nil _).symm,by simp,aI.new (fun b hb=>by obtain rfl:=List.mem_singleton.1 hb;exact z7.map fun _=>.int),xO (by simp),by (rw[hI.all hz (by omega)];exact ⟨rfl,rfl⟩)⟩
section
variable {H:c6}{β γ n:Nat}{a b:List Nat}
theorem VK {k:Nat}(hk:k≤8):CH 79 [.int .i64 ((k:Nat):Int),.int .i64 0] H (.own H.length 0 0 (k+1)) (H++[mW (dhN k 0)]):=by
  refine (VJ (h:=H) k hk).mono fun y h' hq=>⟨hq.1,?_⟩;rw[hq.2];have e:g8 (shI k 0)=(dhN k 0).map l5:=by have:=O9 k 0;rw[bH]at this;exact (AV.vec.inj this).2
  rw[e];rfl
theorem CK (hb:∀x∈b,x<512)(ha:∀x∈a,x<512)(hl:a.length≤9)(hn:a.length=n)(hm:b.length=n)(h1:H[β]?=some (mW a))(h2:H[γ]?=some (mW b)):CH 78 [.own β 0 0 n,.own γ 0 0 n] H (.own H.length 0 0 n) (H++[mW (bG a b)]):=by refine CallA.lend (args':=[.vec n (a.map l5),.vec n (b.map l5)]) (cs:=(bG a b).map l5) ⟨.inr (NG h1 hn),.inr (NG h2 hm),trivial⟩ CJ ?_;have:=VI (h:=z4 0 H) a b hb ha hl (by omega);rw[kL]at this;unfold bH at this;rw[hm,hn]at this;exact this
theorem c_compZ (hb:∀x∈b,x<512)(hlb:b.length≤9)(ha:∀x∈a,x<512)(hl:a.length≤9)(hn:a.length=n)(h1:H[β]?=some (mW a)):CH 81 [.own β 0 0 n,bH b] H (.own H.length 0 0 n) (H++[mW (n5 a b)]):=by refine CallA.lend (args':=[.vec n (a.map l5),bH b]) (cs:=(n5 a b).map l5) ⟨.inr (NG h1 hn),.inr rfl,trivial⟩ CJ ?_;have:=c_compO (h:=z4 0 H) a b hb hlb ha hl;rw[kL]at this;unfold bH at this ⊢;rw[hn]at this;exact this
theorem NH (hl:a.length<1000000)(hn:a.length=n)(hm:b.length=n)(h1:H[β]?=some (mW a))(h2:H[γ]?=some (mW b)):CB 31 [.own β 0 0 n,.own γ 0 0 n] H (.bool (decide (a=b))):=by refine CallA.borrow (args':=[.vec n (a.map l5),.vec n (b.map l5)]) (x:=.bool (decide (a=b))) ⟨.inr (NG h1 hn),.inr (NG h2 hm),trivial⟩ ?_;have:=G1 (h:=z4 0 H) a b hl;unfold bH at this;rw[hm,hn]at this;exact this.mono fun y k hq=>hq.1
end
end Go.Proofs.YtonbocmibeikmaaGreat
end
section
namespace Go.Proofs.YtonbocmibeikmaaGreat
open Go.Ab Go.Un
def u5 (K:Nat)(A:List Nat)(n:Nat):List AV:=A.map (fun a=>AV.own a 0 0 K)++List.replicate (n-A.length) AV.j4
section
variable {K n j a:Nat}{A:List Nat}
theorem xT (h:A.length≤n):(u5 K A n).length=n:=by simp[u5];omega
theorem NI (h:j<A.length):(u5 K A n)[j]?=some (.own (A.getD j 0) 0 0 K):=by rw[u5,List.getElem?_append_left t173];simp[List.getD,h]
theorem G7 (h:j<A.length):List.take 1 (List.drop j (u5 K A n))=[.own (A.getD j 0) 0 0 K]:=by obtain ⟨h1,h2⟩:=List.getElem?_eq_some_iff.1 (NI (K:=K) (n:=n) h);rw[List.drop_eq_getElem_cons h1,List.take_succ_cons,List.take_zero,h2]
theorem P4 (h:j<A.length):List.take j (u5 K A n)++.own a 0 0 K::List.drop (j+1) (u5 K A n)=u5 K (A.set j a) n:=by
  have e:(u5 K A n).set j (.own a 0 0 K)=u5 K (A.set j a) n:=by rw[u5,u5,List.set_append_left _ _ t173,List.length_set,List.map_set]
  rw[←e,List.set_eq_take_append_cons_drop,if_pos (by simp[u5];omega)]
theorem G8 (h:0<A.length):AV.own a 0 0 K::List.drop 1 (u5 K A n)=u5 K (A.set 0 a) n:=P4 (j:=0) h
theorem CL (hA:A.length=j)(h:j<n):List.take j (u5 K A n)++.own a 0 0 K::List.drop (j+1) (u5 K A n)=u5 K (A++[a]) n:=by
  subst hA;have e1:List.take A.length (u5 K A n)=A.map fun a=>AV.own a 0 0 K:=by rw[u5,List.take_left' (by simp)]
  have e2:List.drop (A.length+1) (u5 K A n)=List.replicate (n-(A.length+1)) AV.j4:=by rw[u5,List.drop_append,List.drop_of_length_le (by simp),List.nil_append,List.length_map,List.drop_replicate];congr 1;omega
  rw[e1,e2,u5,List.map_append,List.length_append];simp
end
structure iR (p:Nat)(A:List Nat)(J:c6)(T:List (List Nat))(n:Nat):Prop where
  len:A.length=n
  tl:T.length=n
  at':∀i,i<n→p≤A.getD i 0∧J[A.getD i 0-p]?=some (mW (T.getD i []))
  nd:∀i j,i<n→j<n→A.getD i 0=A.getD j 0→i=j
  pl:∀b∈J,z7 b.cells
section
variable {p n q a:Nat}{A:List Nat}{J:c6}{T:List (List Nat)}{r:List Nat}
variable {i:Nat}
theorem iR.lt (h:iR p A J T n)(hi:i<n):A.getD i 0<p+J.length:=by have h1:=h.at' i hi;have h2:=(List.getElem?_eq_some_iff.1 h1.2).1;omega
theorem iR.more (h:iR p A J T n):iR p A (J++[mW r]) T n:=
  ⟨h.len,h.tl,fun i hi=>⟨(h.at' i hi).1,by rw[List.getElem?_append_left (List.getElem?_eq_some_iff.1 (h.at' i hi).2).1];exact (h.at' i hi).2⟩,h.nd,fun b hb=>by
    rcases List.mem_append.1 hb with hb | hb
    · exact h.pl b hb
    · obtain rfl:=List.mem_singleton.1 hb
      exact CC r⟩
theorem iR.zero:iR p [] [] [] 0:=⟨rfl,rfl,fun i hi=>by omega,fun i j hi=>by omega,fun b hb=>by simp at hb⟩
theorem iR.push (h:iR p A J T n)(ha:a=p+J.length):iR p (A++[a]) (J++[mW r]) (T++[r]) (n+1):=by
  have hm:=h.more (r:=r);have hA:=h.len;have hT:=h.tl;have g1:∀i,i<n→(A++[a]).getD i 0=A.getD i 0:=fun i hi=>by rw[List.getD_eq_getElem?_getD,List.getElem?_append_left (by omega),←List.getD_eq_getElem?_getD]
  have g2:(A++[a]).getD n 0=a:=by rw[List.getD_eq_getElem?_getD,←hA];simp
  have g3:∀i,i<n→(T++[r]).getD i []=T.getD i []:=fun i hi=>by rw[List.getD_eq_getElem?_getD,List.getElem?_append_left (by omega),←List.getD_eq_getElem?_getD]
  have g4:(T++[r]).getD n []=r:=by rw[List.getD_eq_getElem?_getD,←hT];simp
  refine ⟨by simp[hA],by simp[hT],fun i hi=>?_,fun i j hi hj he=>?_,hm.pl⟩
  · by_cases e:i=n
    · subst e
      rw[g2,g4,ha];refine ⟨by omega,?_⟩;rw[Nat.add_sub_cancel_left,List.getElem?_append_right (Nat.le_refl _),Nat.sub_self];rfl
    · rw[g1 i (by omega),g3 i (by omega)]
      exact hm.at' i (by omega)
  · by_cases e1:i=n<;>by_cases e2:j=n
    · omega
    · subst e1
      rw[g2,g1 j (by omega)]at he;have:=h.lt (i:=j) (by omega);omega
    · subst e2
      rw[g2,g1 i (by omega)]at he;have:=h.lt (i:=i) (by omega);omega
    · rw[g1 i (by omega),g1 j (by omega)]at he
      exact h.nd i j (by omega) (by omega) he
theorem iR.put (h:iR p A J T n)(hq:q<n)(ha:a=p+J.length):iR p (A.set q a) (J++[mW r]) (T.set q r) n:=by
  have hm:=h.more (r:=r);have hA:=h.len;have hT:=h.tl;have g1:∀i,i≠q→(A.set q a).getD i 0=A.getD i 0:=fun i hi=>by rw[List.getD_eq_getElem?_getD,List.getElem?_set_ne (Ne.symm hi),←List.getD_eq_getElem?_getD]
  have g2:(A.set q a).getD q 0=a:=by rw[List.getD_eq_getElem?_getD,List.getElem?_set_self (by omega)];rfl
  have g3:∀i,i≠q→(T.set q r).getD i []=T.getD i []:=fun i hi=>by rw[List.getD_eq_getElem?_getD,List.getElem?_set_ne (Ne.symm hi),←List.getD_eq_getElem?_getD]
  have g4:(T.set q r).getD q []=r:=by rw[List.getD_eq_getElem?_getD,List.getElem?_set_self (by omega)];rfl
  refine ⟨by rw[List.length_set];exact hA,by rw[List.length_set];exact hT,fun i hi=>?_,fun i j hi hj he=>?_,hm.pl⟩
  · by_cases e:i=q
    · subst e
      rw[g2,g4,ha];refine ⟨by omega,?_⟩;rw[Nat.add_sub_cancel_left,List.getElem?_append_right (Nat.le_refl _),Nat.sub_self];rfl
    · rw[g1 i e,g3 i e]
      exact hm.at' i hi
  · by_cases e1:i=q<;>by_cases e2:j=q
    · omega
    · subst e1
      rw[g2,g1 j e2]at he;have:=h.lt hj;omega
    · subst e2
      rw[g2,g1 i e1]at he;have:=h.lt hi;omega
    · rw[g1 i e1,g1 j e2]at he
      exact h.nd i j hi hj he
variable {h:c6}{b0 b1 b2 b3:Blk}
theorem CM {b:Blk}(hp:h.length+4≤a)(hJ:J[a-(h.length+4)]?=some b):(h++(b0::b1::b2::b3::J))[a]?=some b:=by obtain ⟨d,rfl⟩:∃d,a=h.length+(d+1+1+1+1):=⟨a-(h.length+4),by omega⟩;rw[v9,List.getElem?_cons_succ,List.getElem?_cons_succ,List.getElem?_cons_succ,List.getElem?_cons_succ];rw[show h.length+(d+1+1+1+1)-(h.length+4)=d from by omega]at hJ;exact hJ
theorem iR.look (hr:iR (h.length+4) A J T n)(hi:i<n):(h++(b0::b1::b2::b3::J))[A.getD i 0]?=some (mW (T.getD i [])):=CM (hr.at' i hi).1 (hr.at' i hi).2
theorem P5 (ha:a=h.length+(J.length+4)):(h++(b0::b1::b2::b3::(J++[mW r])))[a]?=some (mW r):=by subst ha;exact CM (by omega) (by rw[show h.length+(J.length+4)-(h.length+4)=J.length from by omega,List.getElem?_append_right (Nat.le_refl _),Nat.sub_self];rfl)
theorem keep_X {m:Nat}(h0:z7 b0.cells)(h1:z7 b1.cells)(h2:z7 b2.cells)(hr:iR (h.length+4) A J T n)(hm:m=n):aI h (h++(b0::b1::b2::⟨0,false,22,1,u5 q A m,0⟩::J)):=by
  subst hm;intro β b hb;by_cases hβ:β<h.length
  · left;rwa[List.getElem?_append_left hβ]at hb
  · right
    rw[List.getElem?_append_right (by omega)]at hb;have hl:(h++(b0::b1::b2::(⟨0,false,22,1,u5 q A m,0⟩:Blk)::J)).length=h.length+(J.length+4):=by simp
    rw[hl];have hmem:=List.mem_of_getElem? hb;simp only[List.mem_cons]at hmem;rcases hmem with rfl | rfl | rfl | rfl | hmem
    · exact h0.refs _
    · exact h1.refs _
    · exact h2.refs _
    · intro x hx
      rw[u5,hr.len,Nat.sub_self,List.replicate_zero,List.append_nil]at hx;obtain ⟨a,ha,rfl⟩:=List.mem_map.1 hx;obtain ⟨i,hi,rfl⟩:=List.getElem_of_mem ha;have h5:=hr.lt (i:=i) (by rw[←hr.len];exact hi);have e:A.getD i 0=A[i]:=by simp[List.getD,hi]
      rw[e]at h5;exact .own _ _ _ _ (by omega)
    · exact (hr.pl b hmem).refs _
end
theorem YQ (it:aO):z7 [.int .i64 it.proc,.vec it.j5.length (g8 it.j5)]:=z7.cons .int (z7.cons .vec .nil)
theorem VL {j:Nat}{Z:List Nat}:List.replicate j Z++[Z]=List.replicate (j+1) Z:=by rw[List.replicate_succ']
attribute [local go_sem] rd bH r7 u6 p7 n6 l8 z6 o5 Int.natCast_nonneg Int.natCast_inj aD cW cJ cX gD fV nX kC aZ kD pR dL jE jF fW List.length_set List.length_replicate Int.toNat_natCast_add_one eG wrap64 List.length_map cL cY fP fQ aZ u4 w9 gS gT bQ o5 orN lP beq_self_eq_true bne_self_eq_false yL rL G7 xT CL P4 G8
variable {h:c6}{i:Nat}
theorem VM {u:Un}{c:Clo}(hu:WU u)(wc:WC u c){mx:Nat}(hmx:mx<u.c4.length){S:List (List Nat)}(hS:Tb (kM u mx) c.insts.length S)(hi:i<c.insts.length):CallA Tryz.prog cfg 57 [.agg [.vec u.globals.length (g8 u.globals),.vec u.c4.length (g6 u.c4),.vec u.procs.length (l4 u.procs),.int .i64 u.main],.agg [.vec c.insts.length (l7 c.insts),.vec c.calls.length (n4 c.calls),.vec c.roots.length (g8 c.roots)],.int .i64 ((mx:Nat):Int),.vec c.insts.length (aL S),.int .i64 ((i:Nat):Int)] h (fun y' h'=>∃A J,iR (h.length+4) A J (bV u c mx S i) (r9 u c i)∧y'=.own (h.length+3) 0 0 (r9 u c i)∧h'=h++(bU u::bC c::⟨0,false,46,2,[.int .i64 (itI c i).proc,.vec (itI c i).j5.length (g8 (itI c i).j5)],0⟩::⟨0,false,22,1,u5 (kM u mx+1) A (r9 u c i),0⟩::J)):=by
  refine .wz Tryz.f57 136 ?_;have w:=gE wc hi;have w1:=w.lo;have w2:=w.hi;have hsz:(c8 u (itI c i)).length≤1664:=q9 hu w;have hwl:=wc.len;have hk8:kM u mx≤8:=dV;have hk9:nD (u.c4.getD mx aA)≤8:=hk8;have hml:=hu.ml;have p:Pro (kM u mx) (c8 u (itI c i)).length (nxI u c i) (stS u c mx S i):=OV hu wc hS hi;have hps:=p.pos;have hcl:=wc.cl;have hcll:(c.calls.getD i []).length=(c8 u (itI c i)).length:=wc.cll i hi;have hSl:=hS.1;have hcall:∀pc,pc<(c8 u (itI c i)).length→(eV u c i pc).op=2→0≤(c.calls.getD i []).getD pc 0∧(c.calls.getD i []).getD pc 0<c.insts.length:=fun pc hp ho=>by have:=(wc.call i hi pc hp).1 (.inl ho);exact ⟨this.1,this.2.1⟩
  refine c75z ?_;refine .c7 [2,3,4,5,6,11] ?_;refine c168z ?_;refine .n ?_;refine c244z ?_;refine .c7 [2,3,4,5,6,11,12,13] ?_;refine c15z ?_;refine .aR (fun m st=>∃(j:Nat) (A:List Nat) (J:c6),(m=(c8 u (itI c i)).length-j∧(iR (h.length+4) A J (List.replicate j (List.replicate (kM u mx+1) 0)) j∧j≤(c8 u (itI c i)).length))∧st=⟨mkS 136 [(2,AV.int .i64 ((mx:Nat):Int)),(3,AV.vec c.insts.length (aL S)),(4,AV.int .i64 ((i:Nat):Int)),(5,AV.ptr h.length 0 0),(6,AV.ptr (h.length+1) 0 0),(11,AV.ptr (h.length+2) 0 0),(12,AV.int .i64 (((kM u mx):Nat):Int)),(13,AV.own (h.length+3) 0 0 (c8 u (itI c i)).length),(14,AV.int .i64 ((j:Nat):Int))],h++(bU u::bC c::⟨0,false,46,2,[.int .i64 (itI c i).proc,.vec (itI c i).j5.length (g8 (itI c i).j5)],0⟩::⟨0,false,22,1,u5 (kM u mx+1) A (c8 u (itI c i)).length,0⟩::J)⟩) _ (.v ⟨0,[],[],⟨rfl,⟨iR.zero,by omega⟩⟩,rfl⟩) ?_;rintro m sl h' ⟨j,A,J,⟨hm,⟨hR0,hj⟩⟩,hst⟩;obtain ⟨rfl,rfl⟩:=St.mk.inj hst;have hAl:=hR0.len;refine c1z ?_;refine u2z ?_ ?_
  ·intro e1 qe1;refine c3z ?_;refine c2z ?_;refine .c7 [2,3,4,5,6,11,12,13,14] ?_;refine .rz ?_;exact ⟨_,by omega,.v ⟨(j+1),(A++[(h.length+(J.length+4))]),(J++[mW (List.replicate (kM u mx+1) 0)]),⟨rfl,⟨by rw[←VL];exact hR0.push (by omega),by omega⟩⟩,rfl⟩⟩
  intro e1 qe1;refine .exit ?_;obtain rfl:j=(c8 u (itI c i)).length:=by omega
  change c9 ..;refine c17z ?_;refine .ch rfl rfl (VK hk8) ?_;refine c27z ?_;refine .c7 [2,3,4,5,6,11,13] ?_;refine c15z ?_;refine .aR (fun m st=>∃(A:List Nat) (J:c6) (T:List (List Nat)) (ag:Bool),(m=Sy (c8 u (itI c i)).length T ag∧(iR (h.length+4) A J T (c8 u (itI c i)).length∧Gro (kM u mx) (c8 u (itI c i)).length (nxI u c i) (stS u c mx S i) T∧(ag=false→T=hY (kM u mx) (c8 u (itI c i)).length (nxI u c i) (stS u c mx S i))))∧st=⟨mkS 136 [(2,AV.int .i64 ((mx:Nat):Int)),(3,AV.vec c.insts.length (aL S)),(4,AV.int .i64 ((i:Nat):Int)),(5,AV.ptr h.length 0 0),(6,AV.ptr (h.length+1) 0 0),(11,AV.ptr (h.length+2) 0 0),(13,AV.own (h.length+3) 0 0 (c8 u (itI c i)).length),(15,AV.bool ag)],h++(bU u::bC c::⟨0,false,46,2,[.int .i64 (itI c i).proc,.vec (itI c i).j5.length (g8 (itI c i).j5)],0⟩::⟨0,false,22,1,u5 (kM u mx+1) A (c8 u (itI c i)).length,0⟩::J)⟩) _ (.v ⟨(A.set 0 (h.length+(J.length+4))),(J++[mW (dhN (kM u mx) 0)]),((List.replicate (c8 u (itI c i)).length (List.replicate (kM u mx+1) 0)).set 0 (dhN (kM u mx) 0)),true,⟨rfl,⟨hR0.put hps (by omega),Gro.start p,fun hf=>by cases hf⟩⟩,rfl⟩) ?_;rintro m sl h' ⟨A,J,T,ag,⟨hm,⟨hRw,hG,hdone⟩⟩,hst⟩;obtain ⟨rfl,rfl⟩:=St.mk.inj hst;refine c1z ?_;refine u2z ?_ ?_
  ·intro e2 qe2;refine c178z ?_;have hag:ag=true:=by assumption
   subst hag;refine .z ?_;refine c15z ?_;refine .aR (fun m st=>∃(A1:List Nat) (J1:c6) (T1:List (List Nat)) (a1:Bool) (pc:Nat),(m=(c8 u (itI c i)).length-pc∧(iR (h.length+4) A1 J1 T1 (c8 u (itI c i)).length∧FM (kM u mx) (c8 u (itI c i)).length (nxI u c i) (stS u c mx S i) T T1 a1 pc∧pc≤(c8 u (itI c i)).length))∧st=⟨mkS 136 [(2,AV.int .i64 ((mx:Nat):Int)),(3,AV.vec c.insts.length (aL S)),(4,AV.int .i64 ((i:Nat):Int)),(5,AV.ptr h.length 0 0),(6,AV.ptr (h.length+1) 0 0),(11,AV.ptr (h.length+2) 0 0),(13,AV.own (h.length+3) 0 0 (c8 u (itI c i)).length),(15,AV.bool a1),(16,AV.int .i64 ((pc:Nat):Int))],h++(bU u::bC c::⟨0,false,46,2,[.int .i64 (itI c i).proc,.vec (itI c i).j5.length (g8 (itI c i).j5)],0⟩::⟨0,false,22,1,u5 (kM u mx+1) A1 (c8 u (itI c i)).length,0⟩::J1)⟩) _ (.v ⟨A,J,T,false,0,⟨rfl,⟨hRw,FM.start hG,by omega⟩⟩,rfl⟩) ?_;rintro m sl h' ⟨A1,J1,T1,a1,pc,⟨hm,⟨hRw,hP,hpl⟩⟩,hst⟩;obtain ⟨rfl,rfl⟩:=St.mk.inj hst;have hT1:T1.length=(c8 u (itI c i)).length:=hP.g.tb.1;have hAl:=hRw.len;refine c1z ?_;refine u2z ?_ ?_
   ·intro e3 qe3;refine c3z ?_;have hpc:pc<(c8 u (itI c i)).length:=by omega
    have hop:eV u c i pc=(c8 u (itI c i)).getD pc g0:=rfl;refine c30z ?_;refine .ca rfl rfl (G3 hu wc hmx hi (show pc<r9 u c i by show pc<(c8 u (itI c i)).length;omega)) ?_;refine c27z ?_;refine .c7 [2,3,4,5,6,11,13,15,16,17] ?_;refine c134z ?_;refine u2z ?_ ?_
    ·intro e4 qe4;refine .c7 [2,3,4,5,6,11,13,15,16] ?_;obtain ⟨hc1,hc2⟩:=hcall pc hpc (by rw[hop];omega);refine c115z ?_;refine .c7 [2,3,4,5,6,11,13,15,16,17] ?_;have hst2:S.getD ((c.calls.getD i []).getD pc 0).toNat []=stS u c mx S i pc:=by unfold stS;rw[if_pos (show (eV u c i pc).op=2 from by rw[hop];omega)];first | done | rfl
     rw[hst2];have hst1:=p.st pc hpc;have hTp:=hP.g.tb.get hpc;obtain ⟨hR,hle⟩:=hP.g.aft p hpc;have hnl:=kB (x:=(c8 u (itI c i)).getD pc g0) (pc:=pc);refine .sg z8 (mkH 12 [0,0,3,7,0,31,0,0,0,511,1023,2047] [5] [] [0,32] []) 0 ?_;refine aB.aG t28 ?_;refine .p 3 ?_;refine c72z ?_;refine .cn [true] [32,0] [_] rfl rfl t124 ?_;refine .rn [true,true] ?_;refine .rn [true,true] ?_;refine .p 1 ?_;refine .cl rfl rfl (fun _=>rK hu w hpc) ?_;refine .p 2 ?_;refine aB.nil rfl ?_;refine c149z ?_;refine .aR (fun m st=>∃(A2:List Nat) (J2:c6) (T2:List (List Nat)) (a2:Bool) (j:Nat),(m=(o3 ((c8 u (itI c i)).getD pc g0) pc).length-j∧(iR (h.length+4) A2 J2 T2 (c8 u (itI c i)).length∧J2[J1.length]?=some (mW (n5 (T1.getD pc []) (stS u c mx S i pc)))∧FD (kM u mx) (c8 u (itI c i)).length (nxI u c i) (stS u c mx S i) T T2 a2 pc (T1.getD pc []) j∧j≤(o3 ((c8 u (itI c i)).getD pc g0) pc).length))∧st=⟨mkS 136 [(2,AV.int .i64 ((mx:Nat):Int)),(3,AV.vec c.insts.length (aL S)),(4,AV.int .i64 ((i:Nat):Int)),(5,AV.ptr h.length 0 0),(6,AV.ptr (h.length+1) 0 0),(11,AV.ptr (h.length+2) 0 0),(13,AV.own (h.length+3) 0 0 (c8 u (itI c i)).length),(15,AV.bool a2),(16,AV.int .i64 ((pc:Nat):Int)),(18,AV.own (h.length+(J1.length+4)) 0 0 (kM u mx+1)),(19,AV.vec (o3 ((c8 u (itI c i)).getD pc g0) pc).length (g8 (o3 ((c8 u (itI c i)).getD pc g0) pc))),(20,AV.int .i64 ((j:Nat):Int))],h++(bU u::bC c::⟨0,false,46,2,[.int .i64 (itI c i).proc,.vec (itI c i).j5.length (g8 (itI c i).j5)],0⟩::⟨0,false,22,1,u5 (kM u mx+1) A2 (c8 u (itI c i)).length,0⟩::J2)⟩) _ (.v ⟨A1,(J1++[mW (n5 (T1.getD pc []) (stS u c mx S i pc))]),T1,a1,0,⟨rfl,⟨hRw.more,t220,hP.go,by omega⟩⟩,rfl⟩) ?_;rintro m sl h' ⟨A2,J2,T2,a2,j,⟨hm,⟨hRw,h18,hQ,hj⟩⟩,hst⟩;obtain ⟨rfl,rfl⟩:=St.mk.inj hst;have hT2:T2.length=(c8 u (itI c i)).length:=hQ.g.tb.1;have hAl:=hRw.len;refine c1z ?_;refine u2z ?_ ?_
     ·intro e5 qe5;refine c3z ?_;obtain ⟨hq1,hq2⟩:=p.nx pc hpc _ (j0 (d:=0) (show j<(nxI u c i pc).length from by show j<(o3 ((c8 u (itI c i)).getD pc g0) pc).length;omega));rw[show nxI u c i pc=(o3 ((c8 u (itI c i)).getD pc g0) pc) from rfl]at hq1 hq2;have hjn:j<(nxI u c i pc).length:=by show j<(o3 ((c8 u (itI c i)).getD pc g0) pc).length;omega
      have hq3:((o3 ((c8 u (itI c i)).getD pc g0) pc).getD j 0).toNat<(c8 u (itI c i)).length:=by omega
      have hRq:=hQ.g.tb.get hq3;have h18m:(J2++[mW (bG (T2.getD ((o3 ((c8 u (itI c i)).getD pc g0) pc).getD j 0).toNat []) (n5 (T1.getD pc []) (stS u c mx S i pc)))])[J1.length]?=some (mW (n5 (T1.getD pc []) (stS u c mx S i pc))):=by rw[List.getElem?_append_left (List.getElem?_eq_some_iff.1 h18).1];exact h18
      refine c39z ?_;refine .ch rfl rfl (CK (hR.lt hk8) (hRq.lt hk8) t226 hRq.1 hR.1 (hRw.look hq3) (CM (by omega) t193)) ?_;refine .n ?_;refine c138z ?_;refine .ca rfl rfl (NH t178 (by rw[nV];exact hRq.1) hRq.1 (P5 rfl) (hRw.more.look hq3)) ?_;refine .n ?_;refine u2z ?_ ?_
      ·intro e6 qe6;refine c142z ?_;refine c44z ?_;exact ⟨_,by omega,.v ⟨(A2.set ((o3 ((c8 u (itI c i)).getD pc g0) pc).getD j 0).toNat (h.length+(J2.length+4))),(J2++[mW (bG (T2.getD ((o3 ((c8 u (itI c i)).getD pc g0) pc).getD j 0).toNat []) (n5 (T1.getD pc []) (stS u c mx S i pc)))]),(T2.set ((o3 ((c8 u (itI c i)).getD pc g0) pc).getD j 0).toNat (bG (T2.getD ((o3 ((c8 u (itI c i)).getD pc g0) pc).getD j 0).toNat []) (n5 (T1.getD pc []) (stS u c mx S i pc)))),true,(j+1),⟨rfl,⟨hRw.put hq3 (by omega),h18m,hQ.grow p hpc hR hle hjn rfl (fun hs=>absurd ((cK hRq hR).2 hs) (by assumption)),by omega⟩⟩,rfl⟩⟩
      intro e6 qe6;refine c5z ?_;refine c44z ?_;exact ⟨_,by omega,.v ⟨A2,(J2++[mW (bG (T2.getD ((o3 ((c8 u (itI c i)).getD pc g0) pc).getD j 0).toNat []) (n5 (T1.getD pc []) (stS u c mx S i pc)))]),T2,a2,(j+1),⟨rfl,⟨hRw.more,h18m,hQ.skip ((cK hRq hR).1 (by assumption)),by omega⟩⟩,rfl⟩⟩
     intro e5 qe5;refine .exit ?_;obtain rfl:j=(o3 ((c8 u (itI c i)).getD pc g0) pc).length:=by omega
     refine c195z ?_;exact ⟨_,by omega,.v ⟨A2,J2,T2,a2,(pc+1),⟨rfl,⟨hRw,hQ.fin,by omega⟩⟩,rfl⟩⟩
    intro e4 qe4;refine .sk ?_;refine .c7 [2,3,4,5,6,11,13,15,16,17] ?_;have hst2:dhN (kM u mx) (chI (itI c i) (eV u c i pc) mx)=stS u c mx S i pc:=by unfold stS;rw[if_neg (show ¬(eV u c i pc).op=2 from by rw[hop];omega)];first | done | rfl
    rw[hst2];have hst1:=p.st pc hpc;have hTp:=hP.g.tb.get hpc;obtain ⟨hR,hle⟩:=hP.g.aft p hpc;have hnl:=kB (x:=(c8 u (itI c i)).getD pc g0) (pc:=pc);refine .sg z8 (mkH 12 [0,0,3,7,0,31,0,0,0,511,1023,2047] [5] [] [0,32] []) 0 ?_;refine aB.aG t28 ?_;refine .p 3 ?_;refine c72z ?_;refine .cn [true] [32,0] [_] rfl rfl t124 ?_;refine .rn [true,true] ?_;refine .rn [true,true] ?_;refine .p 1 ?_;refine .cl rfl rfl (fun _=>rK hu w hpc) ?_;refine .p 2 ?_;refine aB.nil rfl ?_;refine c149z ?_;refine .aR (fun m st=>∃(A2:List Nat) (J2:c6) (T2:List (List Nat)) (a2:Bool) (j:Nat),(m=(o3 ((c8 u (itI c i)).getD pc g0) pc).length-j∧(iR (h.length+4) A2 J2 T2 (c8 u (itI c i)).length∧J2[J1.length]?=some (mW (n5 (T1.getD pc []) (stS u c mx S i pc)))∧FD (kM u mx) (c8 u (itI c i)).length (nxI u c i) (stS u c mx S i) T T2 a2 pc (T1.getD pc []) j∧j≤(o3 ((c8 u (itI c i)).getD pc g0) pc).length))∧st=⟨mkS 136 [(2,AV.int .i64 ((mx:Nat):Int)),(3,AV.vec c.insts.length (aL S)),(4,AV.int .i64 ((i:Nat):Int)),(5,AV.ptr h.length 0 0),(6,AV.ptr (h.length+1) 0 0),(11,AV.ptr (h.length+2) 0 0),(13,AV.own (h.length+3) 0 0 (c8 u (itI c i)).length),(15,AV.bool a2),(16,AV.int .i64 ((pc:Nat):Int)),(18,AV.own (h.length+(J1.length+4)) 0 0 (kM u mx+1)),(19,AV.vec (o3 ((c8 u (itI c i)).getD pc g0) pc).length (g8 (o3 ((c8 u (itI c i)).getD pc g0) pc))),(20,AV.int .i64 ((j:Nat):Int))],h++(bU u::bC c::⟨0,false,46,2,[.int .i64 (itI c i).proc,.vec (itI c i).j5.length (g8 (itI c i).j5)],0⟩::⟨0,false,22,1,u5 (kM u mx+1) A2 (c8 u (itI c i)).length,0⟩::J2)⟩) _ (.v ⟨A1,(J1++[mW (n5 (T1.getD pc []) (stS u c mx S i pc))]),T1,a1,0,⟨rfl,⟨hRw.more,t220,hP.go,by omega⟩⟩,rfl⟩) ?_;rintro m sl h' ⟨A2,J2,T2,a2,j,⟨hm,⟨hRw,h18,hQ,hj⟩⟩,hst⟩;obtain ⟨rfl,rfl⟩:=St.mk.inj hst;have hT2:T2.length=(c8 u (itI c i)).length:=hQ.g.tb.1;have hAl:=hRw.len;refine c1z ?_;refine u2z ?_ ?_
    ·intro e7 qe7;refine c3z ?_;obtain ⟨hq1,hq2⟩:=p.nx pc hpc _ (j0 (d:=0) (show j<(nxI u c i pc).length from by show j<(o3 ((c8 u (itI c i)).getD pc g0) pc).length;omega));rw[show nxI u c i pc=(o3 ((c8 u (itI c i)).getD pc g0) pc) from rfl]at hq1 hq2;have hjn:j<(nxI u c i pc).length:=by show j<(o3 ((c8 u (itI c i)).getD pc g0) pc).length;omega
     have hq3:((o3 ((c8 u (itI c i)).getD pc g0) pc).getD j 0).toNat<(c8 u (itI c i)).length:=by omega
     have hRq:=hQ.g.tb.get hq3;have h18m:(J2++[mW (bG (T2.getD ((o3 ((c8 u (itI c i)).getD pc g0) pc).getD j 0).toNat []) (n5 (T1.getD pc []) (stS u c mx S i pc)))])[J1.length]?=some (mW (n5 (T1.getD pc []) (stS u c mx S i pc))):=by rw[List.getElem?_append_left (List.getElem?_eq_some_iff.1 h18).1];exact h18
     refine c39z ?_;refine .ch rfl rfl (CK (hR.lt hk8) (hRq.lt hk8) t226 hRq.1 hR.1 (hRw.look hq3) (CM (by omega) t193)) ?_;refine .n ?_;refine c138z ?_;refine .ca rfl rfl (NH t178 (by rw[nV];exact hRq.1) hRq.1 (P5 rfl) (hRw.more.look hq3)) ?_;refine .n ?_;refine u2z ?_ ?_
     ·intro e8 qe8;refine c142z ?_;refine c44z ?_;exact ⟨_,by omega,.v ⟨(A2.set ((o3 ((c8 u (itI c i)).getD pc g0) pc).getD j 0).toNat (h.length+(J2.length+4))),(J2++[mW (bG (T2.getD ((o3 ((c8 u (itI c i)).getD pc g0) pc).getD j 0).toNat []) (n5 (T1.getD pc []) (stS u c mx S i pc)))]),(T2.set ((o3 ((c8 u (itI c i)).getD pc g0) pc).getD j 0).toNat (bG (T2.getD ((o3 ((c8 u (itI c i)).getD pc g0) pc).getD j 0).toNat []) (n5 (T1.getD pc []) (stS u c mx S i pc)))),true,(j+1),⟨rfl,⟨hRw.put hq3 (by omega),h18m,hQ.grow p hpc hR hle hjn rfl (fun hs=>absurd ((cK hRq hR).2 hs) (by assumption)),by omega⟩⟩,rfl⟩⟩
     intro e8 qe8;refine c5z ?_;refine c44z ?_;exact ⟨_,by omega,.v ⟨A2,(J2++[mW (bG (T2.getD ((o3 ((c8 u (itI c i)).getD pc g0) pc).getD j 0).toNat []) (n5 (T1.getD pc []) (stS u c mx S i pc)))]),T2,a2,(j+1),⟨rfl,⟨hRw.more,h18m,hQ.skip ((cK hRq hR).1 (by assumption)),by omega⟩⟩,rfl⟩⟩
    intro e7 qe7;refine .exit ?_;obtain rfl:j=(o3 ((c8 u (itI c i)).getD pc g0) pc).length:=by omega
    refine c195z ?_;exact ⟨_,by omega,.v ⟨A2,J2,T2,a2,(pc+1),⟨rfl,⟨hRw,hQ.fin,by omega⟩⟩,rfl⟩⟩
   intro e3 qe3;refine .exit ?_;obtain rfl:pc=(c8 u (itI c i)).length:=by omega
   have hlt:=MC hk8 hP;exact ⟨_,by omega,.v ⟨A1,J1,T1,a1,⟨rfl,⟨hRw,hP.g,fun hf=>by subst hf;exact hP.done p⟩⟩,rfl⟩⟩
  intro e2 qe2;refine c8z ?_;refine .c7 [13] ?_;refine c28z ?_;exact ⟨_,[],_,(List.append_nil _).symm,by simp,keep_X (Ha u) (Hb c) (YQ _) hRw rfl,xO (by simp),(by obtain rfl:=hdone (by assumption);exact ⟨A,J,hRw,rfl,rfl⟩)⟩
end Go.Proofs.YtonbocmibeikmaaGreat
end
section
namespace Go.Proofs.YtonbocmibeikmaaGreat
open Go.Ab Go.Un
variable {H:c6}
theorem VN {l l':c6}(hx:∀b∈l,∀x∈b.cells,Refs (H++l).length x):aI (H++l') (H++l):=fun β b hb=>by
  by_cases hβ:β<H.length
  · rw[List.getElem?_append_left hβ]at hb
    exact .inl (by rw[List.getElem?_append_left hβ];exact hb)
  · rw[List.getElem?_append_right (by omega)]at hb
    exact .inr (hx b (List.mem_of_getElem? hb))
def Q9 (u:Un)(c:Clo)(mx p i0 i:Nat)(D:c6)(zs:List AV):Prop:=
  (i≤i0∧D=[]∧zs=s9 (dM u c mx i))∨(i0<i∧∃A J,iR (p+7) A J (bV u c mx (z9 u c mx) i0) (r9 u c i0)∧D=(bU u::bC c::⟨0,false,46,2,[.int .i64 (itI c i0).proc,.vec (itI c i0).j5.length (g8 (itI c i0).j5)],0⟩::⟨0,false,22,1,u5 (kM u mx+1) A (r9 u c i0),0⟩::J)∧zs=(s9 (dM u c mx i)).set i0 (AV.own (p+6) 0 0 (r9 u c i0)))
section
variable {u:Un}{c:Clo}{mx p i0 i:Nat}{D:c6}{zs:List AV}
theorem Q9.zero:Q9 u c mx p i0 0 [] []:=.inl ⟨Nat.zero_le _,rfl,rfl⟩
theorem Q9.len (h:Q9 u c mx p i0 i D zs):zs.length=i:=by
  rcases h with ⟨_,_,rfl⟩ | ⟨_,_,_,_,_,rfl⟩
  · rw[u4,w9]
  · rw[List.length_set,u4,w9]
theorem Q9.plain (h:Q9 u c mx p i0 i D zs)(hne:i≠i0):Q9 u c mx p i0 (i+1) D (zs++[.vec (r9 u c i) (aL (bV u c mx (z9 u c mx) i))]):=by
  have e:s9 (dM u c mx (i+1))=s9 (dM u c mx i)++[.vec (r9 u c i) (aL (bV u c mx (z9 u c mx) i))]:=by rw[xQ,oR,lC]
  rcases h with ⟨h1,h2,rfl⟩ | ⟨h1,A,J,h2,h3,rfl⟩
  · exact .inl ⟨by omega,h2,e.symm⟩
  · refine .inr ⟨by omega,A,J,h2,h3,?_⟩
    rw[e,List.set_append_left _ _ (by rw[u4,w9];exact h1)]
theorem Q9.own (h:Q9 u c mx p i0 i D zs)(he:i=i0){A:List Nat}{J:c6}(hR:iR (p+7) A J (bV u c mx (z9 u c mx) i) (r9 u c i)):Q9 u c mx p i0 (i+1) (bU u::bC c::⟨0,false,46,2,[.int .i64 (itI c i).proc,.vec (itI c i).j5.length (g8 (itI c i).j5)],0⟩::⟨0,false,22,1,u5 (kM u mx+1) A (r9 u c i),0⟩::J) (zs++[AV.own (p+6) 0 0 (r9 u c i)]):=by
  subst he;rcases h with ⟨h1,h2,rfl⟩ | ⟨h1,_⟩
  · refine .inr ⟨by omega,A,J,hR,rfl,?_⟩
    have e:s9 (dM u c mx (i+1))=s9 (dM u c mx i)++[.vec (r9 u c i) (aL (bV u c mx (z9 u c mx) i))]:=by rw[xQ,oR,lC]
    have hl:(s9 (dM u c mx i)).length=i:=by rw[u4,w9]
    rw[e,List.set_append_right _ _ (by omega),hl,Nat.sub_self];rfl
  · omega
theorem Q9.empty (h:Q9 u c mx p i0 i D zs)(he:i=i0):D=[]:=by
  rcases h with ⟨_,h2,_⟩ | ⟨h1,_⟩
  · exact h2
  · omega
variable {h:c6}{g:Nat}
theorem YR {l':c6}(hT:Q9 u c mx h.length i0 i D zs):aI (h++l') (h++(bU u::bC c::s8 32 1 g zs::D)):=by
  refine VN fun b hb=>?_;have key:∀b∈D,∀x∈b.cells,Refs (h.length+(D.length+3)) x:=by
    rcases hT with ⟨_,rfl,_⟩ | ⟨_,A,J,hR,rfl,_⟩
    · intro b hb;simp at hb
    · intro b hb
      simp only[List.mem_cons]at hb;rcases hb with rfl | rfl | rfl | rfl | hb
      · exact (Ha u).refs _
      · exact (Hb c).refs _
      · exact (YQ _).refs _
      · intro x hx
        rw[u5,hR.len,Nat.sub_self,List.replicate_zero,List.append_nil]at hx;obtain ⟨a,ha,rfl⟩:=List.mem_map.1 hx;obtain ⟨j,hj,rfl⟩:=List.getElem_of_mem ha;have h5:=hR.lt (i:=j) (by rw[←hR.len];exact hj);have e:A.getD j 0=A[j]:=by simp[List.getD,hj]
        rw[e]at h5;exact .own _ _ _ _ (by simp only[List.length_cons];omega)
      · exact (hR.pl b hb).refs _
  have hl:(h++(bU u::bC c::s8 32 1 g zs::D)).length=h.length+(D.length+3):=by simp
  rw[hl];simp only[List.mem_cons]at hb;rcases hb with rfl | rfl | rfl | hb
  · exact (Ha u).refs _
  · exact (Hb c).refs _
  · rw[o9]
    rcases hT with ⟨_,_,rfl⟩ | ⟨_,A,J,hR,rfl,rfl⟩
    · exact (xR _).refs _
    · intro x hx
      rcases List.mem_or_eq_of_mem_set hx with hx | rfl
      · exact (xR _).refs _ x hx
      · exact .own _ _ _ _ (by simp only[List.length_cons];omega)
  · exact key b hb
end
variable {h:c6}{g n:Nat}
theorem app_z {D:c6}{b0 b1:Blk}{zs:List AV}{x:AV}{q:Nat}(hn:zs.length=n)(hq:q=h.length+(D.length+3))(hl:n<100000):j9 cfg 32 (h++(b0::b1::s8 32 1 g zs::(D++[⟨0,false,32,1,[x],0⟩]))) (.own (h.length+2) g 0 n) (.own q 0 0 1)=some (.own (h.length+2) (g+1) 0 (n+1),h++(b0::b1::s8 32 1 (g+1) (zs++[x])::(D++[⟨0,false,32,1,[x],0⟩]))):=by
  subst hn hq;have g1:(h++(b0::b1::s8 32 1 g zs::(D++[(⟨0,false,32,1,[x],0⟩:Blk)])))[h.length+(D.length+3)]?=some ⟨0,false,32,1,[x],0⟩:=by rw[v9,List.getElem?_cons_succ,List.getElem?_cons_succ,List.getElem?_cons_succ,jI];rfl
  rw[aJ (C:=cfg) (K:=1) (m:=1) (new:=[x]) (zs:=zs) t36 rfl (by omega) (by simp) rfl (by omega) (by simp[rd,g1]) rfl (by decide) (by omega),s3];rfl
theorem CN {d β len l:Nat}{cs:List AV}(h:β<n):jQ n H (d+2) (.tup [.own β g 0 len,.vec l cs])=some (.tup [.own β g 0 len,.vec l cs]):=by rw[lZ];simp only[o6,dW,if_pos h];rfl
attribute [local go_sem] rd bH r7 u6 p7 n6 l8 z6 o5 Int.natCast_nonneg Int.natCast_inj aD cW cJ cX gD fV nX kC aZ kD pR dL jE jF fW List.length_set List.length_replicate Int.toNat_natCast_add_one eG wrap64 List.length_map cL cY fP fQ aZ u4 w9 gS gT bQ o5 orN lP beq_self_eq_true bne_self_eq_false yL rL G7 xT CL P4 G8
section
attribute [local go_sem] app_z
theorem YS {u:Un}{c:Clo}(hu:WU u)(wc:WC u c){mx:Nat}(hmx:mx<u.c4.length){i0:Nat}(hi00:i0<c.insts.length):CallA Tryz.prog cfg 38 [.agg [.vec u.globals.length (g8 u.globals),.vec u.c4.length (g6 u.c4),.vec u.procs.length (l4 u.procs),.int .i64 u.main],.agg [.vec c.insts.length (l7 c.insts),.vec c.calls.length (n4 c.calls),.vec c.roots.length (g8 c.roots)],.int .i64 ((mx:Nat):Int)] h (fun y' h'=>∃A J,iR (h.length+7) A J (bV u c mx (z9 u c mx) i0) (r9 u c i0)∧y'=.tup [.own (h.length+2) c.insts.length 0 c.insts.length,.vec c.insts.length ((gR u c mx).map l5)]∧h'=h++(bU u::bC c::⟨c.insts.length,false,32,1,(s9 (dM u c mx c.insts.length)).set i0 (.own (h.length+6) 0 0 (r9 u c i0)),0⟩::(bU u::bC c::⟨0,false,46,2,[.int .i64 (itI c i0).proc,.vec (itI c i0).j5.length (g8 (itI c i0).j5)],0⟩::⟨0,false,22,1,u5 (kM u mx+1) A (r9 u c i0),0⟩::J))):=by
  refine .wz Tryz.f38 36 ?_;have hwl:=wc.len;have hk8:kM u mx≤8:=dV;have hk9:nD (u.c4.getD mx aA)≤8:=hk8;have hml:=hu.ml;have hrl:=wc.rl;have hrc:c.roots.length≤c.insts.length:=by have:=aT wc.rs wc.rr;omega
  have hel:(gR u c mx).length=c.insts.length:=bQ;have hsl:(z9 u c mx).length=c.insts.length:=dC.1;have hcl:=wc.cl;refine c283z ?_;refine c269z ?_;refine .aN (fun m st=>∃(i:Nat) (D:c6) (zs:List AV),(m=c.insts.length-i∧(Q9 u c mx h.length i0 i D zs∧i≤c.insts.length))∧st=⟨mkS 36 [(2,AV.int .i64 ((mx:Nat):Int)),(3,AV.ptr h.length 0 0),(4,AV.ptr (h.length+1) 0 0),(8,AV.vec c.insts.length (aL (z9 u c mx))),(9,AV.own (h.length+2) i 0 i),(10,AV.int .i64 ((i:Nat):Int))],h++(bU u::bC c::s8 32 1 i zs::D)⟩) (.v ⟨0,[],[],⟨rfl,⟨Q9.zero,by omega⟩⟩,rfl⟩ (hs:=t8)) ?_;rintro m sl h' ⟨i,D,zs,⟨hm,⟨hX,hi0⟩⟩,hst⟩;obtain ⟨rfl,rfl⟩:=St.mk.inj hst;clear hst;have hzl:=hX.len;refine c1z ?_;refine u2z ?_ ?_
  ·intro e1 qe1;refine c3z ?_;have hi:i<c.insts.length:=by omega
   by_cases heq:i=i0
   ·obtain rfl:D=[]:=hX.empty heq;refine .r ?_;refine .e 6 ?_;refine o4.cx rfl rfl hb57 (VM hu wc hmx dC hi) (fun y1 h1 hq1=>?_);obtain ⟨A,J,hRw,rfl,rfl⟩:=hq1;simp only[List.length_append,List.length_cons,List.length_nil,Nat.reduceAdd]at hRw;generalize hD:((bU u::bC c::⟨0,false,46,2,[.int .i64 (itI c i).proc,.vec (itI c i).j5.length (g8 (itI c i).j5)],0⟩::⟨0,false,22,1,u5 (kM u mx+1) A (r9 u c i),0⟩::J):c6)=D2;refine c169z ?_;refine .rz ?_;exact ⟨_,by omega,.v ⟨(i+1),D2,(zs++[AV.own (h.length+6) 0 0 (r9 u c i)]),⟨rfl,⟨by rw[←hD];exact hX.own heq hRw,by omega⟩⟩,rfl⟩ (he:=t44) (hk:=t170) (hs:=t8)⟩
   ·skip;refine .r ?_;refine c84z ?_;refine c169z ?_;refine .rz ?_;exact ⟨_,by omega,.v ⟨(i+1),D,(zs++[AV.vec (r9 u c i) (aL (bV u c mx (z9 u c mx) i))]),⟨rfl,⟨hX.plain heq,by omega⟩⟩,rfl⟩ (he:=t44) (hk:=t170) (hs:=t8)⟩
  intro e1 qe1;refine .exit ?_;obtain rfl:i=c.insts.length:=by omega
  change c9 ..;refine c277z ?_;refine c105z ?_;exact ⟨_,[],_,(List.append_nil _).symm,by simp,(by have:=YR (g:=c.insts.length) (l':=[]) hX;rw[List.append_nil]at this;exact this),CN (by simp),(by rcases hX with ⟨hx1,_⟩ | ⟨_,A,J,hRw,rfl,rfl⟩;omega;exact ⟨A,J,hRw,rfl,by rw[eE (by intro h0;have:=congrArg List.length h0;rw[List.length_set,u4,w9]at this;replace this:=s7z this;omega)]⟩)⟩
end
section
attribute [local go_sem] G4
theorem CO {u:Un}{c:Clo}(hu:WU u)(wc:WC u c){mx:Nat}(hmx:mx<u.c4.length):CH 38 [.agg [.vec u.globals.length (g8 u.globals),.vec u.c4.length (g6 u.c4),.vec u.procs.length (l4 u.procs),.int .i64 u.main],.agg [.vec c.insts.length (l7 c.insts),.vec c.calls.length (n4 c.calls),.vec c.roots.length (g8 c.roots)],.int .i64 ((mx:Nat):Int)] h (.tup [.own (h.length+2) c.insts.length 0 c.insts.length,.vec c.insts.length ((gR u c mx).map l5)]) (h++[bU u,bC c,⟨c.insts.length,false,32,1,s9 (dM u c mx c.insts.length),0⟩]):=by
  refine .wz Tryz.f38 36 ?_;have hwl:=wc.len;have hk8:kM u mx≤8:=dV;have hk9:nD (u.c4.getD mx aA)≤8:=hk8;have hml:=hu.ml;have hrl:=wc.rl;have hrc:c.roots.length≤c.insts.length:=by have:=aT wc.rs wc.rr;omega
  have hel:(gR u c mx).length=c.insts.length:=bQ;have hsl:(z9 u c mx).length=c.insts.length:=dC.1;have hcl:=wc.cl;refine c283z ?_;refine c269z ?_;refine .aN (fun m st=>∃(i:Nat),(m=c.insts.length-i∧(i≤c.insts.length))∧st=⟨mkS 36 [(2,AV.int .i64 ((mx:Nat):Int)),(3,AV.ptr h.length 0 0),(4,AV.ptr (h.length+1) 0 0),(8,AV.vec c.insts.length (aL (z9 u c mx))),(9,AV.own (h.length+2) i 0 i),(10,AV.int .i64 ((i:Nat):Int))],h++[bU u,bC c,s8 32 1 i (s9 (dM u c mx i))]⟩) (.v ⟨0,⟨rfl,by omega⟩,rfl⟩ (hs:=t8)) ?_ (he:=t76);rintro m sl h' ⟨i,⟨hm,hi0⟩,hst⟩;obtain ⟨rfl,rfl⟩:=St.mk.inj hst;clear hst;have hinl:(dM u c mx i).length=i:=w9;refine c1z ?_;refine u2z ?_ ?_
  ·intro e1 qe1;refine c3z ?_;have hi:i<c.insts.length:=by omega
   have hTi0:(bV u c mx (z9 u c mx) i).length=r9 u c i:=lC;refine .r ?_;refine c84z ?_;refine c169z ?_;refine .rz ?_;exact ⟨_,by omega,.v ⟨(i+1),⟨rfl,by omega⟩,rfl⟩ (he:=t91) (hk:=t111) (hs:=t8)⟩
  intro e1 qe1;refine .exit ?_;obtain rfl:i=c.insts.length:=by omega
  change c9 ..;refine c277z ?_;refine c105z ?_;exact ⟨_,[],_,(List.append_nil _).symm,by simp,aI.new (fun b hb=>by replace hb:=s8z hb;rcases hb with rfl | rfl | rfl;exact Ha u;exact Hb c;rw[o9];exact xR _),CN (by simp),(by rw[eE (by intro h0;have:=congrArg List.length h0;rw[u4,w9]at this;replace this:=s7z this;omega)];exact ⟨rfl,rfl⟩)⟩
end
theorem NJ {e:TypeId}{K:Nat}{zs:List AV}(h:z7 zs):z7 (gK e K g zs n).cells:=by rw[S4];exact h
theorem VO {d β len l:Nat}{cs:List AV}(h:β<n):jQ n H (d+2) (.tup [.vec l cs,.own β g 0 len])=some (.tup [.vec l cs,.own β g 0 len]):=by rw[lZ];simp only[o6,dW,if_pos h];rfl
attribute [local go_sem] rd bH r7 u6 p7 n6 l8 z6 o5 Int.natCast_nonneg Int.natCast_inj aD cW cJ cX gD fV nX kC aZ kD pR dL jE jF fW List.length_set List.length_replicate Int.toNat_natCast_add_one eG wrap64 List.length_map cL cY fP fQ aZ u4 w9 gS gT bQ o5 orN lP beq_self_eq_true bne_self_eq_false yL rL G7 xT CL P4 G8
section
attribute [local go_sem] MP
theorem c_entRO {u:Un}{c:Clo}(hu:WU u)(wc:WC u c){mx:Nat}(hmx:mx<u.c4.length):CH 32 [.agg [.vec u.globals.length (g8 u.globals),.vec u.c4.length (g6 u.c4),.vec u.procs.length (l4 u.procs),.int .i64 u.main],.agg [.vec c.insts.length (l7 c.insts),.vec c.calls.length (n4 c.calls),.vec c.roots.length (g8 c.roots)],.int .i64 ((mx:Nat):Int)] h (.own (h.length+2) 0 0 c.insts.length) (h++[bU u,bC c,⟨0,false,3,1,(gR u c mx).map l5,0⟩]):=by
  refine .wz Tryz.f32 123 ?_;have hwl:=wc.len;have hk8:kM u mx≤8:=dV;have hk9:nD (u.c4.getD mx aA)≤8:=hk8;have hml:=hu.ml;have hrl:=wc.rl;have hrc:c.roots.length≤c.insts.length:=by have:=aT wc.rs wc.rr;omega
  have hel:(gR u c mx).length=c.insts.length:=bQ;have hsl:(z9 u c mx).length=c.insts.length:=dC.1;have hcl:=wc.cl;refine c283z ?_;refine c23z ?_;refine .c7 [2,3,4,7,8] ?_;refine c15z ?_;refine .aN (fun m st=>∃(j:Nat) (E:List Nat),(m=c.roots.length-j∧(xP u c mx E j∧j≤c.roots.length))∧st=⟨mkS 123 [(2,AV.int .i64 ((mx:Nat):Int)),(3,AV.ptr h.length 0 0),(4,AV.ptr (h.length+1) 0 0),(7,AV.vec c.insts.length (aL (z9 u c mx))),(8,AV.own (h.length+2) 0 0 c.insts.length),(9,AV.int .i64 ((j:Nat):Int))],h++[bU u,bC c,⟨0,false,3,1,E.map l5,0⟩]⟩) (.v ⟨0,(List.replicate c.insts.length 0),⟨rfl,⟨xP.start,by omega⟩⟩,rfl⟩) ?_;rintro m sl h' ⟨j,E,⟨hm,⟨hR,hj⟩⟩,hst⟩;obtain ⟨rfl,rfl⟩:=St.mk.inj hst;clear hst;have hEl:=hR.es.1;refine c1z ?_;refine u2z ?_ ?_
  ·intro e1 qe1;refine c3z ?_;have hr:=wc.rr _ (j0 (d:=0) (show j<c.roots.length by omega));refine c2z ?_;refine .c7 [2,3,4,7,8,9] ?_;refine .rz ?_;exact ⟨_,by omega,.v ⟨(j+1),(E.set (c.roots.getD j 0).toNat 1),⟨rfl,⟨hR.next hu wc (by omega),by omega⟩⟩,rfl⟩ (he:=t17) (hk:=t197)⟩
  intro e1 qe1;refine .exit ?_;obtain rfl:j=c.roots.length:=by omega
  have hG:=hR.all wc;change c9 ..;refine c16z ?_;refine c9.wC 10 rfl ?_;refine .aN (fun m st=>∃(i:Nat),(m=c.insts.length-i∧(i≤c.insts.length))∧st=⟨mkS 123 [(2,AV.int .i64 ((mx:Nat):Int)),(3,AV.ptr h.length 0 0),(4,AV.ptr (h.length+1) 0 0),(7,AV.vec c.insts.length (aL (z9 u c mx))),(8,AV.own (h.length+2) 0 0 c.insts.length),(10,AV.own (h.length+3) i 0 i),(11,AV.int .i64 ((i:Nat):Int))],h++[bU u,bC c,⟨0,false,3,1,E.map l5,0⟩,s8 32 1 i (s9 (dM u c mx i))]⟩) (.v ⟨0,⟨rfl,by omega⟩,rfl⟩ (hs:=t8)) ?_ (he:=t76);rintro m sl h' ⟨i,⟨hm,hi0⟩,hst⟩;obtain ⟨rfl,rfl⟩:=St.mk.inj hst;clear hst;have hinl:(dM u c mx i).length=i:=w9;refine c1z ?_;refine u2z ?_ ?_
  ·intro e2 qe2;refine c3z ?_;have hi:i<c.insts.length:=by omega
   have hTi0:(bV u c mx (z9 u c mx) i).length=r9 u c i:=lC;refine .r ?_;refine c84z ?_;refine c25z ?_;refine .c7 [2,3,4,7,8,10,11] ?_;refine .rz ?_;exact ⟨_,by omega,.v ⟨(i+1),⟨rfl,by omega⟩,rfl⟩ (he:=t91) (hk:=t154) (hs:=t8)⟩
  intro e2 qe2;refine .exit ?_;obtain rfl:i=c.insts.length:=by omega
  refine c9.tA (t:=10) (γ:=h.length+3) (len:=c.insts.length) t36 t175 (by omega) (xR _) (kT (by decide) rfl) ?_;rw[cA];simp only[s3,List.set_cons_succ,List.set_cons_zero];generalize gK _ _ _ _ _=Ib;change c9 ..;refine .seq ?_;refine .c7 [3,4,8,10] ?_;refine c15z ?_;refine .aN (fun m st=>∃(E1:List Nat) (ag:Bool),(m=Td c E1 ag∧(FN u c mx E1∧(ag=false→E1=(gR u c mx))))∧st=⟨mkS 123 [(3,AV.ptr h.length 0 0),(4,AV.ptr (h.length+1) 0 0),(8,AV.own (h.length+2) 0 0 c.insts.length),(10,AV.vec c.insts.length (s9 (dM u c mx c.insts.length))),(12,AV.bool ag)],h++[bU u,bC c,⟨0,false,3,1,E1.map l5,0⟩,Ib]⟩) (.v ⟨E,true,⟨rfl,⟨hG,fun hf=>by cases hf⟩⟩,rfl⟩) ?_;rintro m sl h' ⟨E1,ag,⟨hm,⟨hG1,hdone⟩⟩,hst⟩;obtain ⟨rfl,rfl⟩:=St.mk.inj hst;clear hst;refine c1z ?_;refine u2z ?_ ?_
  ·intro e3 qe3;refine c178z ?_;have hag:ag=true:=by assumption
   subst hag;refine .z ?_;refine c15z ?_;refine .aN (fun m st=>∃(E2:List Nat) (a2:Bool) (i:Nat),(m=c.insts.length-i∧(zL u c mx E1 E2 a2 i 0∧i≤c.insts.length))∧st=⟨mkS 123 [(3,AV.ptr h.length 0 0),(4,AV.ptr (h.length+1) 0 0),(8,AV.own (h.length+2) 0 0 c.insts.length),(10,AV.vec c.insts.length (s9 (dM u c mx c.insts.length))),(12,AV.bool a2),(13,AV.int .i64 ((i:Nat):Int))],h++[bU u,bC c,⟨0,false,3,1,E2.map l5,0⟩,Ib]⟩) (.v ⟨E1,false,0,⟨rfl,⟨zL.start hG1,by omega⟩⟩,rfl⟩) ?_;rintro m sl h' ⟨E2,a2,i,⟨hm,⟨hJ,hi0⟩⟩,hst⟩;obtain ⟨rfl,rfl⟩:=St.mk.inj hst;clear hst;refine c1z ?_;refine u2z ?_ ?_
   ·intro e4 qe4;refine c3z ?_;have hi:i<c.insts.length:=by omega
    have w:=gE wc hi;have w1:=w.lo;have w2:=w.hi;have hsz:(c8 u (itI c i)).length≤1664:=q9 hu w;have hcll:(c.calls.getD i []).length=(c8 u (itI c i)).length:=wc.cll i hi;have hlI:r9 u c i=(c8 u (itI c i)).length:=rfl;have hTl:(bV u c mx (z9 u c mx) i).length=r9 u c i:=lC;have hcall:∀j,j<r9 u c i→(eV u c i j).op=2→0≤(c.calls.getD i []).getD j 0∧(c.calls.getD i []).getD j 0<c.insts.length:=fun j hp ho=>by have:=(wc.call i hi j hp).1 (.inl ho);exact ⟨this.1,this.2.1⟩
    refine c15z ?_;refine .aN (fun m st=>∃(E3:List Nat) (a3:Bool) (j:Nat),(m=r9 u c i-j∧(zL u c mx E1 E3 a3 i j∧j≤r9 u c i))∧st=⟨mkS 123 [(3,AV.ptr h.length 0 0),(4,AV.ptr (h.length+1) 0 0),(8,AV.own (h.length+2) 0 0 c.insts.length),(10,AV.vec c.insts.length (s9 (dM u c mx c.insts.length))),(12,AV.bool a3),(13,AV.int .i64 ((i:Nat):Int)),(14,AV.int .i64 ((j:Nat):Int))],h++[bU u,bC c,⟨0,false,3,1,E3.map l5,0⟩,Ib]⟩) (.v ⟨E2,a2,0,⟨rfl,⟨hJ,by omega⟩⟩,rfl⟩) ?_;rintro m sl h' ⟨E3,a3,j,⟨hm,⟨hJ1,hj0⟩⟩,hst⟩;obtain ⟨rfl,rfl⟩:=St.mk.inj hst;clear hst;have hE3:E3.length=c.insts.length:=hJ1.g.es.1;refine c1z ?_;refine u2z ?_ ?_
    ·intro e5 qe5;refine c3z ?_;refine .seq ?_;have hjp:j<r9 u c i:=by omega
     have hop0:(eV u c i j).op=((c8 u (itI c i)).getD j g0).op:=rfl;refine c74z ?_;refine u2z ?_ ?_
     ·intro e6 qe6;refine c8z ?_;refine c121z ?_;exact ⟨_,by omega,.v ⟨E3,a3,(j+1),⟨rfl,⟨hJ1.skip (fun ho=>absurd ho (by rw[hop0];omega)),by omega⟩⟩,rfl⟩ (he:=t17) (hk:=t47)⟩
     intro e6 qe6;refine .sk ?_;refine .c7 [3,4,8,10,12,13,14] ?_;have hop:(eV u c i j).op=2:=by rw[hop0];omega
     obtain ⟨hc1,hc2⟩:=hcall j hjp hop;obtain ⟨q,hqe⟩:∃q:Nat,(c.calls.getD i []).getD j 0=(q:Int):=⟨_,(Int.toNat_of_nonneg hc1).symm⟩;have hqc:gZ c i j=q:=by unfold gZ;rw[hqe];rfl
     have hTi:=(nW (u:=u) (c:=c) (m:=mx) (z9 u c mx) i).get hjp;have hc3:=hc1;have hc4:=hc2;rw[hqe]at hc3 hc4;have hq3:q<c.insts.length:=by omega
     refine c134z ?_;refine .c7 [3,4,8,10,12,13,14,15] ?_;rw[hqe];have hfl:applyN ((bV u c mx (z9 u c mx) i).getD j []) (E3.getD i 0)<512:=Nat.lt_of_lt_of_le (mQ hTi _) (nU hk8).2;have hEq:E3.getD q 0<512:=hJ1.g.es.lt _ (j0 (by omega));have hne:(E3.getD q 0|||applyN ((bV u c mx (z9 u c mx) i).getD j []) (E3.getD i 0))=E3.getD q 0↔∀b,(yM u c mx E3 i j).testBit b=true→bt E3 (gZ c i j) b=true:=by rw[hqc];exact ML
     refine .ss z8 (mkP 18 [0,0,3,7,0,0,48,112,0,496,1008,0,0,6144,14336,32752,65535,131071] []) ?_;refine .k 8 [] ?_;refine .k 7 [] ?_;refine .ca rfl rfl (zK _ _ (hTi.lt hk8) (hJ1.g.es.lt _ (j0 (by omega))) (by have:=hTi.1;omega)) ?_;refine .n [] ?_;refine .c7 [3,4,8,10,12,13,14,15,16] ?_;refine .z ?_;refine u2z ?_ ?_
     ·intro e7 qe7;refine c2z ?_;refine c121z ?_;exact ⟨_,by omega,.v ⟨(E3.set q (E3.getD q 0|||yM u c mx E3 i j)),true,(j+1),⟨rfl,⟨t198,by omega⟩⟩,rfl⟩ (he:=t17) (hk:=t47)⟩
     intro e7 qe7;refine c5z ?_;refine c121z ?_;exact ⟨_,by omega,.v ⟨E3,a3,(j+1),⟨rfl,⟨hJ1.skip (fun _=>hne.1 (by omega)),by omega⟩⟩,rfl⟩ (he:=t17) (hk:=t47)⟩
    intro e5 qe5;refine .exit ?_;obtain rfl:j=r9 u c i:=by omega
    change c9 ..;refine .c7 [3,4,8,10,12,13] ?_;refine .rz ?_;exact ⟨_,by omega,.v ⟨E3,a3,(i+1),⟨rfl,⟨hJ1.fin,by omega⟩⟩,rfl⟩ (he:=t17) (hk:=t47)⟩
   intro e4 qe4;refine .exit ?_;obtain rfl:i=c.insts.length:=by omega
   have hlt:=MM hJ;exact ⟨_,by omega,.v ⟨E2,a2,⟨rfl,⟨hJ.g,fun hf=>by subst hf;exact hJ.done hu wc⟩⟩,rfl⟩ (he:=t17) (hk:=t47)⟩
  intro e3 qe3;refine c63z ?_;exact ⟨(h++[bU u,bC c,⟨0,false,3,1,(gR u c mx).map l5,0⟩]),[Ib],_,(by rw[hdone (by assumption)];simp),by simp,aI.new (fun b hb=>by replace hb:=s8z hb;rcases hb with rfl | rfl | rfl<;>first | exact Ha u | exact Hb c | exact CC _ | assumption),xO (by simp),by exact ⟨rfl,rfl⟩⟩
end
section
attribute [local go_sem] G4
theorem c_tabRO {u:Un}{c:Clo}(hu:WU u)(wc:WC u c){mx:Nat}(hmx:mx<u.c4.length):CallA Tryz.prog cfg 38 [.agg [.vec u.globals.length (g8 u.globals),.vec u.c4.length (g6 u.c4),.vec u.procs.length (l4 u.procs),.int .i64 u.main],.agg [.vec c.insts.length (l7 c.insts),.vec c.calls.length (n4 c.calls),.vec c.roots.length (g8 c.roots)],.int .i64 ((mx:Nat):Int)] h (fun y' h'=>∃Ib,y'=.tup [.vec c.insts.length (s9 (dM u c mx c.insts.length)),.own (h.length+5) 0 0 c.insts.length]∧h'=h++[bU u,bC c,Ib,bU u,bC c,⟨0,false,3,1,(gR u c mx).map l5,0⟩]):=by
  refine .wz Tryz.f38 36 ?_;have hwl:=wc.len;have hk8:kM u mx≤8:=dV;have hk9:nD (u.c4.getD mx aA)≤8:=hk8;have hml:=hu.ml;have hrl:=wc.rl;have hrc:c.roots.length≤c.insts.length:=by have:=aT wc.rs wc.rr;omega
  have hel:(gR u c mx).length=c.insts.length:=bQ;have hsl:(z9 u c mx).length=c.insts.length:=dC.1;have hcl:=wc.cl;refine c283z ?_;refine c269z ?_;refine .aN (fun m st=>∃(i:Nat),(m=c.insts.length-i∧(i≤c.insts.length))∧st=⟨mkS 36 [(2,AV.int .i64 ((mx:Nat):Int)),(3,AV.ptr h.length 0 0),(4,AV.ptr (h.length+1) 0 0),(8,AV.vec c.insts.length (aL (z9 u c mx))),(9,AV.own (h.length+2) i 0 i),(10,AV.int .i64 ((i:Nat):Int))],h++[bU u,bC c,s8 32 1 i (s9 (dM u c mx i))]⟩) (.v ⟨0,⟨rfl,by omega⟩,rfl⟩ (hs:=t8)) ?_ (he:=t76);rintro m sl h' ⟨i,⟨hm,hi0⟩,hst⟩;obtain ⟨rfl,rfl⟩:=St.mk.inj hst;clear hst;have hinl:(dM u c mx i).length=i:=w9;refine c1z ?_;refine u2z ?_ ?_
  ·intro e1 qe1;refine c3z ?_;have hi:i<c.insts.length:=by omega
   have hTi0:(bV u c mx (z9 u c mx) i).length=r9 u c i:=lC;refine .r ?_;refine c84z ?_;refine c169z ?_;refine .rz ?_;exact ⟨_,by omega,.v ⟨(i+1),⟨rfl,by omega⟩,rfl⟩ (he:=t91) (hk:=t111) (hs:=t8)⟩
  intro e1 qe1;refine .exit ?_;obtain rfl:i=c.insts.length:=by omega
  refine c9.tA (t:=9) (γ:=h.length+2) (len:=c.insts.length) t36 t175 (by omega) (xR _) (kT (by decide) rfl) ?_;rw[cA];simp only[s3,List.set_cons_succ,List.set_cons_zero];generalize hIe:gK _ _ _ _ _=Ib;have hIb:z7 Ib.cells:=by rw[←hIe];exact NJ (xR _)
  change c9 ..;refine c30z ?_;refine .ch rfl rfl (c_entRO hu wc hmx) ?_;refine c105z ?_;exact ⟨(h++[bU u,bC c,Ib,bU u,bC c,⟨0,false,3,1,(gR u c mx).map l5,0⟩]),[],_,(by simp only[List.append_nil,List.append_assoc,List.cons_append,List.nil_append]),by simp,aI.new (fun b hb=>by replace hb:=s8z hb;rcases hb with rfl | rfl | rfl | rfl | rfl | rfl<;>first | exact Ha u | exact Hb c | exact CC _ | assumption),VO (by simp),by exact ⟨Ib,rfl,rfl⟩⟩
end
end Go.Proofs.YtonbocmibeikmaaGreat
end
section
namespace Go.Un
open Go.Ab
def z1 (r:List Nat):List Int:=r.map fun (n:Nat)=>(n:Int)
def dE (T:List (List Nat)):List (List Int):=T.map z1
def gU (L:List (List (List Nat))):List (List (List Int)):=L.map dE
theorem dR {r:List Nat}:g8 (z1 r)=r.map l5:=by unfold g8 z1;rw[List.map_map];rfl
theorem dS {r:List Nat}:(z1 r).length=r.length:=List.length_map _
theorem iS {T:List (List Nat)}:(dE T).length=T.length:=List.length_map _
theorem xU {L:List (List (List Nat))}:(gU L).length=L.length:=List.length_map _
def RgT (T:List (List Int)):Prop:=∀r∈T,∀x∈r,I64 x
def RgR (r:List Int):Prop:=∀x∈r,I64 x
theorem CP {k:Nat}(hk:k≤8){r:List Nat}(h:Rl k r):RgR (z1 r):=fun x hx=>by obtain ⟨n,hn,rfl⟩:=List.mem_map.1 hx;have:=h.lt hk n hn;exact ⟨by omega,by omega⟩
theorem P6 {k n:Nat}(hk:k≤8){T:List (List Nat)}(h:Tb k n T):RgT (dE T):=fun r hr=>by obtain ⟨r',hr',rfl⟩:=List.mem_map.1 hr;exact CP hk (h.2 r' hr')
variable {T:List (List Int)}
theorem RgT.take (h:RgT T)(k:Nat):RgT (T.take k):=fun r hr=>h r (List.mem_of_mem_take hr)
variable {r:List Int}
theorem RgT.app (h:RgT T)(hr:RgR r):RgT (T++[r]):=fun x hx=>by
 rcases List.mem_append.1 hx with hx | hx
 ·exact h x hx
 ·obtain rfl:=List.mem_singleton.1 hx;exact hr
theorem RgT.set (h:RgT T)(hr:RgR r)(k:Nat):RgT (T.set k r):=fun x hx=>by
 rcases List.mem_or_eq_of_mem_set hx with hx | rfl
 ·exact h x hx
 ·exact hr
theorem RgR.drop (h:RgR r)(k:Nat):RgR (r.drop k):=fun x hx=>h x (List.mem_of_mem_drop hx)
theorem RgR.set (h:RgR r){v:Int}(hv:I64 v)(k:Nat):RgR (r.set k v):=fun x hx=>by
 rcases List.mem_or_eq_of_mem_set hx with hx | rfl
 ·exact h x hx
 ·exact hv
end Go.Un
end
section
namespace Go.Proofs.YtonbocmibeikmaaGreat
open Go.Ab Go.Un
attribute [local go_sem] l8 bE n6 bK o7 Int.natCast_nonneg Int.natCast_inj List.length_map dG hB_1 hB_2 hB_5 Br Bt Bu Bv gP E5 hU U6
variable {c:Core}{e:Frame}{left I:Int}
theorem YT {l:c6}(hc:OkC c)(hI:OkI c.L I)(hL:c.L.length<4611686018427387904)(vars:List BA)(hN:vars.length<1000)(f:Fu)(hp:f.params.length≤2):CH 127 [.ptr 5 0 0,.agg (fE f),.vec vars.length (bA vars)] (hB c e I left++l) (.agg (AG (y0 c f.params vars I).1)) (hB c e (y0 c f.params vars I).2 left++l):=c_ref (e:=⟨e.b0,e.b1,e.b2,e.z,e.m,e.g,e.rest++l⟩) hc hI hL vars hN f hp
variable {n:Nat}
theorem CQ {c:Core}{e:Frame}{I left:Int}{fb rb:Blk}{g:Nat}{zs:List AV}{x1 x2 x3 x4 x5 x6 x7:AV}(hz:zs.length=n*7)(hn:n<1000) :
    j9 cfg 214 (hB c e I left++[fb,rb,s8 214 7 g zs,⟨0,false,214,7,[x1,x2,x3,x4,x5,x6,x7],0⟩]) (.own (e.n+2) g 0 n) (.own (e.n+3) 0 0 1)=some (.own (e.n+2) (g+1) 0 (n+1),hB c e I left++[fb,rb,s8 214 7 (g+1) (zs++[x1,x2,x3,x4,x5,x6,x7]),⟨0,false,214,7,[x1,x2,x3,x4,x5,x6,x7],0⟩]):=by
  have hb:(hB c e I left++[fb,rb,s8 214 7 g zs,⟨0,false,214,7,[x1,x2,x3,x4,x5,x6,x7],0⟩])[e.n+2]?=some (s8 214 7 g zs):=gP;rw[aJ (C:=cfg) (K:=7) (m:=1) (new:=[x1,x2,x3,x4,x5,x6,x7]) hb rfl (by omega) hz rfl (by omega) t151 rfl (by decide) (by omega),hU];rfl
theorem NK {c:Core}{e:Frame}{I left:Int}{fb rb:Blk}{g:Nat}{zs:List AV}{x1 x2 x3:AV}{x:Ex}(hz:zs.length=n*7)(hn:n<1000) :
    j9 cfg 214 (hB c e I left++[fb,rb,s8 214 7 g zs,⟨0,false,214,7,x1::x2::x3::w8 x,0⟩]) (.own (e.n+2) g 0 n) (.own (e.n+3) 0 0 1)=some (.own (e.n+2) (g+1) 0 (n+1),hB c e I left++[fb,rb,s8 214 7 (g+1) (zs++x1::x2::x3::w8 x),⟨0,false,214,7,x1::x2::x3::w8 x,0⟩]):=by
  rw[cM];exact CQ hz hn
variable {ps l:List Pm}{vars:List BA}{j:Nat}{J:Int}
theorem args_t (h:j<l.length)(hm:(l.getD j jL).mu=true):aS c ps vars (l.drop j) J=(⟨true,(y0 c ps vars J).1,l9⟩::(aS c ps vars (l.drop (j+1)) (y0 c ps vars J).2).1,(aS c ps vars (l.drop (j+1)) (y0 c ps vars J).2).2):=by rw[List.drop_eq_getElem_cons h,aS,if_pos (by simpa [List.getD,h] using hm)]
theorem args_f (h:j<l.length)(hm:(l.getD j jL).mu=false):aS c ps vars (l.drop j) J=(⟨false,o1,(j6 c vars J).1⟩::(aS c ps vars (l.drop (j+1)) (j6 c vars J).2).1,(aS c ps vars (l.drop (j+1)) (j6 c vars J).2).2):=by rw[List.drop_eq_getElem_cons h,aS,if_neg (by rw[show l[j].mu=(l.getD j jL).mu from by simp[List.getD,h],hm];decide)]
theorem zM {l:List Ar}{a:Ar}:cC (l++[a])=cC l++FL a:=by simp[cC]
theorem refs_A {l:List Ar}:∀x∈cC l,Refs n x:=by
  intro x hx;obtain ⟨a,_,hx⟩:=List.mem_flatMap.1 hx;simp only[FL,cM,List.mem_cons,List.not_mem_nil,or_false]at hx;rcases hx with rfl | rfl | rfl | rfl | rfl | rfl | rfl
  · exact .bool _
  · exact .str _
  · exact .vec _ _
  · exact .int _ _
  · exact .int _ _
  · exact .str _
  · exact .vec _ _
theorem P7 {J':Int}{xs:List Ar}{a:Ar}(h:aS c ps vars l I=(xs++(aS c ps vars (l.drop j) J).1,(aS c ps vars (l.drop j) J).2))(hs:aS c ps vars (l.drop j) J=(a::(aS c ps vars (l.drop (j+1)) J').1,(aS c ps vars (l.drop (j+1)) J').2)):aS c ps vars l I=((xs++[a])++(aS c ps vars (l.drop (j+1)) J').1,(aS c ps vars (l.drop (j+1)) J').2):=by rw[h,hs];simp only[List.append_assoc,List.cons_append,List.nil_append]
section
attribute [local go_sem] iF wrap64 fE AG CQ NK mL M7 D0
theorem c_args (hc:OkC c)(hI:OkI c.L I)(hL:c.L.length<4611686018427387904)(vars:List BA)(hN:vars.length<1000)(f g:Fu)(hp:f.params.length≤2)(hq:g.params.length≤2):CH 129 [.ptr 5 0 0,.agg (fE f),.agg (fE g),.vec vars.length (bA vars)] (hB c e I left) (.vec (aS c f.params vars g.params I).1.length (cC (aS c f.params vars g.params I).1)) (hB c e (aS c f.params vars g.params I).2 left):=by
  refine .wz Tryz.f129 40 ?_;refine c49z ?_;refine c9.wC 9 rfl ?_;refine .aN (fun m st=>∃(j:Nat) (J:Int) (xs:List Ar),(m=g.params.length-j∧(j≤g.params.length∧OkI c.L J∧xs.length=j∧aS c f.params vars g.params I=(xs++(aS c f.params vars (g.params.drop j) J).1,(aS c f.params vars (g.params.drop j) J).2)))∧st=⟨mkS 40 [(0,AV.ptr 5 0 0),(3,AV.vec vars.length (bA vars)),(5,AV.ptr e.n 0 0),(6,AV.ptr (e.n+1) 0 0),(9,AV.own (e.n+2) j 0 j),(10,AV.int .i64 ((j:Nat):Int))],hB c e J left++[⟨0,false,136,3,[.str f.name,.vec f.params.length (aC f.params),.vec f.body.len (s4 f.body)],0⟩,⟨0,false,136,3,[.str g.name,.vec g.params.length (aC g.params),.vec g.body.len (s4 g.body)],0⟩,s8 214 7 j (cC xs)]⟩) (.v ⟨0,I,[],⟨rfl,⟨by omega,hI,rfl,rfl⟩⟩,rfl⟩ (hs:=t40) (hr:=t1)) ?_;rintro m sl h' ⟨j,J,xs,⟨hm,⟨hj,hJ,hal,hA⟩⟩,hst⟩;obtain ⟨rfl,rfl⟩:=St.mk.inj hst;clear hst;have hz7:(cC xs).length=j*7:=by rw[dQ,hal];omega
  refine c1z ?_;refine u2z ?_ ?_
  ·intro e1 qe1;refine c131z ?_;refine u2z ?_ ?_
   ·intro e2 qe2;refine .c7 [0,3,5,6,9,10] ?_;refine c186z ?_;refine .ch rfl rfl (YT hc hJ hL vars hN f hp) ?_;refine c25z ?_;refine .c7 [0,3,5,6,9,10] ?_;refine c9.nilsO (β:=e.n+2) (cC (xs++[(⟨true,(y0 c f.params vars J).1,l9⟩:Ar)])) t72 (by rw[zM];exact (pV.refl _).app SS) ?_;simp only[hU,List.set_cons_succ,List.set_cons_zero];refine .rz ?_;exact ⟨_,by omega,.v ⟨(j+1),(y0 c f.params vars J).2,(xs++[(⟨true,(y0 c f.params vars J).1,l9⟩:Ar)]),⟨rfl,⟨by omega,(qU hc hJ).2,by simp[hal],P7 hA (args_t (by omega) (by assumption))⟩⟩,rfl⟩ (he:=t164) (hl:=t31) (hk:=t194) (hs:=t40) (hr:=t1)⟩
   intro e2 qe2;refine .c7 [0,3,5,6,9,10] ?_;refine .r ?_;refine .e 3 ?_;refine .ch rfl rfl (BD hc hJ hL vars hN) ?_;refine c25z ?_;refine c9.nilsO (β:=e.n+2) (cC (xs++[(⟨false,o1,(j6 c vars J).1⟩:Ar)])) t72 (by rw[zM];exact (pV.refl _).app JR) ?_;simp only[hU,List.set_cons_succ,List.set_cons_zero];refine .rz ?_;exact ⟨_,by omega,.v ⟨(j+1),(j6 c vars J).2,(xs++[(⟨false,o1,(j6 c vars J).1⟩:Ar)]),⟨rfl,⟨by omega,(kN hJ).2,by simp[hal],P7 hA (args_f (by omega) (by assumption))⟩⟩,rfl⟩ (he:=t164) (hl:=t31) (hk:=t194) (hs:=t40) (hr:=t1)⟩
  intro e1 qe1;refine c8z ?_;refine .c7 [9] ?_;refine c28z ?_;exact ⟨hB _ _ _ _,_,.vec xs.length (cC xs),rfl,t79,iZ,by (show jQ _ (hB c e J left++_) 6 (.own (e.n+2) j 0 j)=_;rw[dG,dW,if_neg (by omega),hal];exact lJ gP (by omega) (by rw[dQ,hal];omega) (by omega) frz_A),by refine ⟨?_,?_⟩<;>(rw[hA,List.drop_of_length_le (by omega)];simp only[aS,List.append_nil])⟩
end
end Go.Proofs.YtonbocmibeikmaaGreat
end
