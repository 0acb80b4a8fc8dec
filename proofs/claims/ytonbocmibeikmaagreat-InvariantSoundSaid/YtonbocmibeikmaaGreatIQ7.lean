/- My own texts, put together by a program of mine. -/
import Derived.Test.YtonbocmibeikmaaGreatIQ6
set_option linter.unusedSimpArgs false
set_option linter.unusedVariables false
set_option maxRecDepth 100000
set_option maxHeartbeats 4000000
section
namespace Go.Proofs.YtonbocmibeikmaaGreat
open Go.Ab Go.Un
theorem dH {c:Clo}{i:Nat}(h:i<c.insts.length):List.take 1 (List.drop (i*2) (l3 c.insts))=[.int .i64 (itI c i).proc]:=nP h
theorem MG {h:c7}(u:Un)(mx:Nat):CB 30 [.agg [.str (u.c4.getD mx w3).name,.bool (u.c4.getD mx w3).re,.int .i64 (u.c4.getD mx w3).size]] h (.int .i64 ((kM u mx:Nat):Int)):=c_cap _
theorem c9.UJ {c:Code}{H:c7}{Q:Exit→St→Prop}{γ t len n e:Nat}{l:List (Nat×AV)}{zs:List Nat}(hγ:H[γ]?=some ⟨0,false,e,1,zs.map j8,0⟩)(hz:zs.length=len)(hp:0<len)(hx:(mkS n l)[t]?=some (.own γ 0 0 len))
  (r:c9 Tryz.prog cfg c ⟨(mkS n l).set t (.vec len (zs.map j8)),H.set γ ⟨0,false,e,1,zs.map j8,len⟩⟩ Q):c9 Tryz.prog cfg c ⟨mkS n l,H⟩ Q:=by
 subst hz;have hne:zs.map j8≠[]:=fun h0=>by have:=congrArg List.length h0;rw[List.length_map]at this;replace this:=s7z this;omega
 refine c9.vH (t:=t) (γ:=γ) (len:=zs.length) (e:=e) (K:=1) (g:=0) (zs:=zs.map j8) (by rw[hγ];exact congrArg some (dE hne).symm) (by simp) (by omega) (N9 zs) hx ?_;obtain ⟨z,zs',hzz⟩:=List.exists_cons_of_ne_nil hne;have e1:gN e 1 0 (zs.map j8) (zs.length*1)=⟨0,false,e,1,zs.map j8,zs.length⟩:=by rw[hzz,Nat.mul_one];rfl
 rw[e1];exact r
attribute [local go_sem] rd bJ r9 u7 r6 n7 l7 aK p7 Int.natCast_nonneg Int.natCast_inj aL nQ dN cW dO gS iD qW jV bP mF tC eM kY kZ iE List.length_set List.length_replicate Int.toNat_natCast_add_one fF wrap64 sC List.length_map dH dP
end Go.Proofs.YtonbocmibeikmaaGreat
end
section
namespace Go.Proofs.YtonbocmibeikmaaGreat
open Go.Ab Go.Un
variable {h:c7}
theorem pB (u:Un)(mx:Nat):CB 43 [.agg [.str (u.c4.getD mx w3).name,.bool (u.c4.getD mx w3).re,.int .i64 (u.c4.getD mx w3).size]] h (.int .i64 ((kM u mx:Nat):Int)):=XL _
theorem D9 (k:Nat)(hk:k≤8):CB 79 [.int .i64 ((k:Nat):Int),.int .i64 0] h (bJ (dhN k 0)):=
  (LD k 0 hk (by omega) (by omega)).mono fun y k hq=>⟨hq.1.trans (CA _ _),hq.2⟩
variable {u:Un}{c:Clo}{mx i:Nat}
theorem E4 (hu:WU u)(wc:WC u c)(hmx:mx<u.c4.length)(hi:i<c.insts.length){pc:Nat}(hp:pc<s4 u c i):CB 80 [.agg [.vec u.globals.length (g7 u.globals),.vec u.c4.length (g0 u.c4),.vec u.procs.length (j6 u.procs),.int .i64 u.main],.agg [.int .i64 (itI c i).proc,.vec (itI c i).j9.length (g7 (itI c i).j9)],.int .i64 ((pc:Nat):Int),.int .i64 ((mx:Nat):Int)] h (bJ (dhN (kM u mx) (chI (itI c i) (eB u c i pc) mx))):=
  (c_relR hu (cB wc hi) hp hmx).mono fun y k hq=>⟨hq.1.trans (CA _ _),hq.2⟩
theorem qX (hu:WU u){it:z5}(w:WIt u it){pc:Nat}(hpc:pc<(c8 u it).length):CB 26 [.agg [.vec u.globals.length (g7 u.globals),.vec u.c4.length (g0 u.c4),.vec u.procs.length (j6 u.procs),.int .i64 u.main],.agg [.int .i64 it.proc,.vec it.j9.length (g7 it.j9)],.int .i64 ((pc:Nat):Int)] h (.vec (p4 ((c8 u it).getD pc g6) pc).length (g7 (p4 ((c8 u it).getD pc g6) pc))):=c_nextR hu w hpc
attribute [local go_sem] rd bJ r9 u7 r6 n7 l7 aK p7 Int.natCast_nonneg Int.natCast_inj aL dN cW dO gS iD qW jV bP mF tC eM kY kZ iE List.length_set List.length_replicate Int.toNat_natCast_add_one fF wrap64 sC List.length_map dH dP
theorem qY (hu:WU u)(wc:WC u c)(hmx:mx<u.c4.length){S:List (List Nat)}(hS:Tb (kM u mx) c.insts.length S)(hi:i<c.insts.length):CB 57 [.agg [.vec u.globals.length (g7 u.globals),.vec u.c4.length (g0 u.c4),.vec u.procs.length (j6 u.procs),.int .i64 u.main],.agg [.vec c.insts.length (l3 c.insts),.vec c.calls.length (l5 c.calls),.vec c.roots.length (g7 c.roots)],.int .i64 ((mx:Nat):Int),.vec c.insts.length (s6 S),.int .i64 ((i:Nat):Int)] h (.vec (s4 u c i) (s6 (sB u c mx S i))):=by
  refine .bz Tryz.f57 136 ?_;have w:=cB wc hi;have w1:=w.lo;have w2:=w.hi;have hsz:(c8 u (itI c i)).length≤1664:=n6 hu w;have hwl:=wc.len;have hk8:kM u mx≤8:=eP;have hk9:nS (u.c4.getD mx w3)≤8:=hk8;have hml:=hu.ml;have p:Pro (kM u mx) (c8 u (itI c i)).length (nxI u c i) (stS u c mx S i):=V6 hu wc hS hi;have hps:=p.pos;have hcl:=wc.cl;have hcll:(c.calls.getD i []).length=(c8 u (itI c i)).length:=wc.cll i hi;have hSl:=hS.1;have hcall:∀pc,pc<(c8 u (itI c i)).length→(eB u c i pc).op=2→0≤(c.calls.getD i []).getD pc 0∧(c.calls.getD i []).getD pc 0<c.insts.length:=fun pc hp ho=>by have:=(wc.call i hi pc hp).1 (.inl ho);exact ⟨this.1,this.2.1⟩
  refine c261z ?_;refine .c6 [2,3,4,5,6,11] ?_;refine c150z ?_;refine .n ?_;refine c251z ?_;refine .c6 [2,3,4,5,6,11,12,13] ?_;refine c14z ?_;refine .aB (fun m st=>∃(j:Nat),(m=(c8 u (itI c i)).length-j∧(j≤(c8 u (itI c i)).length))∧st=⟨mkS 136 [(2,AV.int .i64 ((mx:Nat):Int)),(3,AV.vec c.insts.length (s6 S)),(4,AV.int .i64 ((i:Nat):Int)),(5,AV.ptr h.length 0 0),(6,AV.ptr (h.length+1) 0 0),(11,AV.ptr (h.length+2) 0 0),(12,AV.int .i64 (((kM u mx):Nat):Int)),(13,AV.own (h.length+3) 0 0 (c8 u (itI c i)).length),(14,AV.int .i64 ((j:Nat):Int))],h++[⟨0,false,30,4,[.vec u.globals.length (g7 u.globals),.vec u.c4.length (g0 u.c4),.vec u.procs.length (j6 u.procs),.int .i64 u.main],0⟩,⟨0,false,34,3,[.vec c.insts.length (l3 c.insts),.vec c.calls.length (l5 c.calls),.vec c.roots.length (g7 c.roots)],0⟩,⟨0,false,46,2,[.int .i64 (itI c i).proc,.vec (itI c i).j9.length (g7 (itI c i).j9)],0⟩,⟨0,false,22,1,O1 (c8 u (itI c i)).length j (List.replicate (kM u mx+1) 0),0⟩]⟩) (.v ⟨0,⟨rfl,by omega⟩,rfl⟩) ?_ (he:=by (rw[LZ]));rintro m sl h' ⟨j,⟨hm,hj⟩,hst⟩;obtain ⟨rfl,rfl⟩:=St.mk.inj hst;clear hst;refine c1z ?_;refine u2z ?_ ?_
  ·intro e1 qe1;refine c3z ?_;refine c2z ?_;refine .c6 [2,3,4,5,6,11,12,13,14] ?_;refine c9.seenF (β:=h.length+3) (γ:=h.length+4) (A:=s6 (List.replicate j (List.replicate (kM u mx+1) 0))) (R:=List.replicate ((c8 u (itI c i)).length-(j+1)) AV.g9) (zs:=(List.replicate (kM u mx+1) 0)) (len:=kM u mx+1) t34 t34 (by simp) (by omega) ?_;simp only[List.append_assoc,List.cons_append,List.nil_append,r7,o4,List.set_cons_succ,List.set_cons_zero,List.length_append,List.length_cons,List.length_nil,Nat.reduceAdd,Nat.zero_add];refine .rz ?_;exact ⟨_,by omega,.v ⟨(j+1),⟨rfl,by omega⟩,rfl⟩ (he:=by (rw[←FD];simp only[List.append_assoc,List.cons_append,List.nil_append];rfl)) (hk:=by exact (aE.refl _).app rfl ⟨.inl rfl,.inl rfl,.inl rfl,.inr (MD _),trivial⟩)⟩
  intro e1 qe1;refine .exit ?_;obtain rfl:j=(c8 u (itI c i)).length:=by omega
  simp only[UI];change c9 ..;refine c16z ?_;refine .ca rfl rfl (D9 _ hk8) ?_;refine c32z ?_;refine .c6 [2,3,4,5,6,11,13] ?_;refine c14z ?_;refine .aB (fun m st=>∃(T:List (List Nat)) (ag:Bool),(m=mPas (c8 u (itI c i)).length T ag∧(Gro (kM u mx) (c8 u (itI c i)).length (nxI u c i) (stS u c mx S i) T∧(ag=false→T=gT (kM u mx) (c8 u (itI c i)).length (nxI u c i) (stS u c mx S i))))∧st=⟨mkS 136 [(2,AV.int .i64 ((mx:Nat):Int)),(3,AV.vec c.insts.length (s6 S)),(4,AV.int .i64 ((i:Nat):Int)),(5,AV.ptr h.length 0 0),(6,AV.ptr (h.length+1) 0 0),(11,AV.ptr (h.length+2) 0 0),(13,AV.own (h.length+3) 0 0 (c8 u (itI c i)).length),(15,AV.bool ag)],h++[⟨0,false,30,4,[.vec u.globals.length (g7 u.globals),.vec u.c4.length (g0 u.c4),.vec u.procs.length (j6 u.procs),.int .i64 u.main],0⟩,⟨0,false,34,3,[.vec c.insts.length (l3 c.insts),.vec c.calls.length (l5 c.calls),.vec c.roots.length (g7 c.roots)],0⟩,⟨0,false,46,2,[.int .i64 (itI c i).proc,.vec (itI c i).j9.length (g7 (itI c i).j9)],0⟩,⟨0,false,22,1,s6 T,0⟩]⟩) (.v ⟨((List.replicate (c8 u (itI c i)).length (List.replicate (kM u mx+1) 0)).set 0 (dhN (kM u mx) 0)),true,⟨rfl,⟨Gro.start p,fun hf=>by cases hf⟩⟩,rfl⟩) ?_;rintro m sl h' ⟨T,ag,⟨hm,⟨hG,hdone⟩⟩,hst⟩;obtain ⟨rfl,rfl⟩:=St.mk.inj hst;clear hst;refine c1z ?_;refine u2z ?_ ?_
  ·intro e2 qe2;refine c184z ?_;have hag:ag=true:=by assumption
   subst hag;refine .z ?_;refine c14z ?_;refine .aB (fun m st=>∃(T1:List (List Nat)) (a1:Bool) (pc:Nat),(m=(c8 u (itI c i)).length-pc∧(ON (kM u mx) (c8 u (itI c i)).length (nxI u c i) (stS u c mx S i) T T1 a1 pc∧pc≤(c8 u (itI c i)).length))∧st=⟨mkS 136 [(2,AV.int .i64 ((mx:Nat):Int)),(3,AV.vec c.insts.length (s6 S)),(4,AV.int .i64 ((i:Nat):Int)),(5,AV.ptr h.length 0 0),(6,AV.ptr (h.length+1) 0 0),(11,AV.ptr (h.length+2) 0 0),(13,AV.own (h.length+3) 0 0 (c8 u (itI c i)).length),(15,AV.bool a1),(16,AV.int .i64 ((pc:Nat):Int))],h++[⟨0,false,30,4,[.vec u.globals.length (g7 u.globals),.vec u.c4.length (g0 u.c4),.vec u.procs.length (j6 u.procs),.int .i64 u.main],0⟩,⟨0,false,34,3,[.vec c.insts.length (l3 c.insts),.vec c.calls.length (l5 c.calls),.vec c.roots.length (g7 c.roots)],0⟩,⟨0,false,46,2,[.int .i64 (itI c i).proc,.vec (itI c i).j9.length (g7 (itI c i).j9)],0⟩,⟨0,false,22,1,s6 T1,0⟩]⟩) (.v ⟨T,false,0,⟨rfl,⟨ON.start hG,by omega⟩⟩,rfl⟩) ?_;rintro m sl h' ⟨T1,a1,pc,⟨hm,⟨hP,hpl⟩⟩,hst⟩;obtain ⟨rfl,rfl⟩:=St.mk.inj hst;clear hst;have hT1:T1.length=(c8 u (itI c i)).length:=hP.g.tb.1;refine c1z ?_;refine u2z ?_ ?_
   ·intro e3 qe3;refine c3z ?_;have hpc:pc<(c8 u (itI c i)).length:=by omega
    have hop:eB u c i pc=(c8 u (itI c i)).getD pc g6:=rfl;refine c29z ?_;refine .ca rfl rfl (E4 hu wc hmx hi (show pc<s4 u c i by show pc<(c8 u (itI c i)).length;omega)) ?_;refine c32z ?_;refine .c6 [2,3,4,5,6,11,13,15,16,17] ?_;refine c123z ?_;refine u2z ?_ ?_
    ·intro e4 qe4;refine .c6 [2,3,4,5,6,11,13,15,16] ?_;obtain ⟨hc1,hc2⟩:=hcall pc hpc (by rw[hop];omega);refine c128z ?_;refine .c6 [2,3,4,5,6,11,13,15,16,17] ?_;have hst2:S.getD ((c.calls.getD i []).getD pc 0).toNat []=stS u c mx S i pc:=by unfold stS;rw[if_pos (show (eB u c i pc).op=2 from by rw[hop];omega)];first | done | rfl
     rw[hst2];have hst1:=p.st pc hpc;have hTp:=hP.g.tb.get hpc;obtain ⟨hR,hle⟩:=hP.g.aft p hpc;have hnl:=kV (x:=(c8 u (itI c i)).getD pc g6) (pc:=pc);refine .ss u6 (mkP 12 [0,0,3,7,0,31,0,0,0,511,1023,2047] []) ?_;refine .k 5 [] ?_;refine .ca rfl rfl (wT _ _ (hst1.lt hk8) t136 (hTp.lt hk8) t104) ?_;refine .k 3 [] ?_;refine .ca rfl rfl (qX hu w hpc) ?_;refine .n [] ?_;refine .c6 [2,3,4,5,6,11,13,15,16,18,19] ?_;refine c14z ?_;refine .aB (fun m st=>∃(T2:List (List Nat)) (a2:Bool) (j:Nat),(m=(p4 ((c8 u (itI c i)).getD pc g6) pc).length-j∧(LY (kM u mx) (c8 u (itI c i)).length (nxI u c i) (stS u c mx S i) T T2 a2 pc (T1.getD pc []) j∧j≤(p4 ((c8 u (itI c i)).getD pc g6) pc).length))∧st=⟨mkS 136 [(2,AV.int .i64 ((mx:Nat):Int)),(3,AV.vec c.insts.length (s6 S)),(4,AV.int .i64 ((i:Nat):Int)),(5,AV.ptr h.length 0 0),(6,AV.ptr (h.length+1) 0 0),(11,AV.ptr (h.length+2) 0 0),(13,AV.own (h.length+3) 0 0 (c8 u (itI c i)).length),(15,AV.bool a2),(16,AV.int .i64 ((pc:Nat):Int)),(18,bJ (s5 (T1.getD pc []) (stS u c mx S i pc))),(19,AV.vec (p4 ((c8 u (itI c i)).getD pc g6) pc).length (g7 (p4 ((c8 u (itI c i)).getD pc g6) pc))),(20,AV.int .i64 ((j:Nat):Int))],h++[⟨0,false,30,4,[.vec u.globals.length (g7 u.globals),.vec u.c4.length (g0 u.c4),.vec u.procs.length (j6 u.procs),.int .i64 u.main],0⟩,⟨0,false,34,3,[.vec c.insts.length (l3 c.insts),.vec c.calls.length (l5 c.calls),.vec c.roots.length (g7 c.roots)],0⟩,⟨0,false,46,2,[.int .i64 (itI c i).proc,.vec (itI c i).j9.length (g7 (itI c i).j9)],0⟩,⟨0,false,22,1,s6 T2,0⟩]⟩) (.v ⟨T1,a1,0,⟨rfl,⟨hP.go,by omega⟩⟩,rfl⟩) ?_;rintro m sl h' ⟨T2,a2,j,⟨hm,⟨hQ,hj⟩⟩,hst⟩;obtain ⟨rfl,rfl⟩:=St.mk.inj hst;clear hst;have hT2:T2.length=(c8 u (itI c i)).length:=hQ.g.tb.1;refine c1z ?_;refine u2z ?_ ?_
     ·intro e5 qe5;refine c3z ?_;obtain ⟨hq1,hq2⟩:=p.nx pc hpc _ (g8 (d:=0) (show j<(nxI u c i pc).length from by show j<(p4 ((c8 u (itI c i)).getD pc g6) pc).length;omega));rw[show nxI u c i pc=(p4 ((c8 u (itI c i)).getD pc g6) pc) from rfl]at hq1 hq2;have hjn:j<(nxI u c i pc).length:=by show j<(p4 ((c8 u (itI c i)).getD pc g6) pc).length;omega
      have hq3:((p4 ((c8 u (itI c i)).getD pc g6) pc).getD j 0).toNat<(c8 u (itI c i)).length:=by omega
      have hRq:=hQ.g.tb.get hq3;refine c45z ?_;refine .ca rfl rfl (nX _ _ (hR.lt hk8) (hRq.lt hk8) t213 (by have:=hR.1;have:=hRq.1;omega)) ?_;refine .n ?_;refine .c6 [2,3,4,5,6,11,13,15,16,18,19,20,21] ?_;refine c45z ?_;refine .ca rfl rfl (W2 _ _ (by rw[qR];have:=hRq.1;omega)) ?_;refine .n ?_;refine u2z ?_ ?_
      ·intro e6 qe6;refine .c6 [2,3,4,5,6,11,13,16,18,19,20,21] ?_;refine c128z ?_;refine c125z ?_;exact ⟨_,by omega,.v ⟨(T2.set ((p4 ((c8 u (itI c i)).getD pc g6) pc).getD j 0).toNat (cX (T2.getD ((p4 ((c8 u (itI c i)).getD pc g6) pc).getD j 0).toNat []) (s5 (T1.getD pc []) (stS u c mx S i pc)))),true,(j+1),⟨rfl,⟨hQ.grow p hpc hR hle hjn rfl (fun hs=>absurd ((gU hRq hR).2 hs) (by assumption)),by omega⟩⟩,rfl⟩ (he:=t23) (hk:=t57)⟩
      intro e6 qe6;refine c4z ?_;refine c125z ?_;exact ⟨_,by omega,.v ⟨T2,a2,(j+1),⟨rfl,⟨hQ.skip ((gU hRq hR).1 (by assumption)),by omega⟩⟩,rfl⟩ (he:=t23) (hk:=t57)⟩
     intro e5 qe5;refine .exit ?_;obtain rfl:j=(p4 ((c8 u (itI c i)).getD pc g6) pc).length:=by omega
     refine c230z ?_;exact ⟨_,by omega,.v ⟨T2,a2,(pc+1),⟨rfl,⟨hQ.fin,by omega⟩⟩,rfl⟩ (he:=t23) (hk:=t57)⟩
    intro e4 qe4;refine .sk ?_;refine .c6 [2,3,4,5,6,11,13,15,16,17] ?_;have hst2:dhN (kM u mx) (chI (itI c i) (eB u c i pc) mx)=stS u c mx S i pc:=by unfold stS;rw[if_neg (show ¬(eB u c i pc).op=2 from by rw[hop];omega)];first | done | rfl
    rw[hst2];have hst1:=p.st pc hpc;have hTp:=hP.g.tb.get hpc;obtain ⟨hR,hle⟩:=hP.g.aft p hpc;have hnl:=kV (x:=(c8 u (itI c i)).getD pc g6) (pc:=pc);refine .ss u6 (mkP 12 [0,0,3,7,0,31,0,0,0,511,1023,2047] []) ?_;refine .k 5 [] ?_;refine .ca rfl rfl (wT _ _ (hst1.lt hk8) t136 (hTp.lt hk8) t104) ?_;refine .k 3 [] ?_;refine .ca rfl rfl (qX hu w hpc) ?_;refine .n [] ?_;refine .c6 [2,3,4,5,6,11,13,15,16,18,19] ?_;refine c14z ?_;refine .aB (fun m st=>∃(T2:List (List Nat)) (a2:Bool) (j:Nat),(m=(p4 ((c8 u (itI c i)).getD pc g6) pc).length-j∧(LY (kM u mx) (c8 u (itI c i)).length (nxI u c i) (stS u c mx S i) T T2 a2 pc (T1.getD pc []) j∧j≤(p4 ((c8 u (itI c i)).getD pc g6) pc).length))∧st=⟨mkS 136 [(2,AV.int .i64 ((mx:Nat):Int)),(3,AV.vec c.insts.length (s6 S)),(4,AV.int .i64 ((i:Nat):Int)),(5,AV.ptr h.length 0 0),(6,AV.ptr (h.length+1) 0 0),(11,AV.ptr (h.length+2) 0 0),(13,AV.own (h.length+3) 0 0 (c8 u (itI c i)).length),(15,AV.bool a2),(16,AV.int .i64 ((pc:Nat):Int)),(18,bJ (s5 (T1.getD pc []) (stS u c mx S i pc))),(19,AV.vec (p4 ((c8 u (itI c i)).getD pc g6) pc).length (g7 (p4 ((c8 u (itI c i)).getD pc g6) pc))),(20,AV.int .i64 ((j:Nat):Int))],h++[⟨0,false,30,4,[.vec u.globals.length (g7 u.globals),.vec u.c4.length (g0 u.c4),.vec u.procs.length (j6 u.procs),.int .i64 u.main],0⟩,⟨0,false,34,3,[.vec c.insts.length (l3 c.insts),.vec c.calls.length (l5 c.calls),.vec c.roots.length (g7 c.roots)],0⟩,⟨0,false,46,2,[.int .i64 (itI c i).proc,.vec (itI c i).j9.length (g7 (itI c i).j9)],0⟩,⟨0,false,22,1,s6 T2,0⟩]⟩) (.v ⟨T1,a1,0,⟨rfl,⟨hP.go,by omega⟩⟩,rfl⟩) ?_;rintro m sl h' ⟨T2,a2,j,⟨hm,⟨hQ,hj⟩⟩,hst⟩;obtain ⟨rfl,rfl⟩:=St.mk.inj hst;clear hst;have hT2:T2.length=(c8 u (itI c i)).length:=hQ.g.tb.1;refine c1z ?_;refine u2z ?_ ?_
    ·intro e7 qe7;refine c3z ?_;obtain ⟨hq1,hq2⟩:=p.nx pc hpc _ (g8 (d:=0) (show j<(nxI u c i pc).length from by show j<(p4 ((c8 u (itI c i)).getD pc g6) pc).length;omega));rw[show nxI u c i pc=(p4 ((c8 u (itI c i)).getD pc g6) pc) from rfl]at hq1 hq2;have hjn:j<(nxI u c i pc).length:=by show j<(p4 ((c8 u (itI c i)).getD pc g6) pc).length;omega
     have hq3:((p4 ((c8 u (itI c i)).getD pc g6) pc).getD j 0).toNat<(c8 u (itI c i)).length:=by omega
     have hRq:=hQ.g.tb.get hq3;refine c45z ?_;refine .ca rfl rfl (nX _ _ (hR.lt hk8) (hRq.lt hk8) t213 (by have:=hR.1;have:=hRq.1;omega)) ?_;refine .n ?_;refine .c6 [2,3,4,5,6,11,13,15,16,18,19,20,21] ?_;refine c45z ?_;refine .ca rfl rfl (W2 _ _ (by rw[qR];have:=hRq.1;omega)) ?_;refine .n ?_;refine u2z ?_ ?_
     ·intro e8 qe8;refine .c6 [2,3,4,5,6,11,13,16,18,19,20,21] ?_;refine c128z ?_;refine c125z ?_;exact ⟨_,by omega,.v ⟨(T2.set ((p4 ((c8 u (itI c i)).getD pc g6) pc).getD j 0).toNat (cX (T2.getD ((p4 ((c8 u (itI c i)).getD pc g6) pc).getD j 0).toNat []) (s5 (T1.getD pc []) (stS u c mx S i pc)))),true,(j+1),⟨rfl,⟨hQ.grow p hpc hR hle hjn rfl (fun hs=>absurd ((gU hRq hR).2 hs) (by assumption)),by omega⟩⟩,rfl⟩ (he:=t23) (hk:=t57)⟩
     intro e8 qe8;refine c4z ?_;refine c125z ?_;exact ⟨_,by omega,.v ⟨T2,a2,(j+1),⟨rfl,⟨hQ.skip ((gU hRq hR).1 (by assumption)),by omega⟩⟩,rfl⟩ (he:=t23) (hk:=t57)⟩
    intro e7 qe7;refine .exit ?_;obtain rfl:j=(p4 ((c8 u (itI c i)).getD pc g6) pc).length:=by omega
    refine c230z ?_;exact ⟨_,by omega,.v ⟨T2,a2,(pc+1),⟨rfl,⟨hQ.fin,by omega⟩⟩,rfl⟩ (he:=t23) (hk:=t57)⟩
   intro e3 qe3;refine .exit ?_;obtain rfl:pc=(c8 u (itI c i)).length:=by omega
   have hlt:=mPas_lt hk8 hP;exact ⟨_,by omega,.v ⟨T1,a1,⟨rfl,⟨hP.g,fun hf=>by subst hf;exact hP.done p⟩⟩,rfl⟩ (he:=t23) (hk:=t57)⟩
  intro e2 qe2;refine c6z ?_;refine .c6 [13] ?_;refine c27z ?_;exact ⟨_,_,rfl,frz_T t34 (by omega) hG.tb.1,by (show _=_;rw[hdone (by assumption)];rfl)⟩
theorem UK (hu:WU u)(wc:WC u c)(hmx:mx<u.c4.length){S:List (List Nat)}(hS:Tb (kM u mx) c.insts.length S)(hi:i<c.insts.length):CB 136 [.agg [.vec u.globals.length (g7 u.globals),.vec u.c4.length (g0 u.c4),.vec u.procs.length (j6 u.procs),.int .i64 u.main],.agg [.vec c.insts.length (l3 c.insts),.vec c.calls.length (l5 c.calls),.vec c.roots.length (g7 c.roots)],.int .i64 ((mx:Nat):Int),.vec c.insts.length (s6 S),.int .i64 ((i:Nat):Int)] h (bJ (exT u c mx S i)):=by
  refine .bz Tryz.f136 57 ?_;have w:=cB wc hi;have w1:=w.lo;have w2:=w.hi;have hsz:(c8 u (itI c i)).length≤1664:=n6 hu w;have hwl:=wc.len;have hk8:kM u mx≤8:=eP;have hk9:nS (u.c4.getD mx w3)≤8:=hk8;have hml:=hu.ml;have hT:=nC (u:=u) (c:=c) (m:=mx) S i;have hTl:(sB u c mx S i).length=s4 u c i:=hT.1;have hli:s4 u c i≤1664:=hsz;have hlc:s4 u c i=(c8 u (itI c i)).length:=rfl;refine .z ?_;refine c25z ?_;refine .ca rfl rfl ((qY hu wc hmx hS hi)) ?_;refine .n ?_;refine .c6 [2,4,5,6,11] ?_;refine c150z ?_;refine c32z ?_;refine .c6 [4,5,6,11,12] ?_;refine c9.UJ (t:=12) (γ:=(h.length+2)) (len:=(kM u mx+1)) t34 (by simp) (by omega) (kC (by decide) rfl) ?_;rw[bC];simp only[o4,List.set_cons_succ,List.set_cons_zero];generalize (⟨0,false,3,1,(List.replicate (kM u mx+1) 0).map j8,kM u mx+1⟩:Blk)=Vb;refine c14z ?_;refine .w7 (fun m st=>∃(j:Nat),(m=s4 u c i-j∧(j≤s4 u c i))∧st=⟨mkS 57 [(4,AV.int .i64 ((i:Nat):Int)),(5,AV.ptr h.length 0 0),(6,AV.ptr (h.length+1) 0 0),(11,AV.vec (s4 u c i) (s6 (sB u c mx S i))),(12,bJ (wQ u c mx i (sB u c mx S i) j)),(13,AV.int .i64 ((j:Nat):Int))],h++[⟨0,false,30,4,[.vec u.globals.length (g7 u.globals),.vec u.c4.length (g0 u.c4),.vec u.procs.length (j6 u.procs),.int .i64 u.main],0⟩,⟨0,false,34,3,[.vec c.insts.length (l3 c.insts),.vec c.calls.length (l5 c.calls),.vec c.roots.length (g7 c.roots)],0⟩,Vb]⟩) _ (.v ⟨0,⟨rfl,by omega⟩,rfl⟩ (hs:=t75)) ?_;rintro m sl h' ⟨j,⟨hm,hj⟩,hst⟩;obtain ⟨rfl,rfl⟩:=St.mk.inj hst;have hop:(eB u c i j).op=((c8 u (itI c i)).getD j g6).op:=rfl;refine c1z ?_;refine u2z ?_ ?_
  ·intro e1 qe1;refine c3z ?_;have hTj:=hT.get (i:=j) (by omega);have hEj:=lY (u:=u) (c:=c) (m:=mx) i (sB u c mx S i) j;refine c47z ?_;refine u2z ?_ ?_
   ·intro e2 qe2;refine .c6 [4,5,6,11,12,13] ?_;refine .r ?_;refine .e 5 ?_;refine c164z ?_;refine .rz ?_;exact ⟨_,by omega,.v ⟨(j+1),⟨rfl,by omega⟩,rfl⟩ (hs:=t75)⟩
   intro e2 qe2;refine c4z ?_;refine .c6 [4,5,6,11,12,13] ?_;refine .rz ?_;exact ⟨_,by omega,.v ⟨(j+1),⟨rfl,by omega⟩,rfl⟩ (hs:=t75)⟩
  intro e1 qe1;refine .exit ?_;obtain rfl:j=s4 u c i:=by omega
  change c9 ..;refine .c6 [12] ?_;refine .z ?_;exact .ret (.ex (hq:=by rfl))
end Go.Proofs.YtonbocmibeikmaaGreat
end
section
namespace Go.Proofs.YtonbocmibeikmaaGreat
open Go.Ab Go.Un
variable {h:c7}{T:List (List Nat)}{g n:Nat}
theorem iR {l:c7}{b0 b1:Blk}{r:List Nat}(hn:T.length=n)(hl:n<100000):j7 cfg 22 (h++(b0::b1::o8 22 1 g (s6 T)::⟨0,false,22,1,[.vec r.length (r.map j8)],0⟩::l)) (.own (h.length+2) g 0 n) (.own (h.length+3) 0 0 1)=some (.own (h.length+2) (g+1) 0 (n+1),h++(b0::b1::o8 22 1 (g+1) (s6 (T++[r]))::⟨0,false,22,1,[.vec r.length (r.map j8)],0⟩::l)):=by subst hn;rw[v7 (C:=cfg) (K:=1) (m:=1) (new:=[.vec r.length (r.map j8)]) (zs:=s6 T) t34 rfl (by omega) (by simp[s6]) rfl (by omega) t131 rfl (by decide) (by omega),o4,show s6 T++[AV.vec r.length (r.map j8)]=s6 (T++[r]) from by simp[s6,bJ]];rfl
theorem iS {l:c7}{b0 b1 b3:Blk}{k:Nat}(hn:T.length=n)(hl:n<100000):j7 cfg 22 (h++(b0::b1::o8 22 1 g (s6 T)::b3::⟨0,false,22,1,[.own (h.length+3) 0 0 k],0⟩::l)) (.own (h.length+2) g 0 n) (.own (h.length+4) 0 0 1)=some (.own (h.length+2) (g+1) 0 (n+1),h++(b0::b1::⟨g+1,false,22,1,s6 T++[.own (h.length+3) 0 0 k],0⟩::b3::⟨0,false,22,1,[.own (h.length+3) 0 0 k],0⟩::l)):=by subst hn;rw[v7 (C:=cfg) (K:=1) (m:=1) (new:=[.own (h.length+3) 0 0 k]) (zs:=s6 T) t34 rfl (by omega) (by simp[s6]) rfl (by omega) t131 rfl (by decide) (by omega),o4,dE (zs:=s6 T++[AV.own (h.length+3) 0 0 k]) (by simp)];rfl
theorem c9.seenG {c:Code}{sl:List AV}{H:c7}{Q:Exit→St→Prop}{β γ len e e' g:Nat}{A R:List AV}{zs:List Nat}(hβ:H[β]?=some ⟨g,false,e,1,A++.own γ 0 0 len::R,0⟩)(hγ:H[γ]?=some ⟨0,false,e',1,zs.map j8,0⟩)(hz:zs.length=len)(hne:β≠γ)
    (r:c9 Tryz.prog cfg c ⟨sl,(H.set γ ⟨0,false,e',1,zs.map j8,len⟩).set β ⟨g,false,e,1,A++.vec len (zs.map j8)::R,0⟩⟩ Q):c9 Tryz.prog cfg c ⟨sl,H⟩ Q:=by
  subst hz;refine c9.zS (γ:=γ) (β:=β) (k:=A.length) (off:=0) (len:=zs.length) (cs:=zs.map j8) hγ rfl (by simp) ?_ hβ hne (by simp) ?_
  · show n8 oR (List.take (zs.length*1) (List.drop 0 (zs.map j8)))=_
    rw[List.drop_zero,Nat.mul_one,List.take_of_length_le (by simp)];exact (N9 zs).PY
  · have e1:dD ⟨0,false,e',1,zs.map j8,0⟩ (0+zs.length*1)=⟨0,false,e',1,zs.map j8,zs.length⟩:=by simp only[dD,Nat.zero_add,Nat.mul_one,Nat.zero_max]
    have e2:(A++AV.own γ 0 0 zs.length::R).set A.length (.vec zs.length (zs.map j8))=A++.vec zs.length (zs.map j8)::R:=by simp
    show c9 Tryz.prog cfg c ⟨sl,(H.set γ (dD ⟨0,false,e',1,zs.map j8,0⟩ (0+zs.length*1))).set β ⟨g,false,e,1,(A++AV.own γ 0 0 zs.length::R).set A.length (.vec zs.length (zs.map j8)),0⟩⟩ Q;rw[e1,e2];exact r
theorem UL {k:Nat}:(⟨g,false,22,1,s6 T++[AV.vec (k+1) ((List.replicate (k+1) 0).map j8)],0⟩:Blk)=o8 22 1 g (s6 (T++[List.replicate (k+1) 0])):=by rw[dE (by simp[s6])];simp[s6,bJ]
theorem Fj {β len:Nat}{H:c7}{a:List (List Nat)}(hb:H[β]?=some (o8 22 1 g (s6 a)))(hn:n≤β)(hl:a.length=len)(hp:0<len):iV n H 6 (.own β g 0 len)=some (.vec len (s6 a)):=by rw[dE (by intro h0;have:=congrArg List.length h0;rw[p7]at this;replace this:=s7z this;omega)]at hb;exact frz_T hb hn hl
variable {u:Un}{c:Clo}{mx:Nat}
theorem UM {i:Nat}{S:List (List Nat)}(hi:i<c.insts.length):(yK u c mx S).take i++[exT u c mx S i]=(yK u c mx S).take (i+1):=by
  have hl:i<(yK u c mx S).length:=by rw[(kJ S).1];exact hi
  rw[List.take_add_one,List.getElem?_eq_getElem hl];simp[yK]
theorem UN (h:T.length=n):T.take n=T:=List.take_of_length_le (by omega)
attribute [local go_sem] rd bJ r9 u7 r6 n7 l7 aK p7 Int.natCast_nonneg Int.natCast_inj aL dN cW dO gS iD qW jV bP mF tC eM kY kZ iE List.length_set List.length_replicate Int.toNat_natCast_add_one fF wrap64 sC List.length_map dH dP iR iS bP
theorem UO (hu:WU u)(wc:WC u c)(hmx:mx<u.c4.length):CB 93 [.agg [.vec u.globals.length (g7 u.globals),.vec u.c4.length (g0 u.c4),.vec u.procs.length (j6 u.procs),.int .i64 u.main],.agg [.vec c.insts.length (l3 c.insts),.vec c.calls.length (l5 c.calls),.vec c.roots.length (g7 c.roots)],.int .i64 ((mx:Nat):Int)] h (.vec c.insts.length (s6 (D2 u c mx))):=by
  refine .bz Tryz.f93 28 ?_;have hwl:=wc.len;have hk8:kM u mx≤8:=eP;have hk9:nS (u.c4.getD mx w3)≤8:=hk8;have hml:=hu.ml;refine c55z ?_;refine c9.qC 7 rfl ?_;refine .aB (fun m st=>∃(i:Nat),(m=c.insts.length-i∧(i≤c.insts.length))∧st=⟨mkS 28 [(2,AV.int .i64 ((mx:Nat):Int)),(3,AV.ptr h.length 0 0),(4,AV.ptr (h.length+1) 0 0),(7,AV.own (h.length+2) i 0 i),(8,AV.int .i64 ((i:Nat):Int))],h++[⟨0,false,30,4,[.vec u.globals.length (g7 u.globals),.vec u.c4.length (g0 u.c4),.vec u.procs.length (j6 u.procs),.int .i64 u.main],0⟩,⟨0,false,34,3,[.vec c.insts.length (l3 c.insts),.vec c.calls.length (l5 c.calls),.vec c.roots.length (g7 c.roots)],0⟩,o8 22 1 i (s6 (List.replicate i (List.replicate (kM u mx+1) 0)))]⟩) (.v ⟨0,⟨rfl,by omega⟩,rfl⟩ (hs:=t14)) ?_;rintro m sl h' ⟨i,⟨hm,hi⟩,hst⟩;obtain ⟨rfl,rfl⟩:=St.mk.inj hst;clear hst;have hrl:(List.replicate i (List.replicate (kM u mx+1) 0)).length=i:=List.length_replicate;refine c1z ?_;refine u2z ?_ ?_
  ·intro e1 qe1;refine c3z ?_;refine c237z ?_;refine .ca rfl rfl (pB u mx) ?_;refine c28z ?_;refine .c6 [2,3,4,7,8] ?_;refine c9.seenG (β:=h.length+2) (γ:=h.length+3) (g:=i+1) (A:=s6 (List.replicate i (List.replicate (kM u mx+1) 0))) (R:=[]) (zs:=(List.replicate (kM u mx+1) 0)) (len:=kM u mx+1) t34 t34 (by simp) (by omega) ?_;simp only[List.append_assoc,List.cons_append,List.nil_append,r7,o4,List.set_cons_succ,List.set_cons_zero,List.length_append,List.length_cons,List.length_nil,Nat.reduceAdd,Nat.zero_add];refine .rz ?_;exact ⟨_,by omega,.v ⟨(i+1),⟨rfl,by omega⟩,rfl⟩ (he:=by (rw[UL,←List.replicate_succ'];simp only[List.append_assoc,List.cons_append,List.nil_append];rfl)) (hk:=t105) (hs:=t14)⟩
  intro e1 qe1;refine .exit ?_;obtain rfl:i=c.insts.length:=by omega
  change c9 ..;refine .c6 [7] ?_;refine c27z ?_;exact ⟨_,_,rfl,Fj t34 (by omega) hrl (by omega),by rfl⟩
theorem UP (hu:WU u)(wc:WC u c)(hmx:mx<u.c4.length){S:List (List Nat)}(hS:Tb (kM u mx) c.insts.length S):CB 94 [.agg [.vec u.globals.length (g7 u.globals),.vec u.c4.length (g0 u.c4),.vec u.procs.length (j6 u.procs),.int .i64 u.main],.agg [.vec c.insts.length (l3 c.insts),.vec c.calls.length (l5 c.calls),.vec c.roots.length (g7 c.roots)],.int .i64 ((mx:Nat):Int),.vec c.insts.length (s6 S)] h (.vec c.insts.length (s6 (yK u c mx S))):=by
  refine .bz Tryz.f94 27 ?_;have hwl:=wc.len;have hk8:kM u mx≤8:=eP;have hk9:nS (u.c4.getD mx w3)≤8:=hk8;have hml:=hu.ml;have hSl:=hS.1;refine c55z ?_;refine c9.qC 9 rfl ?_;refine .aB (fun m st=>∃(i:Nat),(m=c.insts.length-i∧(i≤c.insts.length))∧st=⟨mkS 27 [(2,AV.int .i64 ((mx:Nat):Int)),(3,AV.vec c.insts.length (s6 S)),(4,AV.ptr h.length 0 0),(5,AV.ptr (h.length+1) 0 0),(9,AV.own (h.length+2) i 0 i),(10,AV.int .i64 ((i:Nat):Int))],h++[⟨0,false,30,4,[.vec u.globals.length (g7 u.globals),.vec u.c4.length (g0 u.c4),.vec u.procs.length (j6 u.procs),.int .i64 u.main],0⟩,⟨0,false,34,3,[.vec c.insts.length (l3 c.insts),.vec c.calls.length (l5 c.calls),.vec c.roots.length (g7 c.roots)],0⟩,o8 22 1 i (s6 ((yK u c mx S).take i))]⟩) (.v ⟨0,⟨rfl,by omega⟩,rfl⟩ (hs:=t14)) ?_;rintro m sl h' ⟨i,⟨hm,hi⟩,hst⟩;obtain ⟨rfl,rfl⟩:=St.mk.inj hst;clear hst;have hrl:((yK u c mx S).take i).length=i:=by rw[List.length_take,(kJ S).1];omega
  refine c1z ?_;refine u2z ?_ ?_
  ·intro e1 qe1;refine c3z ?_;refine c237z ?_;refine .ca rfl rfl (UK hu wc hmx hS (show i<c.insts.length by omega)) ?_;refine c28z ?_;refine .c6 [2,3,4,5,9,10] ?_;refine .rz ?_;exact ⟨_,by omega,.v ⟨(i+1),⟨rfl,by omega⟩,rfl⟩ (he:=by (rw[UM (by omega)];simp only[List.append_assoc,List.cons_append,List.nil_append];rfl)) (hk:=t105) (hs:=t14)⟩
  intro e1 qe1;refine .exit ?_;obtain rfl:i=c.insts.length:=by omega
  rw[UN (kJ S).1];change c9 ..;refine .c6 [9] ?_;refine c27z ?_;exact ⟨_,_,rfl,Fj t34 (by omega) (kJ S).1 (by omega),by rfl⟩
theorem UQ {m:Nat}{a b:List (List Nat)}(ha:a.length=n)(hb:b.length=m)(hl:n<1000000)(hr:∀r∈a,r.length<100000):CB 33 [.vec n (s6 a),.vec m (s6 b)] h (.bool (decide (a=b))):=by subst ha hb;exact c_sameT (n:=0) a b hl hr
theorem Fk (hu:WU u)(wc:WC u c)(hmx:mx<u.c4.length):CB 56 [.agg [.vec u.globals.length (g7 u.globals),.vec u.c4.length (g0 u.c4),.vec u.procs.length (j6 u.procs),.int .i64 u.main],.agg [.vec c.insts.length (l3 c.insts),.vec c.calls.length (l5 c.calls),.vec c.roots.length (g7 c.roots)],.int .i64 ((mx:Nat):Int)] h (.vec c.insts.length (s6 (iH u c mx))):=by
  refine .bz Tryz.f56 23 ?_;have hwl:=wc.len;have hk8:kM u mx≤8:=eP;have hk9:nS (u.c4.getD mx w3)≤8:=hk8;have hml:=hu.ml;refine .z ?_;refine c15z ?_;refine .ca rfl rfl (UO hu wc hmx) ?_;refine c141z ?_;refine .w7 (fun m st=>∃(Sx:List (List Nat)),(m=4608*c.insts.length-tot Sx∧(Low u c mx Sx))∧st=⟨mkS 23 [(2,AV.int .i64 ((mx:Nat):Int)),(3,AV.ptr h.length 0 0),(4,AV.ptr (h.length+1) 0 0),(7,AV.vec c.insts.length (s6 Sx))],h++[⟨0,false,30,4,[.vec u.globals.length (g7 u.globals),.vec u.c4.length (g0 u.c4),.vec u.procs.length (j6 u.procs),.int .i64 u.main],0⟩,⟨0,false,34,3,[.vec c.insts.length (l3 c.insts),.vec c.calls.length (l5 c.calls),.vec c.roots.length (g7 c.roots)],0⟩]⟩) _ (.v ⟨(D2 u c mx),⟨rfl,Low.zero⟩,rfl⟩) ?_;rintro m sl h' ⟨Sx,⟨hm,hL⟩,hst⟩;obtain ⟨rfl,rfl⟩:=St.mk.inj hst;have hSl:=hL.tb.1;have hRl:=(kJ (u:=u) (c:=c) (m:=mx) Sx).1;refine .block ?_;refine c29z ?_;refine .ca rfl rfl (UP hu wc hmx hL.tb) ?_;refine c32z ?_;refine c16z ?_;refine .ca rfl rfl (UQ hSl hRl (by omega) (fun r hr=>by have:=(hL.tb.2 r hr).1;omega)) ?_;refine .nil ?_;refine u2z ?_ ?_
  ·intro e1 qe1;refine .c6 [7] ?_;refine .z ?_;exact .ret (.ex (hq:=by (rw[hL.done hu wc (Eq.symm (by assumption))])))
  intro e1 qe1;refine .sk ?_;refine .c6 [2,3,4,8] ?_;refine .rz ?_;have hgr:=hL.grow hu wc (by assumption);exact ⟨_,by omega,.v ⟨(yK u c mx Sx),⟨rfl,(hL.round hu wc).1⟩,rfl⟩⟩
end Go.Proofs.YtonbocmibeikmaaGreat
end
section
namespace Go.Un
open Go.Ab
section
variable (u:Un)(c:Clo)(m:Nat)
structure MH (E:List Nat):Prop where
 es:Es u c m E
 le:Sub E (qV u c m)
 rt:∀i:Nat,(i:Int)∈c.roots→bt E i 0=true
structure E5 (E:List Nat)(j:Nat):Prop where
 es:Es u c m E
 le:Sub E (qV u c m)
 rt:∀k,k<j→bt E (c.roots.getD k 0).toNat 0=true
 z:∀i:Nat,(i:Int)∉c.roots→E.getD i 0=0
noncomputable def O2 (E:List Nat)(i pc:Nat):Nat:=applyN ((inS u c m i).getD pc []) (E.getD i 0)
structure O3 (E0 E:List Nat)(again:Bool)(i j:Nat):Prop where
 g:MH u c m E
 mo:E0.sum≤E.sum
 up:again=true→E0.sum<E.sum
 no:again=false→E=E0∧(∀x,x<i→∀pc,pc<s4 u c x→ClE u c m E x pc)∧∀pc,pc<j→ClE u c m E i pc
def mEnt (E:List Nat)(again:Bool):Nat:=if again then 512*c.insts.length-E.sum+1 else 0
end
section
variable {u:Un}{c:Clo}{m:Nat}
variable {j:Nat}
theorem MI:(1:Nat).testBit j=true↔j=0:=by
 cases j with
 | zero=>simp
 | succ j=>simp[Nat.testBit_succ]
theorem XZ:1<2^(kM u m+1):=by have:=Nat.one_lt_two_pow (n:=kM u m+1) (by omega);exact this
theorem MJ (wc:WC u c)(hj:j<c.roots.length):((c.roots.getD j 0).toNat:Int)=c.roots.getD j 0∧(c.roots.getD j 0).toNat<c.insts.length∧(((c.roots.getD j 0).toNat:Nat):Int)∈c.roots:=by
 have h1:c.roots.getD j 0∈c.roots:=g8 hj;have h2:=wc.rr _ h1;have h3:((c.roots.getD j 0).toNat:Int)=c.roots.getD j 0:=by omega
 exact ⟨h3,by omega,by rw[h3];exact h1⟩
theorem E5.start:E5 u c m (List.replicate c.insts.length 0) 0:=
 ⟨Es.zero,fun i d h=>(by rw[D0]at h;cases h),fun k hk=>by omega,fun i _=>(by simp only[List.getD,List.getElem?_replicate];split<;>rfl)⟩
variable {E:List Nat}
theorem E5.next (hu:WU u)(wc:WC u c)(h:E5 u c m E j)(hj:j<c.roots.length):E5 u c m (E.set (c.roots.getD j 0).toNat 1) (j+1):=by
 obtain ⟨h1,h2,h3⟩:=MJ wc hj;have hl:(c.roots.getD j 0).toNat<E.length:=by rw[h.es.1];exact h2
 refine ⟨h.es.set XZ,fun i d hb=>?_,fun k hk=>?_,fun i hi=>?_⟩
 ·rw[BY hl]at hb;split at hb
  ·rename_i e;subst e;rw[MI]at hb;subst hb;exact (D6 hu wc).2 (.root h3)
  ·exact h.le i d hb
 ·rw[BY hl];split
  ·exact MI.2 rfl
  ·rename_i hne;rcases Nat.lt_succ_iff_lt_or_eq.1 hk with hk | rfl
   ·exact h.rt k hk
   ·exact absurd rfl hne
 ·have hne:(c.roots.getD j 0).toNat≠i:=fun e=>by subst e;exact hi h3
  rw[List.getD_eq_getElem?_getD,List.getElem?_set_ne hne,←List.getD_eq_getElem?_getD];exact h.z i hi
theorem E5.all (wc:WC u c)(h:E5 u c m E c.roots.length):MH u c m E:=by refine ⟨h.es,h.le,fun i hi=>?_⟩;obtain ⟨k,hk,he⟩:=List.getElem_of_mem hi;have:=h.rt k hk;rw[show c.roots.getD k 0=c.roots[k] from by simp[List.getD,hk],he]at this;simpa using this
variable {i:Nat}
theorem MH.set (hu:WU u)(wc:WC u c)(h:MH u c m E){pc:Nat}(hi:i<c.insts.length)(hp:pc<s4 u c i)(ho:(eB u c i pc).op=2) :
  MH u c m (E.set (iC c i pc) (E.getD (iC c i pc) 0|||O2 u c m E i pc)):=by
 have hk:=lX hu wc hi hp ho;have hl:iC c i pc<E.length:=by rw[h.es.1];exact hk
 refine ⟨h.es.set (Nat.or_lt_two_pow (h.es.get _) (iQ ((sS i).get hp) _)),fun x d hb=>?_,fun x hx=>?_⟩
 ·rw[BY hl]at hb;split at hb
  ·rename_i e;subst e;rw[Nat.testBit_or,Bool.or_eq_true]at hb;rcases hb with hb | hb
   ·exact h.le _ d hb
   ·obtain ⟨d0,k1,k2⟩:=(LU hu wc hi hp).1 hb;exact (D6 hu wc).2 (.call ((D6 hu wc).1 (h.le _ _ k1)) k2 ho)
  ·exact h.le x d hb
 ·rw[BY hl];split
  ·rename_i e;subst e;rw[Nat.testBit_or,Bool.or_eq_true];exact .inl (h.rt _ hx)
  ·exact h.rt x hx
theorem MH.up (h:MH u c m E){k x:Nat}(hk:k<c.insts.length)(hx:x<2^(kM u m+1))(hne:¬∀j,x.testBit j=true→bt E k j=true):E.sum<(E.set k (E.getD k 0|||x)).sum∧(E.set k (E.getD k 0|||x)).sum≤512*c.insts.length:=by
 refine ⟨UG (by rw[h.es.1];exact hk) (fun j hj=>?_) (fun he=>hne fun j hj=>?_),XW (h.es.set (Nat.or_lt_two_pow (h.es.get _) hx))⟩
 ·rw[Nat.testBit_or,Bool.or_eq_true];exact .inl hj
 ·have:=congrArg (fun n=>n.testBit j) he;simp only[Nat.testBit_or]at this;unfold bt;rw[this,hj,Bool.or_true]
theorem or_same {k x:Nat}:(E.getD k 0|||x)=E.getD k 0↔∀j,x.testBit j=true→bt E k j=true:=by
 constructor
 ·intro h j hj;have:=congrArg (fun n=>n.testBit j) h;simp only[Nat.testBit_or]at this;unfold bt;rw[←this,hj,Bool.or_true]
 ·intro h;refine C9 fun j=>?_;rw[Nat.testBit_or,Bool.or_eq_true];exact ⟨fun hj=>hj.elim id (h j),.inl⟩
theorem MH.done (hu:WU u)(wc:WC u c)(h:MH u c m E)(hc:∀i pc,i<c.insts.length→pc<s4 u c i→ClE u c m E i pc):E=qV u c m:=ent_eq hu wc h.es h.le h.rt hc
theorem O3.start (h:MH u c m E):O3 u c m E E false 0 0:=⟨h,Nat.le_refl _,fun e=>(by cases e),fun _=>⟨rfl,fun x hx=>by omega,fun pc hp=>by omega⟩⟩
variable {E0:List Nat}{again:Bool}
theorem O3.skip (h:O3 u c m E0 E again i j)(hs:(eB u c i j).op=2→∀q,(O2 u c m E i j).testBit q=true→bt E (iC c i j) q=true):O3 u c m E0 E again i (j+1):=
 ⟨h.g,h.mo,h.up,fun e=>⟨(h.no e).1,(h.no e).2.1,fun pc hp=>by
  rcases Nat.lt_succ_iff_lt_or_eq.1 hp with hp | rfl
  ·exact (h.no e).2.2 pc hp
  ·exact hs⟩⟩
theorem O3.grow (hu:WU u)(wc:WC u c)(h:O3 u c m E0 E again i j)(hi:i<c.insts.length)(hj:j<s4 u c i)(ho:(eB u c i j).op=2)(hne:¬∀q,(O2 u c m E i j).testBit q=true→bt E (iC c i j) q=true) :
  O3 u c m E0 (E.set (iC c i j) (E.getD (iC c i j) 0|||O2 u c m E i j)) true i (j+1):=by
 have hx:=iQ (s:=E.getD i 0) ((sS (u:=u) (c:=c) (m:=m) i).get hj);obtain ⟨s1,s2⟩:=h.g.up (lX hu wc hi hj ho) hx hne;have:=h.mo;exact ⟨h.g.set hu wc hi hj ho,by unfold O2;omega,fun _=>by unfold O2;omega,fun e=>(by cases e)⟩
theorem O3.fin (h:O3 u c m E0 E again i (s4 u c i)):O3 u c m E0 E again (i+1) 0:=
 ⟨h.g,h.mo,h.up,fun e=>⟨(h.no e).1,fun x hx pc hp=>by
  rcases Nat.lt_succ_iff_lt_or_eq.1 hx with hx | rfl
  ·exact (h.no e).2.1 x hx pc hp
  ·exact (h.no e).2.2 pc hp,fun pc hp=>by omega⟩⟩
theorem O3.done (hu:WU u)(wc:WC u c)(h:O3 u c m E0 E false c.insts.length 0):E=qV u c m:=h.g.done hu wc fun i pc hi hp=>(h.no rfl).2.1 i hi pc hp
theorem mEnt_lt (h:O3 u c m E0 E again i j):mEnt c E again<mEnt c E0 true:=by
 have h1:=XW h.g.es;have h2:=h.mo;unfold mEnt;cases again with
 | false=>simp
 | true=>have:=h.up rfl;simp;omega
end
section
variable {u:Un}{c:Clo}{m:Nat}
theorem mayAll:((List.range 512).all fun s=>(bits .andNot .i64 (s:Int) 1 != 0)==decide (1<(s:Int))&&(bits .and .i64 (s:Int) 1==0)==decide (s%2=0))=true:=by kernel_rfl
theorem CD {s:Nat}(hs:s<512):bits .and .i64 (s:Int) 1=0↔s%2=0:=by
 have:=List.all_eq_true.1 mayAll s (List.mem_range.2 hs);simp only[Bool.and_eq_true,beq_iff_eq]at this;have h1:=this.2;by_cases e:bits .and .i64 (s:Int) 1=0
 ·simp only[e,beq_self_eq_true]at h1;exact ⟨fun _=>of_decide_eq_true h1.symm,fun _=>e⟩
 ·have e2:(bits .and .i64 (s:Int) 1==0)=false:=by simpa using e
  rw[e2]at h1;exact ⟨fun h=>absurd h e,fun h=>absurd h (of_decide_eq_false h1.symm)⟩
end
end Go.Un
end
section
namespace Go.Proofs.YtonbocmibeikmaaGreat
open Go.Ab Go.Un
noncomputable def F8 (u:Un)(c:Clo)(mx j:Nat):List (List (List Nat)):=(List.range j).map (sB u c mx (iH u c mx))
def u9 (L:List (List (List Nat))):List AV:=L.map fun T=>.vec T.length (s6 T)
variable {L:List (List (List Nat))}
theorem eH:(u9 L).length=L.length:=by simp[u9]
variable {u:Un}{c:Clo}{mx j:Nat}
theorem dQ:(F8 u c mx j).length=j:=by simp[F8]
theorem MK:F8 u c mx 0=[]:=rfl
theorem ML:F8 u c mx (j+1)=F8 u c mx j++[sB u c mx (iH u c mx) j]:=by simp[F8,List.range_succ]
theorem yL {T:List (List Nat)}:u9 (L++[T])=u9 L++[.vec T.length (s6 T)]:=by simp[u9]
theorem UR (L:List (List (List Nat))):aO (u9 L):=aO.map fun _=>.vec
variable {i:Nat}
theorem MM (h:i<L.length):List.take 1 (List.drop i (u9 L))=[.vec (L.getD i []).length (s6 (L.getD i []))]:=by unfold u9;rw[←List.map_drop,←List.map_take,List.drop_eq_getElem_cons h,List.take_succ_cons,List.take_zero];simp[List.getD,h]
theorem US (h:i<j):(F8 u c mx j).getD i []=sB u c mx (iH u c mx) i:=by simp[F8,List.getD,h]
theorem wU:(sB u c mx (iH u c mx) i).length=s4 u c i:=(nC _ _).1
theorem jW (h:i<j):List.take 1 (List.drop i (u9 (F8 u c mx j)))=[.vec (s4 u c i) (s6 (sB u c mx (iH u c mx) i))]:=by rw[MM (by rw[dQ];exact h),US h,wU]
theorem jX {l:List Nat}(h:i<l.length):List.take i (l.map j8)++AV.int .i64 1::List.drop (i+1) (l.map j8)=(l.set i 1).map j8:=oI h
theorem dR:(qV u c mx).length=c.insts.length:=D5.1
theorem dI:(oZ u c mx).length=c.insts.length:=by simp[oZ]
theorem qZ (h:i<c.insts.length):(oZ u c mx).getD i []=BX u c mx i:=by simp[oZ,List.getD,h]
theorem app_tt3 {h:c7}{b0 b1 b2:Blk}{l:c7}{T:List (List Nat)}{m g n:Nat}(hn:L.length=n)(hx:T.length=m)(hl:n<100000):j7 cfg 32 (h++(b0::b1::b2::o8 32 1 g (u9 L)::⟨0,false,32,1,[.vec m (s6 T)],0⟩::l)) (.own (h.length+3) g 0 n) (.own (h.length+4) 0 0 1)=some (.own (h.length+3) (g+1) 0 (n+1),h++(b0::b1::b2::o8 32 1 (g+1) (u9 (L++[T]))::⟨0,false,32,1,[.vec m (s6 T)],0⟩::l)):=by subst hn hx;rw[v7 (C:=cfg) (K:=1) (m:=1) (new:=[.vec T.length (s6 T)]) (zs:=u9 L) t34 rfl (by omega) (by simp[u9]) rfl (by omega) t131 rfl (by decide) (by omega),←yL,o4];rfl
theorem frz_N {n β g len:Nat}{H:c7}{a:List Nat}(hb:H[β]?=some ⟨g,false,3,1,a.map j8,0⟩)(hn:n≤β)(hl:a.length=len):iV n H 6 (.own β g 0 len)=some (.vec len (a.map j8)):=by subst hl;rw[bT,if_neg (by omega),fC,hb];simp only[hn,and_self,if_true,Bool.false_eq_true,if_false,Nat.zero_add,Nat.mul_one,List.length_map,Nat.le_refl,List.drop_zero];rw[List.take_of_length_le (by rw[List.length_map];exact Nat.le_refl _),(N9 a).frz]
attribute [local go_sem] rd bJ r9 u7 r6 n7 l7 aK p7 Int.natCast_nonneg Int.natCast_inj aL dN cW dO gS iD qW jV bP mF tC eM kY kZ iE List.length_set List.length_replicate Int.toNat_natCast_add_one fF wrap64 sC List.length_map dH dP iR iS bP eH dQ jW jX dR dI p7 orN oI
section
end
section
attribute [local go_sem] qZ jU
end
section
attribute [local go_sem] qZ jU
end
end Go.Proofs.YtonbocmibeikmaaGreat
end
section
namespace Go.Proofs.YtonbocmibeikmaaGreat
open Go.Ab Go.Un
variable {h:c7}
theorem UT {l:c7}{b0 b1 b3:Blk}{T:List (List Nat)}{r:List Nat}{k g n:Nat}(hn:T.length=n)(hk:r.length=k)(hl:n<100000):j7 cfg 22 (h++(b0::b1::o8 22 1 g (s6 T)::b3::⟨0,false,22,1,[.vec k (r.map j8)],0⟩::l)) (.own (h.length+2) g 0 n) (.own (h.length+4) 0 0 1)=some (.own (h.length+2) (g+1) 0 (n+1),h++(b0::b1::o8 22 1 (g+1) (s6 (T++[r]))::b3::⟨0,false,22,1,[.vec k (r.map j8)],0⟩::l)):=by subst hn hk;rw[v7 (C:=cfg) (K:=1) (m:=1) (new:=[.vec r.length (r.map j8)]) (zs:=s6 T) t34 rfl (by omega) (by simp[s6]) rfl (by omega) t131 rfl (by decide) (by omega),o4,show s6 T++[AV.vec r.length (r.map j8)]=s6 (T++[r]) from by simp[s6,bJ]];rfl
theorem UU {l:c7}{b0 b1 b2:Blk}{T:List Nat}{g n v:Nat}(hn:T.length=n)(hl:n<100000):j7 cfg 3 (h++(b0::b1::b2::o8 3 1 g (T.map j8)::⟨0,false,3,1,[.int .i64 ((v:Nat):Int)],0⟩::l)) (.own (h.length+3) g 0 n) (.own (h.length+4) 0 0 1)=some (.own (h.length+3) (g+1) 0 (n+1),h++(b0::b1::b2::o8 3 1 (g+1) ((T++[v]).map j8)::⟨0,false,3,1,[.int .i64 ((v:Nat):Int)],0⟩::l)):=by subst hn;rw[v7 (C:=cfg) (K:=1) (m:=1) (new:=[.int .i64 ((v:Nat):Int)]) (zs:=T.map j8) t34 rfl (by omega) (by simp) rfl (by omega) t131 rfl (by decide) (by omega),o4,show T.map j8++[AV.int .i64 ((v:Nat):Int)]=(T++[v]).map j8 from by simp[j8]];rfl
theorem yM {T:List (List Nat)}{k:Nat}(h:k<T.length):T.take (k+1)=T.take k++[T.getD k []]:=by rw[List.take_add_one,List.getElem?_eq_getElem h];simp[List.getD,h]
attribute [local go_sem] rd bJ r9 u7 r6 n7 l7 aK p7 Int.natCast_nonneg Int.natCast_inj aL dN cW dO gS iD qW jV bP mF tC eM kY kZ iE List.length_set List.length_replicate Int.toNat_natCast_add_one fF wrap64 sC List.length_map dH dP iR iS bP eH dQ jW jX dR dI p7 orN oI
section
attribute [local go_sem] app_tt3
theorem YA {u:Un}{c:Clo}(hu:WU u)(wc:WC u c){mx:Nat}(hmx:mx<u.c4.length):CB 32 [.agg [.vec u.globals.length (g7 u.globals),.vec u.c4.length (g0 u.c4),.vec u.procs.length (j6 u.procs),.int .i64 u.main],.agg [.vec c.insts.length (l3 c.insts),.vec c.calls.length (l5 c.calls),.vec c.roots.length (g7 c.roots)],.int .i64 ((mx:Nat):Int)] h (.vec c.insts.length ((qV u c mx).map j8)):=by
  refine .bz Tryz.f32 123 ?_;have hwl:=wc.len;have hk8:kM u mx≤8:=eP;have hk9:nS (u.c4.getD mx w3)≤8:=hk8;have hml:=hu.ml;have hrl:=wc.rl;have hrc:c.roots.length≤c.insts.length:=by have:=u4 wc.rs wc.rr;omega
  have hel:(qV u c mx).length=c.insts.length:=dR;have hsl:(iH u c mx).length=c.insts.length:=cK.1;have hcl:=wc.cl;refine .z ?_;refine c15z ?_;refine .ca rfl rfl (Fk hu wc hmx) ?_;refine .n ?_;refine c22z ?_;refine .c6 [2,3,4,7,8] ?_;refine c14z ?_;refine .aB (fun m st=>∃(j:Nat) (E:List Nat),(m=c.roots.length-j∧(E5 u c mx E j∧j≤c.roots.length))∧st=⟨mkS 123 [(2,AV.int .i64 ((mx:Nat):Int)),(3,AV.ptr h.length 0 0),(4,AV.ptr (h.length+1) 0 0),(7,AV.vec c.insts.length (s6 (iH u c mx))),(8,AV.own (h.length+2) 0 0 c.insts.length),(9,AV.int .i64 ((j:Nat):Int))],h++[⟨0,false,30,4,[.vec u.globals.length (g7 u.globals),.vec u.c4.length (g0 u.c4),.vec u.procs.length (j6 u.procs),.int .i64 u.main],0⟩,⟨0,false,34,3,[.vec c.insts.length (l3 c.insts),.vec c.calls.length (l5 c.calls),.vec c.roots.length (g7 c.roots)],0⟩,⟨0,false,3,1,E.map j8,0⟩]⟩) (.v ⟨0,(List.replicate c.insts.length 0),⟨rfl,⟨E5.start,by omega⟩⟩,rfl⟩) ?_;rintro m sl h' ⟨j,E,⟨hm,⟨hR,hj⟩⟩,hst⟩;obtain ⟨rfl,rfl⟩:=St.mk.inj hst;clear hst;have hEl:=hR.es.1;refine c1z ?_;refine u2z ?_ ?_
  ·intro e1 qe1;refine c3z ?_;have hr:=wc.rr _ (g8 (d:=0) (show j<c.roots.length by omega));refine c2z ?_;refine .c6 [2,3,4,7,8,9] ?_;refine .rz ?_;exact ⟨_,by omega,.v ⟨(j+1),(E.set (c.roots.getD j 0).toNat 1),⟨rfl,⟨hR.next hu wc (by omega),by omega⟩⟩,rfl⟩ (he:=t23) (hk:=by exact (aE.refl _).app rfl ⟨.inl rfl,.inl rfl,.inr ((N9 _).refs _),trivial⟩)⟩
  intro e1 qe1;refine .exit ?_;obtain rfl:j=c.roots.length:=by omega
  have hG:=hR.all wc;change c9 ..;refine c18z ?_;refine c9.qC 10 rfl ?_;refine .aB (fun m st=>∃(i:Nat),(m=c.insts.length-i∧(i≤c.insts.length))∧st=⟨mkS 123 [(2,AV.int .i64 ((mx:Nat):Int)),(3,AV.ptr h.length 0 0),(4,AV.ptr (h.length+1) 0 0),(7,AV.vec c.insts.length (s6 (iH u c mx))),(8,AV.own (h.length+2) 0 0 c.insts.length),(10,AV.own (h.length+3) i 0 i),(11,AV.int .i64 ((i:Nat):Int))],h++[⟨0,false,30,4,[.vec u.globals.length (g7 u.globals),.vec u.c4.length (g0 u.c4),.vec u.procs.length (j6 u.procs),.int .i64 u.main],0⟩,⟨0,false,34,3,[.vec c.insts.length (l3 c.insts),.vec c.calls.length (l5 c.calls),.vec c.roots.length (g7 c.roots)],0⟩,⟨0,false,3,1,E.map j8,0⟩,o8 32 1 i (u9 (F8 u c mx i))]⟩) (.v ⟨0,⟨rfl,by omega⟩,rfl⟩ (hs:=t14)) ?_ (he:=t167);rintro m sl h' ⟨i,⟨hm,hi0⟩,hst⟩;obtain ⟨rfl,rfl⟩:=St.mk.inj hst;clear hst;have hinl:(F8 u c mx i).length=i:=dQ;refine c1z ?_;refine u2z ?_ ?_
  ·intro e2 qe2;refine c3z ?_;have hi:i<c.insts.length:=by omega
   have hTi0:(sB u c mx (iH u c mx) i).length=s4 u c i:=wU;refine c237z ?_;refine .ca rfl rfl (qY hu wc hmx cK hi) ?_;refine c28z ?_;refine .c6 [2,3,4,7,8,10,11] ?_;refine .rz ?_;exact ⟨_,by omega,.v ⟨(i+1),⟨rfl,by omega⟩,rfl⟩ (he:=t183) (hk:=by exact (aE.refl _).app rfl ⟨.inl rfl,.inl rfl,.inl rfl,.inr (by rw[o2];exact (UR _).refs _),trivial⟩) (hs:=t14)⟩
  intro e2 qe2;refine .exit ?_;obtain rfl:i=c.insts.length:=by omega
  refine c9.vH (t:=10) (γ:=h.length+3) (len:=c.insts.length) t34 (by rw[eH,dQ,Nat.mul_one]) (by omega) (UR _) (kC (by decide) rfl) ?_;rw[bC];simp only[o4,List.set_cons_succ,List.set_cons_zero];generalize gN _ _ _ _ _=Ib;change c9 ..;refine .seq ?_;refine .c6 [3,4,8,10] ?_;refine c14z ?_;refine .aB (fun m st=>∃(E1:List Nat) (ag:Bool),(m=mEnt c E1 ag∧(MH u c mx E1∧(ag=false→E1=(qV u c mx))))∧st=⟨mkS 123 [(3,AV.ptr h.length 0 0),(4,AV.ptr (h.length+1) 0 0),(8,AV.own (h.length+2) 0 0 c.insts.length),(10,AV.vec c.insts.length (u9 (F8 u c mx c.insts.length))),(12,AV.bool ag)],h++[⟨0,false,30,4,[.vec u.globals.length (g7 u.globals),.vec u.c4.length (g0 u.c4),.vec u.procs.length (j6 u.procs),.int .i64 u.main],0⟩,⟨0,false,34,3,[.vec c.insts.length (l3 c.insts),.vec c.calls.length (l5 c.calls),.vec c.roots.length (g7 c.roots)],0⟩,⟨0,false,3,1,E1.map j8,0⟩,Ib]⟩) (.v ⟨E,true,⟨rfl,⟨hG,fun hf=>by cases hf⟩⟩,rfl⟩) ?_;rintro m sl h' ⟨E1,ag,⟨hm,⟨hG1,hdone⟩⟩,hst⟩;obtain ⟨rfl,rfl⟩:=St.mk.inj hst;clear hst;refine c1z ?_;refine u2z ?_ ?_
  ·intro e3 qe3;refine c184z ?_;have hag:ag=true:=by assumption
   subst hag;refine .z ?_;refine c14z ?_;refine .aB (fun m st=>∃(E2:List Nat) (a2:Bool) (i:Nat),(m=c.insts.length-i∧(O3 u c mx E1 E2 a2 i 0∧i≤c.insts.length))∧st=⟨mkS 123 [(3,AV.ptr h.length 0 0),(4,AV.ptr (h.length+1) 0 0),(8,AV.own (h.length+2) 0 0 c.insts.length),(10,AV.vec c.insts.length (u9 (F8 u c mx c.insts.length))),(12,AV.bool a2),(13,AV.int .i64 ((i:Nat):Int))],h++[⟨0,false,30,4,[.vec u.globals.length (g7 u.globals),.vec u.c4.length (g0 u.c4),.vec u.procs.length (j6 u.procs),.int .i64 u.main],0⟩,⟨0,false,34,3,[.vec c.insts.length (l3 c.insts),.vec c.calls.length (l5 c.calls),.vec c.roots.length (g7 c.roots)],0⟩,⟨0,false,3,1,E2.map j8,0⟩,Ib]⟩) (.v ⟨E1,false,0,⟨rfl,⟨O3.start hG1,by omega⟩⟩,rfl⟩) ?_;rintro m sl h' ⟨E2,a2,i,⟨hm,⟨hJ,hi0⟩⟩,hst⟩;obtain ⟨rfl,rfl⟩:=St.mk.inj hst;clear hst;refine c1z ?_;refine u2z ?_ ?_
   ·intro e4 qe4;refine c3z ?_;have hi:i<c.insts.length:=by omega
    have w:=cB wc hi;have w1:=w.lo;have w2:=w.hi;have hsz:(c8 u (itI c i)).length≤1664:=n6 hu w;have hcll:(c.calls.getD i []).length=(c8 u (itI c i)).length:=wc.cll i hi;have hlI:s4 u c i=(c8 u (itI c i)).length:=rfl;have hTl:(sB u c mx (iH u c mx) i).length=s4 u c i:=wU;have hcall:∀j,j<s4 u c i→(eB u c i j).op=2→0≤(c.calls.getD i []).getD j 0∧(c.calls.getD i []).getD j 0<c.insts.length:=fun j hp ho=>by have:=(wc.call i hi j hp).1 (.inl ho);exact ⟨this.1,this.2.1⟩
    refine c14z ?_;refine .aB (fun m st=>∃(E3:List Nat) (a3:Bool) (j:Nat),(m=s4 u c i-j∧(O3 u c mx E1 E3 a3 i j∧j≤s4 u c i))∧st=⟨mkS 123 [(3,AV.ptr h.length 0 0),(4,AV.ptr (h.length+1) 0 0),(8,AV.own (h.length+2) 0 0 c.insts.length),(10,AV.vec c.insts.length (u9 (F8 u c mx c.insts.length))),(12,AV.bool a3),(13,AV.int .i64 ((i:Nat):Int)),(14,AV.int .i64 ((j:Nat):Int))],h++[⟨0,false,30,4,[.vec u.globals.length (g7 u.globals),.vec u.c4.length (g0 u.c4),.vec u.procs.length (j6 u.procs),.int .i64 u.main],0⟩,⟨0,false,34,3,[.vec c.insts.length (l3 c.insts),.vec c.calls.length (l5 c.calls),.vec c.roots.length (g7 c.roots)],0⟩,⟨0,false,3,1,E3.map j8,0⟩,Ib]⟩) (.v ⟨E2,a2,0,⟨rfl,⟨hJ,by omega⟩⟩,rfl⟩) ?_;rintro m sl h' ⟨E3,a3,j,⟨hm,⟨hJ1,hj0⟩⟩,hst⟩;obtain ⟨rfl,rfl⟩:=St.mk.inj hst;clear hst;have hE3:E3.length=c.insts.length:=hJ1.g.es.1;refine c1z ?_;refine u2z ?_ ?_
    ·intro e5 qe5;refine c3z ?_;refine .seq ?_;have hjp:j<s4 u c i:=by omega
     have hop0:(eB u c i j).op=((c8 u (itI c i)).getD j g6).op:=rfl;refine c47z ?_;refine u2z ?_ ?_
     ·intro e6 qe6;refine c6z ?_;refine c253z ?_;exact ⟨_,by omega,.v ⟨E3,a3,(j+1),⟨rfl,⟨hJ1.skip (fun ho=>absurd ho (by rw[hop0];omega)),by omega⟩⟩,rfl⟩ (he:=t23) (hk:=t79)⟩
     intro e6 qe6;refine .sk ?_;refine .c6 [3,4,8,10,12,13,14] ?_;have hop:(eB u c i j).op=2:=by rw[hop0];omega
     obtain ⟨hc1,hc2⟩:=hcall j hjp hop;obtain ⟨q,hqe⟩:∃q:Nat,(c.calls.getD i []).getD j 0=(q:Int):=⟨_,(Int.toNat_of_nonneg hc1).symm⟩;have hqc:iC c i j=q:=by unfold iC;rw[hqe];rfl
     have hTi:=(nC (u:=u) (c:=c) (m:=mx) (iH u c mx) i).get hjp;have hc3:=hc1;have hc4:=hc2;rw[hqe]at hc3 hc4;have hq3:q<c.insts.length:=by omega
     refine c123z ?_;refine .c6 [3,4,8,10,12,13,14,15] ?_;rw[hqe];have hfl:applyN ((sB u c mx (iH u c mx) i).getD j []) (E3.getD i 0)<512:=Nat.lt_of_lt_of_le (iQ hTi _) (jE hk8).2;have hEq:E3.getD q 0<512:=hJ1.g.es.lt _ (g8 (by omega));have hne:(E3.getD q 0|||applyN ((sB u c mx (iH u c mx) i).getD j []) (E3.getD i 0))=E3.getD q 0↔∀b,(O2 u c mx E3 i j).testBit b=true→bt E3 (iC c i j) b=true:=by rw[hqc];exact or_same
     refine .ss u6 (mkP 18 [0,0,3,7,0,0,48,112,0,496,1008,0,0,6144,14336,32752,65535,131071] []) ?_;refine .k 8 [] ?_;refine .k 7 [] ?_;refine .ca rfl rfl (CC _ _ (hTi.lt hk8) (hJ1.g.es.lt _ (g8 (by omega))) (by have:=hTi.1;omega)) ?_;refine .n [] ?_;refine .c6 [3,4,8,10,12,13,14,15,16] ?_;refine .z ?_;refine u2z ?_ ?_
     ·intro e7 qe7;refine c2z ?_;refine c253z ?_;exact ⟨_,by omega,.v ⟨(E3.set q (E3.getD q 0|||O2 u c mx E3 i j)),true,(j+1),⟨rfl,⟨by rw[←hqc];exact hJ1.grow hu wc hi hjp hop (fun hs=>absurd (hne.2 hs) (by omega)),by omega⟩⟩,rfl⟩ (he:=t23) (hk:=t79)⟩
     intro e7 qe7;refine c4z ?_;refine c253z ?_;exact ⟨_,by omega,.v ⟨E3,a3,(j+1),⟨rfl,⟨hJ1.skip (fun _=>hne.1 (by omega)),by omega⟩⟩,rfl⟩ (he:=t23) (hk:=t79)⟩
    intro e5 qe5;refine .exit ?_;obtain rfl:j=s4 u c i:=by omega
    change c9 ..;refine .c6 [3,4,8,10,12,13] ?_;refine .rz ?_;exact ⟨_,by omega,.v ⟨E3,a3,(i+1),⟨rfl,⟨hJ1.fin,by omega⟩⟩,rfl⟩ (he:=t23) (hk:=t79)⟩
   intro e4 qe4;refine .exit ?_;obtain rfl:i=c.insts.length:=by omega
   have hlt:=mEnt_lt hJ;exact ⟨_,by omega,.v ⟨E2,a2,⟨rfl,⟨hJ.g,fun hf=>by subst hf;exact hJ.done hu wc⟩⟩,rfl⟩ (he:=t23) (hk:=t79)⟩
  intro e3 qe3;refine c65z ?_;exact ⟨_,_,rfl,frz_N t34 (by omega) hG1.es.1,by (rw[hdone (by assumption)])⟩
end
section
end
section
attribute [local go_sem] UT UU
theorem YB {u:Un}{c:Clo}(hu:WU u)(wc:WC u c){mx:Nat}(hmx:mx<u.c4.length):CB 18 [.agg [.vec u.globals.length (g7 u.globals),.vec u.c4.length (g0 u.c4),.vec u.procs.length (j6 u.procs),.int .i64 u.main],.agg [.vec c.insts.length (l3 c.insts),.vec c.calls.length (l5 c.calls),.vec c.roots.length (g7 c.roots)],.int .i64 ((mx:Nat):Int)] h (.vec c.insts.length (s6 (oZ u c mx))):=by
  refine .bz Tryz.f18 58 ?_;have hwl:=wc.len;have hk8:kM u mx≤8:=eP;have hk9:nS (u.c4.getD mx w3)≤8:=hk8;have hml:=hu.ml;have hrl:=wc.rl;have hrc:c.roots.length≤c.insts.length:=by have:=u4 wc.rs wc.rr;omega
  have hel:(qV u c mx).length=c.insts.length:=dR;have hsl:(iH u c mx).length=c.insts.length:=cK.1;have hcl:=wc.cl;have hbl:(oZ u c mx).length=c.insts.length:=dI;refine .z ?_;refine .ss u6 (mkP 10 [0,0,0,7,0,0,0,127,255,511] []) ?_;refine .k 3 [] ?_;refine .ca rfl rfl (Fk hu wc hmx) ?_;refine .k 3 [] ?_;refine .ca rfl rfl (YA hu wc hmx) ?_;refine .n [] ?_;refine .c6 [2,3,4,7,8] ?_;refine c18z ?_;refine c9.qC 9 rfl ?_;refine .aB (fun m st=>∃(i:Nat),(m=c.insts.length-i∧(i≤c.insts.length))∧st=⟨mkS 58 [(2,AV.int .i64 ((mx:Nat):Int)),(3,AV.ptr h.length 0 0),(4,AV.ptr (h.length+1) 0 0),(7,AV.vec c.insts.length (s6 (iH u c mx))),(8,AV.vec c.insts.length ((qV u c mx).map j8)),(9,AV.own (h.length+2) i 0 i),(10,AV.int .i64 ((i:Nat):Int))],h++[⟨0,false,30,4,[.vec u.globals.length (g7 u.globals),.vec u.c4.length (g0 u.c4),.vec u.procs.length (j6 u.procs),.int .i64 u.main],0⟩,⟨0,false,34,3,[.vec c.insts.length (l3 c.insts),.vec c.calls.length (l5 c.calls),.vec c.roots.length (g7 c.roots)],0⟩,o8 22 1 i (s6 ((oZ u c mx).take i))]⟩) (.v ⟨0,⟨rfl,by omega⟩,rfl⟩ (hs:=t14)) ?_;rintro m sl h' ⟨i,⟨hm,hi0⟩,hst⟩;obtain ⟨rfl,rfl⟩:=St.mk.inj hst;clear hst;have htk:((oZ u c mx).take i).length=i:=by rw[List.length_take];omega
  refine c1z ?_;refine u2z ?_ ?_
  ·intro e1 qe1;refine c3z ?_;have hi:i<c.insts.length:=by omega
   have hsz:s4 u c i≤1664:=n6 hu (cB wc hi);have hTl:(sB u c mx (iH u c mx) i).length=s4 u c i:=wU;have hbi:(BX u c mx i).length=s4 u c i:=jU;have hlp:0<s4 u c i:=(bN hu (cB wc hi)).1;refine c25z ?_;refine .ca rfl rfl (qY hu wc hmx cK hi) ?_;refine .n ?_;refine .c6 [2,3,4,7,8,9,10,11] ?_;refine c18z ?_;refine c9.qC 12 rfl ?_;refine .aB (fun m st=>∃(j:Nat),(m=s4 u c i-j∧(j≤s4 u c i))∧st=⟨mkS 58 [(2,AV.int .i64 ((mx:Nat):Int)),(3,AV.ptr h.length 0 0),(4,AV.ptr (h.length+1) 0 0),(7,AV.vec c.insts.length (s6 (iH u c mx))),(8,AV.vec c.insts.length ((qV u c mx).map j8)),(9,AV.own (h.length+2) i 0 i),(10,AV.int .i64 ((i:Nat):Int)),(11,AV.vec (s4 u c i) (s6 (sB u c mx (iH u c mx) i))),(12,AV.own (h.length+3) j 0 j),(13,AV.int .i64 ((j:Nat):Int))],h++[⟨0,false,30,4,[.vec u.globals.length (g7 u.globals),.vec u.c4.length (g0 u.c4),.vec u.procs.length (j6 u.procs),.int .i64 u.main],0⟩,⟨0,false,34,3,[.vec c.insts.length (l3 c.insts),.vec c.calls.length (l5 c.calls),.vec c.roots.length (g7 c.roots)],0⟩,o8 22 1 i (s6 ((oZ u c mx).take i)),o8 3 1 j (((BX u c mx i).take j).map j8)]⟩) (.v ⟨0,⟨rfl,by omega⟩,rfl⟩ (hs:=t14)) ?_;rintro m sl h' ⟨j,⟨hm,hj0⟩,hst⟩;obtain ⟨rfl,rfl⟩:=St.mk.inj hst;clear hst;have htr:((BX u c mx i).take j).length=j:=by rw[List.length_take,jU];omega
   refine c1z ?_;refine u2z ?_ ?_
   ·intro e2 qe2;refine c3z ?_;have hTi:=(nC (u:=u) (c:=c) (m:=mx) (iH u c mx) i).get (i:=j) (by omega);refine c9.kO u6 (mkP 13 [0,0,0,6,14,0,0,96,224,510,1022,2047,4095] [10,11]) [0] (by kernel_rfl) (by kernel_rfl) ?_;refine eX.p (pd:=[]) 9 ?_;refine eX.call rfl rfl rfl rfl rfl hb58 (CC _ _ (hTi.lt hk8) (D5.lt _ (g8 (by omega))) (by have:=hTi.1;omega)) ?_;refine eX.p 3 ?_;refine c153z ?_;refine .c6 [2,3,4,7,8,9,10,11,12,13] ?_;refine .rz ?_;exact ⟨_,by omega,.v ⟨(j+1),⟨rfl,by omega⟩,rfl⟩ (he:=by (rw[ME (by rw[jU];omega),D7 (by omega)];simp only[List.append_assoc,List.cons_append,List.nil_append];rfl)) (hk:=by exact (aE.refl _).app rfl ⟨.inl rfl,.inl rfl,.inl rfl,.inr (by rw[o2];exact (N9 _).refs _),trivial⟩) (hs:=t14)⟩
   intro e2 qe2;refine .exit ?_;obtain rfl:j=s4 u c i:=by omega
   rw[List.take_of_length_le (Nat.le_of_eq hbi)];refine c9.vH (t:=12) (γ:=h.length+3) (len:=s4 u c i) t34 (by rw[List.length_map,hbi,Nat.mul_one]) (by omega) (N9 _) (kC (by decide) rfl) ?_;rw[bC];simp only[o4,List.set_cons_succ,List.set_cons_zero];generalize gN _ _ _ _ _=Ib;change c9 ..;refine c2z ?_;refine .c6 [2,3,4,7,8,9,10] ?_;refine .rz ?_;exact ⟨_,by omega,.v ⟨(i+1),⟨rfl,by omega⟩,rfl⟩ (he:=by (rw[yM (by omega),qZ (by omega)];simp only[List.append_assoc,List.cons_append,List.nil_append];rfl)) (hk:=t105) (hs:=t14)⟩
  intro e1 qe1;refine .exit ?_;obtain rfl:i=c.insts.length:=by omega
  change c9 ..;refine .c6 [9] ?_;refine c27z ?_;exact ⟨_,_,rfl,Fj t34 (by omega) htk (by omega),by (rw[List.take_of_length_le (by omega)])⟩
end
end Go.Proofs.YtonbocmibeikmaaGreat
end
section
namespace Go.Proofs.YtonbocmibeikmaaGreat
open Go.Ab Go.Un
variable {h:c7}{T:List (List Nat)}{n:Nat}
theorem MN {b0 b1:Blk}{l:c7}{L:List (List (List Nat))}{m g:Nat}(hn:L.length=n)(hx:T.length=m)(hl:n<100000):j7 cfg 32 (h++(b0::b1::o8 32 1 g (u9 L)::⟨0,false,32,1,[.vec m (s6 T)],0⟩::l)) (.own (h.length+2) g 0 n) (.own (h.length+3) 0 0 1)=some (.own (h.length+2) (g+1) 0 (n+1),h++(b0::b1::o8 32 1 (g+1) (u9 (L++[T]))::⟨0,false,32,1,[.vec m (s6 T)],0⟩::l)):=by subst hn hx;rw[v7 (C:=cfg) (K:=1) (m:=1) (new:=[.vec T.length (s6 T)]) (zs:=u9 L) t34 rfl (by omega) (by simp[u9]) rfl (by omega) t131 rfl (by decide) (by omega),←yL,o4];rfl
theorem nY {L:List (List (List Nat))}{i:Nat}(h:i<L.length):List.take 1 (List.drop i (u9 L))=[.vec (L.getD i []).length (s6 (L.getD i []))]:=MM h
theorem yN (h:0<T.length):List.take 1 (s6 T)=[.vec (T.getD 0 []).length ((T.getD 0 []).map j8)]:=qW (i:=0) h
theorem MO {x k:Nat}(hk:k≤8)(hx:x<2^(k+1)):bits .andNot .i64 ((x:Nat):Int) (((2^(k+1)-1:Nat)):Int)=0:=by have h5:=jE hk;refine (wM (by omega) (by omega)).2 fun j hj=>?_;rw[Nat.testBit_two_pow_sub_one];exact decide_eq_true (yI hx hj)
def OO:List Int→Int→Int→Int
  | [],_,_ => -1
  | x::l,v,k=>if x=v then k else OO l v (k+1)
theorem YC {v:Int}:∀{X:List Int} {i:Nat} {k:Int},(∀d,d<i→X.getD d 0≠v)→i<X.length→X.getD i 0=v→OO X v k=k+i
  | [],i,k,_,hi,_=>by simp at hi
  | x::l,0,k,_,_,he=>by
    have:x=v:=by simpa using he
    simp[OO,this]
  | x::l,i+1,k,hn,hi,he=>by
    have h0:x≠v:=by simpa using hn 0 (by omega)
    rw[OO,if_neg h0,YC (X:=l) (i:=i) (fun d hd=>by simpa using hn (d+1) (by omega)) t189 (by simpa using he)];omega
theorem YD {v:Int}:∀{X:List Int} {k:Int},(∀d,d<X.length→X.getD d 0≠v)→OO X v k = -1
  | [],k,_=>rfl
  | x::l,k,hn=>by
    have h0:x≠v:=by simpa using hn 0 (by simp)
    rw[OO,if_neg h0];exact YD fun d hd=>by simpa using hn (d+1) (by simpa using hd)
theorem MP {v:Int}:∀{X:List Int} {k:Int},0≤k→(0≤OO X v k↔v∈X)
  | [],k,_=>by simp[OO]
  | x::l,k,hk=>by
    rw[OO];by_cases e:x=v
    · simp[e,hk]
    · rw[if_neg e,MP (X:=l) (by omega),List.mem_cons]
      exact ⟨.inr,fun h=>h.elim (fun h=>absurd h.symm e) id⟩
section
variable {u:Un}{c:Clo}{mx:Nat}
end
attribute [local go_sem] rd bJ r9 u7 r6 n7 l7 aK p7 Int.natCast_nonneg Int.natCast_inj aL dN cW dO gS iD qW jV bP mF tC eM kY kZ iE List.length_set List.length_replicate Int.toNat_natCast_add_one fF wrap64 sC List.length_map dH dP iR iS bP eH dQ jW jX dR dI p7 orN oI beq_self_eq_true bne_self_eq_false W3 yN
section
attribute [local go_sem] MN
end
section
attribute [local go_sem] MN
theorem c_tabR {u:Un}{c:Clo}(hu:WU u)(wc:WC u c){mx:Nat}(hmx:mx<u.c4.length):CB 38 [.agg [.vec u.globals.length (g7 u.globals),.vec u.c4.length (g0 u.c4),.vec u.procs.length (j6 u.procs),.int .i64 u.main],.agg [.vec c.insts.length (l3 c.insts),.vec c.calls.length (l5 c.calls),.vec c.roots.length (g7 c.roots)],.int .i64 ((mx:Nat):Int)] h (.tup [.vec c.insts.length (u9 (F8 u c mx c.insts.length)),.vec c.insts.length ((qV u c mx).map j8)]):=by
  refine .bz Tryz.f38 36 ?_;have hwl:=wc.len;have hk8:kM u mx≤8:=eP;have hk9:nS (u.c4.getD mx w3)≤8:=hk8;have hml:=hu.ml;have hrl:=wc.rl;have hrc:c.roots.length≤c.insts.length:=by have:=u4 wc.rs wc.rr;omega
  have hel:(qV u c mx).length=c.insts.length:=dR;have hsl:(iH u c mx).length=c.insts.length:=cK.1;have hcl:=wc.cl;refine .z ?_;refine c15z ?_;refine .ca rfl rfl (Fk hu wc hmx) ?_;refine .n ?_;refine .c6 [2,3,4,8] ?_;refine c18z ?_;refine c9.qC 9 rfl ?_;refine .aB (fun m st=>∃(i:Nat),(m=c.insts.length-i∧(i≤c.insts.length))∧st=⟨mkS 36 [(2,AV.int .i64 ((mx:Nat):Int)),(3,AV.ptr h.length 0 0),(4,AV.ptr (h.length+1) 0 0),(8,AV.vec c.insts.length (s6 (iH u c mx))),(9,AV.own (h.length+2) i 0 i),(10,AV.int .i64 ((i:Nat):Int))],h++[⟨0,false,30,4,[.vec u.globals.length (g7 u.globals),.vec u.c4.length (g0 u.c4),.vec u.procs.length (j6 u.procs),.int .i64 u.main],0⟩,⟨0,false,34,3,[.vec c.insts.length (l3 c.insts),.vec c.calls.length (l5 c.calls),.vec c.roots.length (g7 c.roots)],0⟩,o8 32 1 i (u9 (F8 u c mx i))]⟩) (.v ⟨0,⟨rfl,by omega⟩,rfl⟩ (hs:=t14)) ?_ (he:=t167);rintro m sl h' ⟨i,⟨hm,hi0⟩,hst⟩;obtain ⟨rfl,rfl⟩:=St.mk.inj hst;clear hst;have hinl:(F8 u c mx i).length=i:=dQ;refine c1z ?_;refine u2z ?_ ?_
  ·intro e1 qe1;refine c3z ?_;have hi:i<c.insts.length:=by omega
   have hTi0:(sB u c mx (iH u c mx) i).length=s4 u c i:=wU;refine c237z ?_;refine .ca rfl rfl (qY hu wc hmx cK hi) ?_;refine c28z ?_;refine .c6 [2,3,4,8,9,10] ?_;refine .rz ?_;exact ⟨_,by omega,.v ⟨(i+1),⟨rfl,by omega⟩,rfl⟩ (he:=t183) (hk:=by exact (aE.refl _).app rfl ⟨.inl rfl,.inl rfl,.inr (by rw[o2];exact (UR _).refs _),trivial⟩) (hs:=t14)⟩
  intro e1 qe1;refine .exit ?_;obtain rfl:i=c.insts.length:=by omega
  refine c9.vH (t:=9) (γ:=h.length+2) (len:=c.insts.length) t34 (by rw[eH,dQ,Nat.mul_one]) (by omega) (UR _) (kC (by decide) rfl) ?_;rw[bC];simp only[o4,List.set_cons_succ,List.set_cons_zero];generalize gN _ _ _ _ _=Ib;change c9 ..;refine c29z ?_;refine .ca rfl rfl (YA hu wc hmx) ?_;refine .n ?_;exact .ret (.ex (hq:=by rfl))
end
section
attribute [local go_sem] nY
end
theorem MQ {k:Nat}(hk:k≤8):CB 29 [.int .i64 ((k:Nat):Int)] h (.int .i64 ((2^(k+1)-1:Nat):Int)):=by refine .bz Tryz.f29 7 ?_;have h5:=jE hk;refine .z ?_;refine c27z ?_;exact ⟨[],_,(List.append_nil _).symm,t41,by (show AV.int .i64 _=_;congr 1;omega)⟩
variable {caps:List AV}
theorem c_ixR {r:List Nat}(hr:r.length=n)(hl:n<100000)(hF:∀j,j<n→CB 112 (.int .i64 ((r.getD j 0:Nat):Int)::caps) h (.bool false)):CB 148 [.vec n (r.map j8),.fn (.func 112) [] caps] h (.int .i64 (-1)):=by
  refine .bz Tryz.f148 19 ?_;refine c18z ?_;refine .w7 (fun m st=>∃(i:Nat),(m=n-i∧(i≤n))∧st=⟨mkS 19 [(0,AV.vec n (r.map j8)),(1,AV.fn (.func 112) [] caps),(7,AV.int .i64 ((n:Nat):Int)),(8,AV.int .i64 ((i:Nat):Int))],h⟩) _ (.v ⟨0,⟨rfl,by omega⟩,rfl⟩) ?_;rintro m sl h' ⟨i,⟨hm,hi0⟩,hst⟩;obtain ⟨rfl,rfl⟩:=St.mk.inj hst;refine c22z ?_;refine u2z ?_ ?_
  ·intro e1 qe1;refine c73z ?_;refine c25z ?_;refine o1.cq rfl (rfl) hb112 (hF _ (by omega)) ?_;refine .nil ?_;refine c40z ?_;refine c194z ?_;exact ⟨_,by omega,.v ⟨(i+1),⟨rfl,by omega⟩,rfl⟩⟩
  intro e1 qe1;refine c65z ?_;exact ⟨[],_,(List.append_nil _).symm,t41,by rfl⟩
theorem c_cfR {r:List Nat}(hr:r.length=n)(hl:n<100000)(hF:∀j,j<n→CB 112 (.int .i64 ((r.getD j 0:Nat):Int)::caps) h (.bool false)):CB 116 [.vec n (r.map j8),.fn (.func 112) [] caps] h (.bool false):=by refine .bz Tryz.f116 9 ?_;refine c189z ?_;refine .ca rfl rfl (c_ixR hr hl hF) ?_;refine c114z ?_;exact ⟨[],_,(List.append_nil _).symm,t41,by rfl⟩
theorem c_ixT (hr:T.length=n)(hl:n<100000)(hF:∀j,j<n→CB 115 (bJ (T.getD j [])::caps) h (.bool false)):CB 147 [.vec n (s6 T),.fn (.func 115) [] caps] h (.int .i64 (-1)):=by
  refine .bz Tryz.f147 19 ?_;refine c18z ?_;refine .w7 (fun m st=>∃(i:Nat),(m=n-i∧(i≤n))∧st=⟨mkS 19 [(0,AV.vec n (s6 T)),(1,AV.fn (.func 115) [] caps),(7,AV.int .i64 ((n:Nat):Int)),(8,AV.int .i64 ((i:Nat):Int))],h⟩) _ (.v ⟨0,⟨rfl,by omega⟩,rfl⟩) ?_;rintro m sl h' ⟨i,⟨hm,hi0⟩,hst⟩;obtain ⟨rfl,rfl⟩:=St.mk.inj hst;refine c22z ?_;refine u2z ?_ ?_
  ·intro e1 qe1;refine c73z ?_;refine c25z ?_;refine o1.cq rfl (rfl) hb115 (hF _ (by omega)) ?_;refine .nil ?_;refine c40z ?_;refine c194z ?_;exact ⟨_,by omega,.v ⟨(i+1),⟨rfl,by omega⟩,rfl⟩⟩
  intro e1 qe1;refine c65z ?_;exact ⟨[],_,(List.append_nil _).symm,t41,by rfl⟩
theorem c_cfT (hr:T.length=n)(hl:n<100000)(hF:∀j,j<n→CB 115 (bJ (T.getD j [])::caps) h (.bool false)):CB 114 [.vec n (s6 T),.fn (.func 115) [] caps] h (.bool false):=by refine .bz Tryz.f114 9 ?_;refine c189z ?_;refine .ca rfl rfl (c_ixT hr hl hF) ?_;refine c114z ?_;exact ⟨[],_,(List.append_nil _).symm,t41,by rfl⟩
theorem UW {X:List Int}(hl:X.length<1000000)(v:Int):CB 149 [.vec X.length (g7 X),.int .i64 v] h (.int .i64 (OO X v 0)):=by
  refine .bz Tryz.f149 19 ?_;refine c18z ?_;refine .w7 (fun m st=>∃(i:Nat),(m=X.length-i∧((∀d,d<i→X.getD d 0≠v)∧i≤X.length))∧st=⟨mkS 19 [(0,AV.vec X.length (g7 X)),(1,AV.int .i64 v),(7,AV.int .i64 ((X.length:Nat):Int)),(8,AV.int .i64 ((i:Nat):Int))],h⟩) _ (.v ⟨0,⟨rfl,⟨t88,by omega⟩⟩,rfl⟩) ?_;rintro m sl h' ⟨i,⟨hm,⟨hI,hi0⟩⟩,hst⟩;obtain ⟨rfl,rfl⟩:=St.mk.inj hst;refine c22z ?_;refine u2z ?_ ?_
  ·intro e1 qe1;refine c73z ?_;refine .z ?_;refine u2z ?_ ?_
   ·intro e2 qe2;refine .c6 [5] ?_;refine c27z ?_;exact ⟨[],_,(List.append_nil _).symm,t41,t140⟩
   intro e2 qe2;refine c4z ?_;refine c194z ?_;exact ⟨_,by omega,.v ⟨(i+1),⟨rfl,⟨(fun d hd=>if e:d=i then by rw[e];omega else hI d (by omega)),by omega⟩⟩,rfl⟩⟩
  intro e1 qe1;refine c65z ?_;exact ⟨[],_,(List.append_nil _).symm,t41,t140⟩
theorem FE {X:List Int}(hl:X.length<1000000)(v:Int):CB 118 [.vec X.length (g7 X),.int .i64 v] h (.bool (decide (v∈X))):=by refine .bz Tryz.f118 9 ?_;refine c189z ?_;refine .ca rfl rfl (UW hl v) ?_;refine c114z ?_;exact ⟨[],_,(List.append_nil _).symm,t41,by (exact congrArg AV.bool (by rw[decide_eq_decide];exact MP (Int.le_refl 0)))⟩
end Go.Proofs.YtonbocmibeikmaaGreat
end
section
namespace Go.Un
open Go.Ab
noncomputable def upto (p:Nat→Prop):Nat→Nat
 | 0=>0
 | n+1=>open Classical in if upto p n=n∧p n then n+1 else upto p n
theorem uI {p:Nat→Prop}:∀{n:Nat},(∀i,i<n→p i)→upto p n=n
 | 0,_=>rfl
 | n+1,h=>by rw[upto,if_pos ⟨uI fun i hi=>h i (by omega),h n (by omega)⟩]
theorem W5 {p:Nat→Prop}{k:Nat}(h:∀i,i<k→p i)(hk:¬p k):∀{n:Nat},k<n→upto p n=k
 | 0,hn=>by omega
 | n+1,hn=>by
  by_cases e:k=n
  ·subst e;rw[upto,if_neg (fun hh=>hk hh.2),uI h]
  ·rw[upto,W5 h hk (n:=n) (by omega),if_neg (fun hh=>e hh.1)]
theorem wV {p:Nat→Prop}:∀{n:Nat},upto p n≤n
 | 0=>Nat.le_refl _
 | n+1=>by
  rw[upto];split
  ·exact Nat.le_refl _
  ·exact Nat.le_succ_of_le wV
theorem E6 {p:Nat→Prop}:∀{n:Nat},upto p n=n→∀i,i<n→p i
 | 0,_,i,hi=>by omega
 | n+1,h,i,hi=>by
  rw[upto]at h;split at h
  ·rename_i hh;by_cases e:i=n
   ·rw[e];exact hh.2
   ·exact E6 hh.1 i (by omega)
  ·have:=wV (p:=p) (n:=n);omega
noncomputable def dcd (p:Prop):Bool:=@decide p (Classical.propDecidable p)
theorem MR {p:Prop}(h:p):dcd p=true:=@decide_eq_true p (Classical.propDecidable p) h
theorem O4 {p:Prop}(h:¬p):dcd p=false:=@decide_eq_false p (Classical.propDecidable p) h
theorem sD {p:Prop}:dcd p=true↔p:=@decide_eq_true_iff p (Classical.propDecidable p)
theorem dcd_eq {p:Prop}[Decidable p]:dcd p=decide p:=by
 by_cases h:p
 ·rw[MR h,decide_eq_true h]
 ·rw[O4 h,decide_eq_false h]
noncomputable def ixB (p:Nat→Bool)(n:Nat):Int:=if upto (fun j=>p j=false) n<n then (upto (fun j=>p j=false) n:Nat) else -1
variable {p:Nat→Bool}{i n:Nat}
theorem ixB_at (h:∀d,d<i→p d=false)(hi:i<n)(hp:p i=true):ixB p n=i:=by have e:upto (fun j=>p j=false) n=i:=W5 h (by rw[hp];decide) hi;rw[ixB,e,if_pos hi]
theorem YE (h:∀d,d<n→p d=false):ixB p n = -1:=by have e:upto (fun j=>p j=false) n=n:=uI h;rw[ixB,e,if_neg (Nat.lt_irrefl _)]
theorem ixB_iff:0≤ixB p n↔∃j,j<n∧p j=true:=by
 by_cases h:∀d,d<n→p d=false
 ·rw[YE h];constructor
  ·intro h;omega
  ·rintro ⟨j,hj,hp⟩;rw[h j hj]at hp;cases hp
 ·have h1:upto (fun j=>p j=false) n<n:=by have:=wV (p:=fun j=>p j=false) (n:=n);have h2:upto (fun j=>p j=false) n≠n:=fun e=>h (E6 e);omega
  rw[ixB,if_pos h1];refine ⟨fun _=>Classical.byContradiction fun hn=>h fun d hd=>?_,fun _=>by omega⟩;cases hb:p d
  ·rfl
  ·exact absurd ⟨d,hd,hb⟩ hn
def FL (n e:Int)(k:Nat):Int:=if (k:Int)=n then 0 else e
section
variable (u:Un)(c:Clo)(m:Nat)
structure Shp (L:List (List (List Nat)))(E:List Nat):Prop where
 len:L.length=c.insts.length
 tb:∀i,i<c.insts.length→Tb (kM u m) (s4 u c i) (L.getD i [])
 es:Es u c m E
noncomputable def exS (L:List (List (List Nat))):List (List Nat):=(List.range c.insts.length).map fun i=>wQ u c m i (L.getD i []) (s4 u c i)
def HdP (L:List (List (List Nat)))(E:List Nat)(i:Nat):Prop:=fO (dhN (kM u m) 0) ((L.getD i []).getD 0 [])∧((i:Int)∈c.roots→E.getD i 0%2=1)
def AtC (L:List (List (List Nat)))(E:List Nat)(i pc:Nat):Prop:=(eB u c i pc).op=2→∀b,(applyN ((L.getD i []).getD pc []) (E.getD i 0)).testBit b=true→bt E (iC c i pc) b=true
def AtN (L:List (List (List Nat)))(i pc:Nat):Prop:=∀q∈nxI u c i pc,fO (s5 ((L.getD i []).getD pc []) (stS u c m (exS u c m L) i pc)) ((L.getD i []).getD q.toNat [])
def MS (L:List (List (List Nat)))(E:List Nat)(i:Nat):Prop:=HdP u c m L E i∧∀pc,pc<s4 u c i→AtC u c L E i pc∧AtN u c m L i pc
noncomputable def F9 (L:List (List (List Nat)))(E:List Nat):Nat:=upto (MS u c m L E) c.insts.length
end
section
variable {u:Un}{c:Clo}{m:Nat}
theorem oK (L:List (List (List Nat))):Tb (kM u m) c.insts.length (exS u c m L):=by refine ⟨by simp[exS],fun r hr=>?_⟩;obtain ⟨i,_,rfl⟩:=List.mem_map.1 hr;exact lY _ _ _
theorem pC {L:List (List (List Nat))}(hi:i<c.insts.length):(exS u c m L).getD i []=wQ u c m i (L.getD i []) (s4 u c i):=by simp[exS,List.getD,hi]
theorem inn_shp (hu:WU u)(wc:WC u c):Shp u c m ((List.range c.insts.length).map (sB u c m (iH u c m))) (qV u c m):=
 ⟨by simp,fun i hi=>by
  have e:((List.range c.insts.length).map (sB u c m (iH u c m))).getD i []=sB u c m (iH u c m) i:=by simp[List.getD,hi]
  rw[e];exact nC _ _,D5⟩
section
variable {L:List (List (List Nat))}{E:List Nat}
theorem MT (hu:WU u)(wc:WC u c)(hS:Shp u c m L E)(hi:i<c.insts.length)(hC:MS u c m L E i):ClT (kM u m) (s4 u c i) (nxI u c i) (stS u c m (exS u c m L) i) (L.getD i []):=by have p:=V6 (m:=m) hu wc (oK L) hi;have hT:=hS.tb i hi;exact ⟨hT,(LN eP (LO _ _) (hT.get p.pos)).1 hC.1.1,fun pc hp q hq=>(LN eP (eU (hT.get hp) (p.st pc hp)) (hT.get (by have:=p.nx pc hp q hq;omega))).1 ((hC.2 pc hp).2 q hq)⟩
theorem MU (hu:WU u)(wc:WC u c)(hS:Shp u c m L E)(hC:∀i,i<c.insts.length→MS u c m L E i)(hi:i<c.insts.length):oF (inS u c m i) (L.getD i []):=by
 have h1:∀j,j<c.insts.length→oF (sB u c m (exS u c m L) j) (L.getD j []):=fun j hj=>(MT hu wc hS hj (hC j hj)).least (V6 hu wc (oK L) hj);have h2:oF (iH u c m) (exS u c m L):=N6 hu wc (oK L) fun j hj d e h=>by obtain ⟨pc,hp,ho,w⟩:=(sR hu wc (oK L) hj).1 h;rw[pC hj];exact (D3 (hS.tb j hj) (Nat.le_refl _)).2 ⟨pc,hp,ho,(MT hu wc hS hj (hC j hj)).way (V6 hu wc (oK L) hj) w⟩
 exact (LQ hu wc cK (oK L) h2 hi).trans (h1 i hi)
theorem clo_ent (hu:WU u)(wc:WC u c)(hS:Shp u c m L E)(hC:∀i,i<c.insts.length→MS u c m L E i):Sub (qV u c m) E:=by
 refine N8 hu wc (fun i hr=>?_) fun i pc hi hp ho j hj=>?_
 ·have h0:=wc.rr _ hr;have h1:=(hC i (by omega)).1.2 hr;unfold bt;rw[Nat.testBit_zero,h1];rfl
 ·refine (hC i hi).2 pc hp |>.1 ho j ?_
  obtain ⟨d,h1,h2⟩:=(nD ((sS i).get hp)).1 hj;exact (nD ((hS.tb i hi).get hp)).2 ⟨d,h1,MU hu wc hS hC hi pc d j h2⟩
theorem sound (hu:WU u)(wc:WC u c)(hS:Shp u c m L E)(hC:∀i,i<c.insts.length→MS u c m L E i){pc:Nat}(hi:i<c.insts.length)(hp:pc<s4 u c i):bits .andNot .i64 (((BX u c m i).getD pc 0:Nat):Int) ((applyN ((L.getD i []).getD pc []) (E.getD i 0):Nat):Int)=0:=by have hk:kM u m≤8:=eP;have h1:(BX u c m i).getD pc 0<2^(kM u m+1):=befT_lt hp;have h2:=iQ ((hS.tb i hi).get hp) (E.getD i 0);have h3:=(jE hk).2;refine (wM (by omega) (by omega)).2 fun b hb=>?_;rw[D7 hp]at hb;obtain ⟨d,h4,h5⟩:=(nD ((sS i).get hp)).1 hb;exact (nD ((hS.tb i hi).get hp)).2 ⟨d,clo_ent hu wc hS hC i d h4,MU hu wc hS hC hi pc d b h5⟩
theorem Shp.Th (hS:Shp u c m L E){k:Nat}{r:List Nat}(hr:Rl (kM u m) r):Shp u c m (L.set i ((L.getD i []).set k r)) E:=by
 refine ⟨by rw[List.length_set];exact hS.len,fun j hj=>?_,hS.es⟩;by_cases e:i=j
 ·subst e;rw[List.getD_eq_getElem?_getD,List.getElem?_set_self (by rw[hS.len];exact hj)];exact (hS.tb i hj).set hr
 ·rw[List.getD_eq_getElem?_getD,List.getElem?_set_ne e,←List.getD_eq_getElem?_getD];exact hS.tb j hj
theorem Rl.set {k:Nat}{r:List Nat}(h:Rl k r){d x:Nat}(hx:x<2^(k+1)):Rl k (r.set d x):=⟨t210,fun y hy=>(List.mem_or_eq_of_mem_set hy).elim (h.2 y) fun e=>by rw[e];exact hx⟩
theorem Shp.setE (hS:Shp u c m L E){x:Nat}(hx:x<2^(kM u m+1)):Shp u c m L (E.set i x):=⟨hS.len,hS.tb,hS.es.set hx⟩
end
end
end Go.Un
end
section
namespace Go.Proofs.YtonbocmibeikmaaGreat
open Go.Ab Go.Un
variable {k:Nat}
theorem YF {l:List AV}{x:AV}(h:l[k]?=some x):List.take 1 (List.drop k l)=[x]:=by obtain ⟨h1,h2⟩:=List.getElem?_eq_some_iff.1 h;rw[List.drop_eq_getElem_cons h1,List.take_succ_cons,List.take_zero,h2]
def nZ (r:List Nat):Blk:=⟨1,false,3,1,r.map j8,0⟩
def cP:Nat→List (List Nat)→List AV
 | _,[]=>[]
 | q,r::T=>.own q 1 0 r.length::cP (q+1) T
def W6 (p:Nat)(T:List (List Nat)):Blk:=⟨T.length,false,22,1,cP (p+1) T,0⟩
def lay:Nat→List (List (List Nat))→c7
 | _,[]=>[]
 | p,T::L=>W6 p T::(T.map nZ++lay (p+1+T.length) L)
def Q4:Nat→List Nat→Nat→Nat
 | p,_,0=>p
 | p,[],_+1=>p
 | p,a::ns,i+1=>Q4 (p+1+a) ns i
def rB:Nat→List Nat→List AV
 | _,[]=>[]
 | p,a::ns=>.own p a 0 a::rB (p+1+a) ns
def uJ:List Nat→Nat
 | []=>0
 | a::ns=>1+a+uJ ns
def lens (L:List (List (List Nat))):List Nat:=L.map List.length
theorem jF:∀{T:List (List Nat)} {q:Nat},(cP q T).length=T.length
 | [],_=>rfl
 | r::T,q=>by rw[cP,List.length_cons,jF,List.length_cons]
theorem yO:∀{T:List (List Nat)} {q:Nat} {r:List Nat},cP q (T++[r])=cP q T++[.own (q+T.length) 1 0 r.length]
 | [],q,r=>rfl
 | x::T,q,r=>by rw[List.cons_append,cP,yO,cP,List.cons_append,List.length_cons,show q+1+T.length=q+(T.length+1) from by omega]
theorem O5:∀{T:List (List Nat)} {q k:Nat},k<T.length→(cP q T)[k]?=some (.own (q+k) 1 0 (T.getD k []).length)
 | [],_,_,h=>by simp at h
 | x::T,q,0,_=>rfl
 | x::T,q,k+1,h=>by rw[cP,List.getElem?_cons_succ,O5 t119,show q+1+k=q+(k+1) from by omega];rfl
theorem O6:∀{T:List (List Nat)} {q k:Nat} {r:List Nat},r.length=(T.getD k []).length→cP q (T.set k r)=cP q T
 | [],_,_,_,_=>rfl
 | x::T,q,0,r,h=>by have h':r.length=x.length:=h;simp only[List.set_cons_zero,cP,h']
 | x::T,q,k+1,r,h=>by have h':r.length=(T.getD k []).length:=h;simp only[List.set_cons_succ,cP,O6 h']
theorem lZ:∀{L:List (List (List Nat))} {p:Nat},(lay p L).length=uJ (lens L)
 | [],_=>rfl
 | T::L,p=>by rw[lay,List.length_cons,List.length_append,lZ,List.length_map];show _=1+T.length+uJ (lens L);omega
theorem jY:∀{ns:List Nat} {p:Nat},(rB p ns).length=ns.length
 | [],_=>rfl
 | a::ns,p=>by rw[rB,List.length_cons,jY,List.length_cons]
theorem CE:∀{ns:List Nat} {p i:Nat},i<ns.length→(rB p ns)[i]?=some (.own (Q4 p ns i) (ns.getD i 0) 0 (ns.getD i 0))
 | [],_,_,h=>by simp at h
 | a::ns,p,0,_=>rfl
 | a::ns,p,i+1,h=>by rw[rB,List.getElem?_cons_succ,CE t119];rfl
theorem CF:∀{L:List (List (List Nat))} {p:Nat} {T:List (List Nat)},lay p (L++[T])=lay p L++(W6 (p+uJ (lens L)) T::T.map nZ)
 | [],p,T=>by simp[lay,lens,uJ]
 | X::L,p,T=>by rw[List.cons_append,lay,CF,lay,List.cons_append,List.append_assoc,show p+1+X.length+uJ (lens L)=p+uJ (lens (X::L)) from by show _=p+(1+X.length+uJ (lens L));omega]
theorem O7:∀{ns:List Nat} {p a:Nat},rB p (ns++[a])=rB p ns++[.own (p+uJ ns) a 0 a]
 | [],p,a=>by simp[rB,uJ]
 | b::ns,p,a=>by rw[List.cons_append,rB,O7,rB,List.cons_append,show p+1+b+uJ ns=p+uJ (b::ns) from by show _=p+(1+b+uJ ns);omega]
variable {T:List (List Nat)}
theorem MV {L:List (List (List Nat))}:lens (L++[T])=lens L++[T.length]:=by simp[lens]
theorem cL {L:List (List (List Nat))}:(lens L).length=L.length:=by simp[lens]
variable {i:Nat}
theorem CG {L:List (List (List Nat))}:(lens L).getD i 0=(L.getD i []).length:=by
 unfold lens;by_cases h:i<L.length
 ·simp[List.getD,h]
 ·rw[List.getD_eq_getElem?_getD,List.getD_eq_getElem?_getD,List.getElem?_eq_none t119,List.getElem?_eq_none t119];rfl
theorem CI {L:List (List (List Nat))}(h:T.length=(L.getD i []).length):lens (L.set i T)=lens L:=by
 apply List.ext_getElem?;intro j;unfold lens;rw[List.map_set];by_cases e:i=j
 ·subst e;by_cases hi:i<L.length
  ·rw[List.getElem?_set_self t189,h];simp[List.getD,hi]
  ·rw[List.getElem?_eq_none t189,List.getElem?_eq_none t189]
 ·rw[List.getElem?_set_ne e]
theorem W7:∀{L:List (List (List Nat))} {A l:c7} {p i:Nat},A.length=p→i<L.length→(A++(lay p L++l))[Q4 p (lens L) i]?=some (W6 (Q4 p (lens L) i) (L.getD i []))
 | [],_,_,_,_,_,h=>by simp at h
 | T::L,A,l,p,0,hA,_=>by subst hA;show (A++_)[A.length]?=some (W6 A.length T);rw[aF];rfl
 | T::L,A,l,p,i+1,hA,h=>by have:=W7 (L:=L) (A:=A++(W6 p T::T.map nZ)) (l:=l) (p:=p+1+T.length) (i:=i) t164 t119;rw[List.append_assoc,List.cons_append,←List.append_assoc (T.map nZ)]at this;exact this
theorem W8:∀{L:List (List (List Nat))} {A l:c7} {p i k:Nat},A.length=p→i<L.length→k<(L.getD i []).length→(A++(lay p L++l))[Q4 p (lens L) i+1+k]?=some (nZ ((L.getD i []).getD k []))
 | [],_,_,_,_,_,_,h,_=>by simp at h
 | T::L,A,l,p,0,k,hA,_,hk=>by subst hA;have hk':k<T.length:=hk;show (A++(W6 A.length T::(T.map nZ++lay (A.length+1+T.length) L)++l))[A.length+1+k]?=some (nZ (T.getD k []));rw[show A.length+1+k=A.length+(k+1) from by omega,r7,List.cons_append,List.getElem?_cons_succ,List.append_assoc,List.getElem?_append_left (by simpa using hk')];simp[List.getD,hk']
 | T::L,A,l,p,i+1,k,hA,h,hk=>by have:=W8 (L:=L) (A:=A++(W6 p T::T.map nZ)) (l:=l) (p:=p+1+T.length) (i:=i) (k:=k) t164 t119 hk;rw[List.append_assoc,List.cons_append,←List.append_assoc (T.map nZ)]at this;exact this
theorem MW:∀{L:List (List (List Nat))} {A l:c7} {p i k:Nat} {r:List Nat},A.length=p→i<L.length→k<(L.getD i []).length→r.length=((L.getD i []).getD k []).length→(A++(lay p L++l)).set (Q4 p (lens L) i+1+k) (nZ r)=A++(lay p (L.set i ((L.getD i []).set k r))++l)
 | [],_,_,_,_,_,_,_,h,_,_=>by simp at h
 | T::L,A,l,p,0,k,r,hA,_,hk,hr=>by subst hA;have hk':k<T.length:=hk;have hr':r.length=(T.getD k []).length:=hr;show (A++(W6 A.length T::(T.map nZ++lay (A.length+1+T.length) L)++l)).set (A.length+1+k) (nZ r)=A++(W6 A.length (T.set k r)::((T.set k r).map nZ++lay (A.length+1+(T.set k r).length) L)++l);rw[show A.length+1+k=A.length+(k+1) from by omega,o4,List.cons_append,List.set_cons_succ,List.append_assoc,List.set_append_left _ _ (by simpa using hk'),List.length_set,←List.map_set,List.cons_append,List.append_assoc];simp only[W6,O6 hr',List.length_set]
 | T::L,A,l,p,i+1,k,r,hA,h,hk,hr=>by have:=MW (L:=L) (A:=A++(W6 p T::T.map nZ)) (l:=l) (p:=p+1+T.length) (i:=i) (k:=k) (r:=r) t164 t119 hk hr;rw[List.append_assoc,List.cons_append,←List.append_assoc (T.map nZ),List.append_assoc A,List.cons_append,←List.append_assoc (T.map nZ)]at this;exact this
def G0 (p:Nat)(ns:List Nat):Blk:=⟨ns.length,false,32,1,rB p ns,0⟩
def FF (E:List Nat):Blk:=⟨1,false,3,1,E.map j8,0⟩
def XH (h:c7)(L:List (List (List Nat)))(E:List Nat)(l:c7):c7:=(h++[G0 (h.length+1) (lens L)])++(lay (h.length+1) L++(FF E::l))
def fP (h:c7)(L:List (List (List Nat))):Nat:=h.length+1+uJ (lens L)
section
variable {h l:c7}{L:List (List (List Nat))}{E:List Nat}
theorem O8:(XH h L E l).length=fP h L+1+l.length:=by simp only[XH,fP,List.length_append,List.length_cons,List.length_nil,lZ];omega
theorem YG:(XH h L E l)[h.length]?=some ⟨L.length,false,32,1,rB (h.length+1) (lens L),0⟩:=by rw[XH,List.append_assoc,aF];simp[G0,cL]
theorem XH_tab (hi:i<L.length):(XH h L E l)[Q4 (h.length+1) (lens L) i]?=some ⟨(L.getD i []).length,false,22,1,cP (Q4 (h.length+1) (lens L) i+1) (L.getD i []),0⟩:=
 W7 (by simp) hi
theorem XH_row (hi:i<L.length)(hk:k<(L.getD i []).length):(XH h L E l)[Q4 (h.length+1) (lens L) i+1+k]?=some ⟨1,false,3,1,((L.getD i []).getD k []).map j8,0⟩:=
 W8 (by simp) hi hk
variable {β:Nat}
theorem YI (hβ:β=fP h L):(XH h L E l)[β]?=some ⟨1,false,3,1,E.map j8,0⟩:=by
 subst hβ;have e:fP h L=((h++[G0 (h.length+1) (lens L)])++lay (h.length+1) L).length:=by simp[fP,lZ];omega
 rw[XH,←List.append_assoc,e,aF];rfl
theorem XH_put {r:List Nat}(hi:i<L.length)(hk:k<(L.getD i []).length)(hr:r.length=((L.getD i []).getD k []).length):(XH h L E l).set (Q4 (h.length+1) (lens L) i+1+k) ⟨1,false,3,1,r.map j8,0⟩=XH h (L.set i ((L.getD i []).set k r)) E l:=by have e:lens (L.set i ((L.getD i []).set k r))=lens L:=CI (by simp);rw[XH,XH,e];exact MW (by simp) hi hk hr
theorem XH_putE {F:List Nat}(hβ:β=fP h L):(XH h L E l).set β ⟨1,false,3,1,F.map j8,0⟩=XH h L F l:=by
 subst hβ;have e:fP h L=((h++[G0 (h.length+1) (lens L)])++lay (h.length+1) L).length:=by simp[fP,lZ];omega
 rw[XH,←List.append_assoc,e,fA,XH,←List.append_assoc];rfl
variable {l':c7}
theorem YJ:XH h L E l++l'=XH h L E (l++l'):=by simp[XH]
theorem UX {r:List Nat}:fP h (L.set i ((L.getD i []).set k r))=fP h L:=by rw[fP,fP,CI (by simp)]
theorem E7 (hi:i<L.length):List.take 1 (List.drop i (rB (h.length+1) (lens L)))=[.own (Q4 (h.length+1) (lens L) i) (L.getD i []).length 0 (L.getD i []).length]:=by rw[YF (CE (by rw[cL];exact hi)),CG]
theorem E8 {q:Nat}(hk:k<T.length):List.take 1 (List.drop k (cP q T))=[.own (q+k) 1 0 (T.getD k []).length]:=YF (O5 hk)
variable {n d:Nat}
theorem pD {H:c7}{g len:Nat}{e:TypeId}{zs zs':List AV}(hb:H[β]?=some ⟨g,false,e,1,zs,0⟩)(hn:n≤β)(hz:zs.length=len)(ho:n8 (gV n H d) zs=some zs'):gV n H (d+1) (.own β g 0 len)=some (.vec len zs'):=by rw[fC,hb];simp only[hn,and_self,if_true,Bool.false_eq_true,if_false,Nat.zero_add,Nat.mul_one,hz,Nat.le_refl,List.drop_zero];rw[List.take_of_length_le (by omega),ho]
theorem CJ {H:c7}{n d:Nat}:∀{T:List (List Nat)} {q:Nat},n≤q→(∀k,k<T.length→H[q+k]?=some (nZ (T.getD k [])))→n8 (gV n H (d+2)) (cP q T)=some (s6 T)
 | [],_,_,_=>rfl
 | r::T,q,hq,h=>by
  have h1:gV n H (d+2) (.own q 1 0 r.length)=some (.vec r.length (r.map j8)):=pD (h 0 (by simp)) hq (by simp) ((N9 r).frz _ _ _);rw[cP,n8,h1,CJ (by omega) fun k hk=>by have:=h (k+1) (by simpa using hk);rw[show q+(k+1)=q+1+k from by omega]at this;exact this]
  rfl
theorem CK {H:c7}{n d:Nat}:∀{L:List (List (List Nat))} {A l:c7} {p:Nat},H=A++(lay p L++l)→A.length=p→n≤p→n8 (gV n H (d+3)) (rB p (lens L))=some (u9 L)
 | [],_,_,_,_,_,_=>rfl
 | T::L,A,l,p,hH,hA,hn=>by
  have ht:H[p]?=some (W6 p T):=by have:=W7 (L:=T::L) (l:=l) (i:=0) hA (by simp);rw[←hH]at this;exact this
  have h1:gV n H (d+3) (.own p T.length 0 T.length)=some (.vec T.length (s6 T)):=pD ht hn jF (CJ (by omega) fun k hk=>by have:=W8 (L:=T::L) (l:=l) (i:=0) hA (by simp) hk;rw[←hH]at this;exact this)
  show n8 (gV n H (d+3)) (.own p T.length 0 T.length::rB (p+1+T.length) (lens L))=_;rw[n8,h1,CK (L:=L) (A:=A++(W6 p T::T.map nZ)) (l:=l) (p:=p+1+T.length) (by rw[hH,lay];simp only[List.append_assoc,List.cons_append]) t164 (by omega)];rfl
theorem frz_X {g:Nat}(hn:n≤h.length)(hg:g=L.length):gV n (XH h L E l) (d+4) (.own h.length g 0 g)=some (.vec g (u9 L)):=by subst hg;exact pD YG hn (by rw[jY,cL]) (CK (A:=h++[G0 (h.length+1) (lens L)]) (l:=FF E::l) rfl (by simp) (by omega))
theorem frz_XE {m:Nat}(hβ:β=fP h L)(hn:n≤β)(hm:E.length=m):gV n (XH h L E l) (d+2) (.own β 1 0 m)=some (.vec m (E.map j8)):=pD (YI hβ) hn (by simpa using hm) ((N9 E).frz _ _ _)
theorem wW {N:Nat}:∀{T:List (List Nat)} {q:Nat},q+T.length≤N→∀x∈cP q T,Refs N x
 | [],_,_,x,hx=>by simp[cP]at hx
 | r::T,q,hq,x,hx=>by
  simp only[List.length_cons]at hq;rcases List.mem_cons.1 hx with rfl | hx
  ·exact .own _ _ _ _ (by omega)
  ·exact wW (by omega) x hx
theorem E9 {N:Nat}:∀{ns:List Nat} {p:Nat},p+uJ ns≤N→∀x∈rB p ns,Refs N x
 | [],_,_,x,hx=>by simp[rB]at hx
 | a::ns,p,hp,x,hx=>by
  have hp':p+(1+a+uJ ns)≤N:=hp;rcases List.mem_cons.1 hx with rfl | hx
  ·exact .own _ _ _ _ (by omega)
  ·exact E9 (by omega) x hx
theorem F0 {N:Nat}:∀{L:List (List (List Nat))} {p:Nat},p+uJ (lens L)≤N→∀b∈lay p L,∀x∈b.cells,Refs N x
 | [],_,_,b,hb=>by simp[lay]at hb
 | T::L,p,hp,b,hb=>by
  have hp':p+(1+T.length+uJ (lens L))≤N:=hp;rcases List.mem_cons.1 hb with rfl | hb
  ·exact wW (by omega)
  ·rcases List.mem_append.1 hb with hb | hb
   ·obtain ⟨r,_,rfl⟩:=List.mem_map.1 hb;exact (N9 r).refs _
   ·exact F0 (by omega) b hb
theorem F1 {H:c7}(hx:∀b∈l,∀x∈b.cells,Refs (H++l).length x):aE (H++l') (H++l):=fun β b hb=>by
 by_cases hβ:β<H.length
 ·rw[List.getElem?_append_left hβ]at hb;exact .inl (by rw[List.getElem?_append_left hβ];exact hb)
 ·rw[List.getElem?_append_right (by omega)]at hb;exact .inr (hx b (List.mem_of_getElem? hb))
theorem XH_refs (hl:∀b∈l,∀x∈b.cells,Refs (XH h L E l).length x):∀b∈[G0 (h.length+1) (lens L)]++(lay (h.length+1) L++(FF E::l)),∀x∈b.cells,Refs (XH h L E l).length x:=fun b hb=>by
 have hN:(XH h L E l).length=fP h L+1+l.length:=O8;have hP:fP h L=h.length+1+uJ (lens L):=rfl;rcases List.mem_append.1 hb with hb | hb
 ·obtain rfl:=List.mem_singleton.1 hb;exact E9 (by omega)
 ·rcases List.mem_append.1 hb with hb | hb
  ·exact F0 (by omega) b hb
  ·rcases List.mem_cons.1 hb with rfl | hb
   ·exact (N9 E).refs _
   ·exact hl b hb
theorem XH_keep (hl:∀b∈l,∀x∈b.cells,Refs (XH h L E l).length x):aE (h++l') (XH h L E l):=by
 have h1:=XH_refs (h:=h) (L:=L) (E:=E) hl;have e:XH h L E l=h++([G0 (h.length+1) (lens L)]++(lay (h.length+1) L++(FF E::l))):=by rw[XH,List.append_assoc]
 rw[e]at h1 ⊢;exact F1 h1
end
variable {u:Un}{c:Clo}{L:List (List (List Nat))}{E:List Nat}{i pc:Nat}
theorem MX {q:Nat}(ho:(eB u c i pc).op=2)(hq:iC c i pc=q)(h1:applyN ((L.getD i []).getD pc []) (E.getD i 0)<512)(h2:E.getD q 0<512):bits .andNot .i64 ((applyN ((L.getD i []).getD pc []) (E.getD i 0):Nat):Int) (((E.getD q 0:Nat)):Int)=0↔AtC u c L E i pc:=by subst hq;rw[wM h1 h2];exact ⟨fun h _=>h,fun h=>h ho⟩
theorem MY (ho:¬(eB u c i pc).op=2):AtC u c L E i pc:=fun h=>absurd h ho
variable {mx:Nat}
theorem atN_ix:(∃j,j<(p4 (eB u c i pc) pc).length∧(! decide (fO (s5 ((L.getD i []).getD pc []) (stS u c mx (exS u c mx L) i pc)) ((L.getD i []).getD ((p4 (eB u c i pc) pc).getD j 0).toNat [])))=true)↔¬AtN u c mx L i pc:=by
  constructor
  · rintro ⟨j,hj,hw⟩ h
    have h1:fO (s5 ((L.getD i []).getD pc []) (stS u c mx (exS u c mx L) i pc)) ((L.getD i []).getD ((p4 (eB u c i pc) pc).getD j 0).toNat []):=h _ (g8 (d:=0) hj);rw[decide_eq_true h1]at hw;cases hw
  · intro h
    refine Classical.byContradiction fun hn=>h fun q hq=>?_;obtain ⟨j,hj,rfl⟩:=List.getElem_of_mem hq;refine Classical.byContradiction fun hw=>hn ⟨j,hj,?_⟩;have e:(p4 (eB u c i pc) pc).getD j 0=(nxI u c i pc)[j]:=by simp[List.getD,nxI,show j<(p4 (eB u c i pc) pc).length from hj]
    rw[e,decide_eq_false hw];rfl
theorem clo_f (hp:pc<s4 u c i)(h:¬(AtC u c L E i pc∧AtN u c mx L i pc)):¬MS u c mx L E i:=fun hc=>h (hc.2 pc hp)
attribute [local go_sem] rd bJ r9 u7 r6 n7 l7 aK p7 Int.natCast_nonneg Int.natCast_inj aL dN cW dO gS iD qW jV bP mF tC eM kY kZ iE List.length_set List.length_replicate Int.toNat_natCast_add_one fF wrap64 sC List.length_map dH dP iR iS bP eH dQ jW jX dR dI p7 orN oI beq_self_eq_true bne_self_eq_false W3 yN nY Bool.not_not
variable {h:c7}
theorem MZ (hu:WU u)(wc:WC u c)(hmx:mx<u.c4.length)(hS:Shp u c mx L E)(hi:i<c.insts.length):CB 113 [.agg [.vec u.globals.length (g7 u.globals),.vec u.c4.length (g0 u.c4),.vec u.procs.length (j6 u.procs),.int .i64 u.main,.vec c.insts.length (l3 c.insts),.vec c.calls.length (l5 c.calls),.vec c.roots.length (g7 c.roots),.int .i64 ((mx:Nat):Int),.vec c.insts.length (u9 L),.vec c.insts.length (E.map j8)],.int .i64 ((i:Nat):Int)] h (.vec (c8 u (itI c i)).length (p8 (c8 u (itI c i)))):=by
  refine .bz Tryz.f113 18 ?_;have hwl:=wc.len;have hk8:kM u mx≤8:=eP;have hk9:nS (u.c4.getD mx w3)≤8:=hk8;have hml:=hu.ml;have hrl:=wc.rl;have hrc:c.roots.length≤c.insts.length:=by have:=u4 wc.rs wc.rr;omega
  have hcl:=wc.cl;have hLl:=hS.len;have hEl:=hS.es.1;have w:=cB wc hi;have w1:=w.lo;have w2:=w.hi;have hsz:(c8 u (itI c i)).length≤1664:=n6 hu w;have hcll:(c.calls.getD i []).length=(c8 u (itI c i)).length:=wc.cll i hi;have hlI:s4 u c i=(c8 u (itI c i)).length:=rfl;have hT:=hS.tb i hi;have hTl:(L.getD i []).length=s4 u c i:=hT.1;have hlp:1≤(c8 u (itI c i)).length:=(bN hu w).1;refine .z ?_;refine .ss u6 (mkP 14 [0,1,3,0,8,24,0,120,248,504,1023,2047,4095,8191] []) ?_;refine c38z ?_;exact .ret (.ex (hq:=by rfl))
theorem c_gexit (hu:WU u)(wc:WC u c)(hmx:mx<u.c4.length)(hS:Shp u c mx L E)(hi:i<c.insts.length):CB 150 [.agg [.vec u.globals.length (g7 u.globals),.vec u.c4.length (g0 u.c4),.vec u.procs.length (j6 u.procs),.int .i64 u.main,.vec c.insts.length (l3 c.insts),.vec c.calls.length (l5 c.calls),.vec c.roots.length (g7 c.roots),.int .i64 ((mx:Nat):Int),.vec c.insts.length (u9 L),.vec c.insts.length (E.map j8)],.int .i64 ((i:Nat):Int)] h (bJ (wQ u c mx i (L.getD i []) (s4 u c i))):=by
  refine .bz Tryz.f150 43 ?_;have hwl:=wc.len;have hk8:kM u mx≤8:=eP;have hk9:nS (u.c4.getD mx w3)≤8:=hk8;have hml:=hu.ml;have hrl:=wc.rl;have hrc:c.roots.length≤c.insts.length:=by have:=u4 wc.rs wc.rr;omega
  have hcl:=wc.cl;have hLl:=hS.len;have hEl:=hS.es.1;have w:=cB wc hi;have w1:=w.lo;have w2:=w.hi;have hsz:(c8 u (itI c i)).length≤1664:=n6 hu w;have hcll:(c.calls.getD i []).length=(c8 u (itI c i)).length:=wc.cll i hi;have hlI:s4 u c i=(c8 u (itI c i)).length:=rfl;have hT:=hS.tb i hi;have hTl:(L.getD i []).length=s4 u c i:=hT.1;have hlp:1≤(c8 u (itI c i)).length:=(bN hu w).1;refine c68z ?_;refine .e 7 ?_;refine .ca rfl rfl (MG u mx) ?_;refine c32z ?_;refine .c6 [1,2,5] ?_;refine c9.UJ (t:=5) (γ:=(h.length+1)) (len:=(kM u mx+1)) t34 (by simp) (by omega) (kC (by decide) rfl) ?_;rw[bC];simp only[o4,List.set_cons_succ,List.set_cons_zero];generalize (⟨0,false,3,1,(List.replicate (kM u mx+1) 0).map j8,kM u mx+1⟩:Blk)=Vb;refine c159z ?_;refine c141z ?_;refine .aB (fun m st=>∃(j:Nat),(m=s4 u c i-j∧(j≤s4 u c i))∧st=⟨mkS 43 [(1,AV.int .i64 ((i:Nat):Int)),(2,AV.ptr h.length 0 0),(5,bJ (wQ u c mx i (L.getD i []) j)),(20,AV.vec (c8 u (itI c i)).length (p8 (c8 u (itI c i)))),(21,AV.int .i64 (((c8 u (itI c i)).length:Nat):Int)),(22,AV.int .i64 ((j:Nat):Int))],h++[⟨0,false,114,10,[.vec u.globals.length (g7 u.globals),.vec u.c4.length (g0 u.c4),.vec u.procs.length (j6 u.procs),.int .i64 u.main,.vec c.insts.length (l3 c.insts),.vec c.calls.length (l5 c.calls),.vec c.roots.length (g7 c.roots),.int .i64 ((mx:Nat):Int),.vec c.insts.length (u9 L),.vec c.insts.length (E.map j8)],0⟩,Vb]⟩) (.v ⟨0,⟨rfl,by omega⟩,rfl⟩ (hs:=t26)) ?_;rintro m sl h' ⟨j,⟨hm,hj⟩,hst⟩;obtain ⟨rfl,rfl⟩:=St.mk.inj hst;clear hst;have hop:(eB u c i j).op=((c8 u (itI c i)).getD j g6).op:=rfl;refine c22z ?_;refine u2z ?_ ?_
  ·intro e1 qe1;refine c73z ?_;refine .z ?_;refine u2z ?_ ?_
   ·intro e2 qe2;refine .c6 [1,2,5,6,20,21,22] ?_;have hTj:=hT.get (i:=j) (by omega);have hEj:=lY (u:=u) (c:=c) (m:=mx) i (L.getD i []) j;refine c87z ?_;refine .e 2 ?_;refine .ca rfl rfl (c_union _ _ (hTj.lt hk8) (hEj.lt hk8) t214 t166) ?_;refine c28z ?_;refine .c6 [1,2,5,20,21,22] ?_;refine .rz ?_;exact ⟨_,by omega,.v ⟨(j+1),⟨rfl,by omega⟩,rfl⟩ (he:=t23) (hs:=t26)⟩
   intro e2 qe2;refine c4z ?_;refine .c6 [1,2,5,20,21,22] ?_;refine .rz ?_;exact ⟨_,by omega,.v ⟨(j+1),⟨rfl,by omega⟩,rfl⟩ (he:=t23) (hs:=t26)⟩
  intro e1 qe1;refine .exit ?_;obtain rfl:j=s4 u c i:=by omega
  change c9 ..;refine .z ?_;exact .ret (.ex (hq:=by rfl))
theorem NA (hu:WU u)(wc:WC u c)(hmx:mx<u.c4.length)(hS:Shp u c mx L E)(hi:i<c.insts.length){n:Nat}(hn:(L.getD i []).length=n):CB 122 [.agg [.vec u.globals.length (g7 u.globals),.vec u.c4.length (g0 u.c4),.vec u.procs.length (j6 u.procs),.int .i64 u.main],.agg [.vec c.insts.length (l3 c.insts),.vec c.calls.length (l5 c.calls),.vec c.roots.length (g7 c.roots)],.int .i64 ((mx:Nat):Int),.vec n (s6 (L.getD i [])),.int .i64 ((i:Nat):Int)] h (bJ (wQ u c mx i (L.getD i []) (s4 u c i))):=by
  refine .bz Tryz.f122 50 ?_;have hwl:=wc.len;have hk8:kM u mx≤8:=eP;have hk9:nS (u.c4.getD mx w3)≤8:=hk8;have hml:=hu.ml;have hrl:=wc.rl;have hrc:c.roots.length≤c.insts.length:=by have:=u4 wc.rs wc.rr;omega
  have hcl:=wc.cl;have hLl:=hS.len;have hEl:=hS.es.1;have w:=cB wc hi;have w1:=w.lo;have w2:=w.hi;have hsz:(c8 u (itI c i)).length≤1664:=n6 hu w;have hcll:(c.calls.getD i []).length=(c8 u (itI c i)).length:=wc.cll i hi;have hlI:s4 u c i=(c8 u (itI c i)).length:=rfl;have hT:=hS.tb i hi;have hTl:(L.getD i []).length=s4 u c i:=hT.1;have hlp:1≤(c8 u (itI c i)).length:=(bN hu w).1;refine .z ?_;refine c150z ?_;refine c32z ?_;refine .c6 [3,4,5,6,11] ?_;refine c9.UJ (t:=11) (γ:=(h.length+2)) (len:=(kM u mx+1)) t34 (by simp) (by omega) (kC (by decide) rfl) ?_;rw[bC];simp only[o4,List.set_cons_succ,List.set_cons_zero];generalize (⟨0,false,3,1,(List.replicate (kM u mx+1) 0).map j8,kM u mx+1⟩:Blk)=Vb;refine c14z ?_;refine .aB (fun m st=>∃(j:Nat),(m=s4 u c i-j∧(j≤s4 u c i))∧st=⟨mkS 50 [(3,AV.vec n (s6 (L.getD i []))),(4,AV.int .i64 ((i:Nat):Int)),(5,AV.ptr h.length 0 0),(6,AV.ptr (h.length+1) 0 0),(11,bJ (wQ u c mx i (L.getD i []) j)),(12,AV.int .i64 ((j:Nat):Int))],h++[⟨0,false,30,4,[.vec u.globals.length (g7 u.globals),.vec u.c4.length (g0 u.c4),.vec u.procs.length (j6 u.procs),.int .i64 u.main],0⟩,⟨0,false,34,3,[.vec c.insts.length (l3 c.insts),.vec c.calls.length (l5 c.calls),.vec c.roots.length (g7 c.roots)],0⟩,Vb]⟩) (.v ⟨0,⟨rfl,by omega⟩,rfl⟩ (hs:=t26)) ?_;rintro m sl h' ⟨j,⟨hm,hj⟩,hst⟩;obtain ⟨rfl,rfl⟩:=St.mk.inj hst;clear hst;have hop:(eB u c i j).op=((c8 u (itI c i)).getD j g6).op:=rfl;refine c1z ?_;refine u2z ?_ ?_
  ·intro e1 qe1;refine c3z ?_;refine c47z ?_;refine u2z ?_ ?_
   ·intro e2 qe2;refine .c6 [3,4,5,6,11,12] ?_;have hTj:=hT.get (i:=j) (by omega);have hEj:=lY (u:=u) (c:=c) (m:=mx) i (L.getD i []) j;refine .r ?_;refine .e 5 ?_;refine c164z ?_;refine .rz ?_;exact ⟨_,by omega,.v ⟨(j+1),⟨rfl,by omega⟩,rfl⟩ (he:=t23) (hs:=t26)⟩
   intro e2 qe2;refine c4z ?_;refine .c6 [3,4,5,6,11,12] ?_;refine .rz ?_;exact ⟨_,by omega,.v ⟨(j+1),⟨rfl,by omega⟩,rfl⟩ (he:=t23) (hs:=t26)⟩
  intro e1 qe1;refine .exit ?_;obtain rfl:j=s4 u c i:=by omega
  change c9 ..;refine .c6 [11] ?_;refine .z ?_;exact .ret (.ex (hq:=by rfl))
theorem YK (hu:WU u)(wc:WC u c)(hmx:mx<u.c4.length){b0:Blk}{x:Nat}(hx:x<2^(kM u mx+1))(l:c7):CB 112 [.int .i64 ((x:Nat):Int),.ptr (h.length+1) 0 0] (h++(b0::⟨0,false,3,1,[.int .i64 ((kM u mx:Nat):Int)],0⟩::l)) (.bool false):=by refine .bz Tryz.f112 9 ?_;have hwl:=wc.len;have hk8:kM u mx≤8:=eP;have hk9:nS (u.c4.getD mx w3)≤8:=hk8;have hml:=hu.ml;have hz:=MO hk8 hx;refine c189z ?_;refine .ca rfl rfl (MQ hk8) ?_;refine .n ?_;exact .ret (.ex (hq:=by (exact congrArg AV.bool (by rw[hz];rfl))))
theorem c_gsh2 (hu:WU u)(wc:WC u c)(hmx:mx<u.c4.length){b0:Blk}{r:List Nat}(hr:Rl (kM u mx) r)(l:c7):CB 115 [bJ r,.ptr (h.length+1) 0 0,.ptr (h.length+2) 0 0] (h++(b0::⟨0,false,3,1,[.int .i64 ((kM u mx:Nat):Int)],0⟩::⟨0,false,115,1,[.fn (.func 112) [] [.ptr (h.length+1) 0 0]],0⟩::l)) (.bool false):=by
  refine .bz Tryz.f115 15 ?_;have hwl:=wc.len;have hk8:kM u mx≤8:=eP;have hk9:nS (u.c4.getD mx w3)≤8:=hk8;have hml:=hu.ml;have hrl2:r.length=kM u mx+1:=hr.1;refine c68z ?_;refine .e 6 ?_;refine .spl 10 rfl rfl (fun e1=>by exfalso;have q:=fact e1;omega) (fun e1=>?_);try simp only[e1]
  have qe1:=fact e1;refine .k 2 [(5,10)] ?_;refine .ca rfl rfl (c_cfR rfl (by omega) (fun j hj=>YK hu wc hmx (jT hr.2 j) _)) ?_;refine .n ?_;exact .ret (.ex (hq:=by rfl))
theorem NB (hu:WU u)(wc:WC u c)(hmx:mx<u.c4.length)(hS:Shp u c mx L E)(hi:i<c.insts.length):CB 71 [.agg [.vec u.globals.length (g7 u.globals),.vec u.c4.length (g0 u.c4),.vec u.procs.length (j6 u.procs),.int .i64 u.main,.vec c.insts.length (l3 c.insts),.vec c.calls.length (l5 c.calls),.vec c.roots.length (g7 c.roots),.int .i64 ((mx:Nat):Int),.vec c.insts.length (u9 L),.vec c.insts.length (E.map j8)],.int .i64 ((i:Nat):Int)] h (.bool true):=by
  refine .bz Tryz.f71 47 ?_;have hwl:=wc.len;have hk8:kM u mx≤8:=eP;have hk9:nS (u.c4.getD mx w3)≤8:=hk8;have hml:=hu.ml;have hrl:=wc.rl;have hrc:c.roots.length≤c.insts.length:=by have:=u4 wc.rs wc.rr;omega
  have hcl:=wc.cl;have hLl:=hS.len;have hEl:=hS.es.1;have w:=cB wc hi;have w1:=w.lo;have w2:=w.hi;have hsz:(c8 u (itI c i)).length≤1664:=n6 hu w;have hcll:(c.calls.getD i []).length=(c8 u (itI c i)).length:=wc.cll i hi;have hlI:s4 u c i=(c8 u (itI c i)).length:=rfl;have hT:=hS.tb i hi;have hTl:(L.getD i []).length=s4 u c i:=hT.1;have hlp:1≤(c8 u (itI c i)).length:=(bN hu w).1;refine c68z ?_;refine .e 7 ?_;refine .ca rfl rfl (MG u mx) ?_;refine .n ?_;refine .c6 [1,2,5] ?_;refine c22z ?_;refine .ss u6 (mkP 22 [0,1,3,0,15,31,63,0,0,384,896,2047,4095,8191,8191,24575,57343,8191,253951,516095,1048575,2097151] []) ?_;refine .k 8 [] ?_;refine .k 1 [] ?_;refine .ca rfl rfl (MZ hu wc hmx hS hi) ?_;refine .k 3 [] ?_;refine .spl 28 rfl rfl (fun e1=>by exfalso;have q:=fact e1;omega) (fun e1=>?_);try simp only[e1]
  have qe1:=fact e1;refine .k 7 [(12,28)] ?_;refine jH.cq rfl (rfl) hb112 (YK hu wc hmx (hS.es.get i) _) ?_;refine .n [] ?_;refine c19z ?_;refine .c6 [1,2,5,6] ?_;refine .s ?_;refine .e 7 ?_;refine .ca rfl rfl (c_cfT rfl (by omega) (fun j hj=>c_gsh2 hu wc hmx (hT.get (by omega)) [])) ?_;refine .n ?_;exact .ret (.ex (hq:=by rfl))
theorem YL (hu:WU u)(wc:WC u c)(hmx:mx<u.c4.length)(hS:Shp u c mx L E)(hi:i<c.insts.length){a:List Nat}(ha:Rl (kM u mx) a){q:Int}(hq1:0≤q)(hq2:q.toNat<s4 u c i)(l:c7):CB 151 [.int .i64 q,.ptr (h.length+2) 0 0,.ptr h.length 0 0,.ptr (h.length+1) 0 0] (h++(⟨0,false,114,10,[.vec u.globals.length (g7 u.globals),.vec u.c4.length (g0 u.c4),.vec u.procs.length (j6 u.procs),.int .i64 u.main,.vec c.insts.length (l3 c.insts),.vec c.calls.length (l5 c.calls),.vec c.roots.length (g7 c.roots),.int .i64 ((mx:Nat):Int),.vec c.insts.length (u9 L),.vec c.insts.length (E.map j8)],0⟩::⟨0,false,3,1,[.int .i64 ((i:Nat):Int)],0⟩::⟨0,false,22,1,[bJ a],0⟩::l)) (.bool (! decide (fO a ((L.getD i []).getD q.toNat [])))):=by
  refine .bz Tryz.f151 18 ?_;have hwl:=wc.len;have hk8:kM u mx≤8:=eP;have hk9:nS (u.c4.getD mx w3)≤8:=hk8;have hml:=hu.ml;have hrl:=wc.rl;have hrc:c.roots.length≤c.insts.length:=by have:=u4 wc.rs wc.rr;omega
  have hcl:=wc.cl;have hLl:=hS.len;have hEl:=hS.es.1;have w:=cB wc hi;have w1:=w.lo;have w2:=w.hi;have hsz:(c8 u (itI c i)).length≤1664:=n6 hu w;have hcll:(c.calls.getD i []).length=(c8 u (itI c i)).length:=wc.cll i hi;have hlI:s4 u c i=(c8 u (itI c i)).length:=rfl;have hT:=hS.tb i hi;have hTl:(L.getD i []).length=s4 u c i:=hT.1;have hlp:1≤(c8 u (itI c i)).length:=(bN hu w).1;have hTq:=hT.get hq2;refine .z ?_;refine .ss u6 (mkP 13 [0,0,2,6,0,30,62,0,254,510,1023,2047,4095] []) ?_;refine .k 8 [] ?_;refine .k 2 [] ?_;refine .ca rfl rfl (O0 _ _ (by have:=ha.1;omega) (by have:=ha.1;have:=hTq.1;omega)) ?_;refine .n [] ?_;exact .ret (.ex (hq:=by rfl))
variable {caps:List AV}
theorem c_gix {X:List Int}(hl:X.length<100000){p:Nat→Bool}(hF:∀j,j<X.length→CB 151 (.int .i64 (X.getD j 0)::caps) h (.bool (p j))):CB 148 [.vec X.length (g7 X),.fn (.func 151) [] caps] h (.int .i64 (ixB p X.length)):=by
  refine .bz Tryz.f148 19 ?_;refine c18z ?_;refine .w7 (fun m st=>∃(i:Nat),(m=X.length-i∧((∀d,d<i→p d=false)∧i≤X.length))∧st=⟨mkS 19 [(0,AV.vec X.length (g7 X)),(1,AV.fn (.func 151) [] caps),(7,AV.int .i64 ((X.length:Nat):Int)),(8,AV.int .i64 ((i:Nat):Int))],h⟩) _ (.v ⟨0,⟨rfl,⟨t88,by omega⟩⟩,rfl⟩) ?_;rintro m sl h' ⟨i,⟨hm,⟨hI,hi0⟩⟩,hst⟩;obtain ⟨rfl,rfl⟩:=St.mk.inj hst;refine c22z ?_;refine u2z ?_ ?_
  ·intro e1 qe1;refine c73z ?_;refine c25z ?_;refine o1.cq rfl (rfl) hb151 (hF _ (by omega)) ?_;refine .nil ?_;refine u2z ?_ ?_
   ·intro e2 qe2;refine .c6 [5] ?_;refine c27z ?_;exact ⟨[],_,(List.append_nil _).symm,t41,t173⟩
   intro e2 qe2;refine c4z ?_;refine c194z ?_;exact ⟨_,by omega,.v ⟨(i+1),⟨rfl,⟨(fun d hd=>if e:d=i then by rw[e];assumption else hI d (by omega)),by omega⟩⟩,rfl⟩⟩
  intro e1 qe1;refine c65z ?_;exact ⟨[],_,(List.append_nil _).symm,t41,t173⟩
theorem c_gcf {X:List Int}(hl:X.length<100000){p:Nat→Bool}(hF:∀j,j<X.length→CB 151 (.int .i64 (X.getD j 0)::caps) h (.bool (p j))):CB 116 [.vec X.length (g7 X),.fn (.func 151) [] caps] h (.bool (dcd (∃j,j<X.length∧p j=true))):=by refine .bz Tryz.f116 9 ?_;refine c189z ?_;refine .ca rfl rfl (c_gix hl hF) ?_;refine c114z ?_;exact ⟨[],_,(List.append_nil _).symm,t41,by (exact congrArg AV.bool (by rw[dcd_eq.symm];exact congrArg dcd (propext ixB_iff)))⟩
theorem c_gat (hu:WU u)(wc:WC u c)(hmx:mx<u.c4.length)(hS:Shp u c mx L E)(hi:i<c.insts.length)(hp:pc<s4 u c i):CB 119 [.agg [.vec u.globals.length (g7 u.globals),.vec u.c4.length (g0 u.c4),.vec u.procs.length (j6 u.procs),.int .i64 u.main,.vec c.insts.length (l3 c.insts),.vec c.calls.length (l5 c.calls),.vec c.roots.length (g7 c.roots),.int .i64 ((mx:Nat):Int),.vec c.insts.length (u9 L),.vec c.insts.length (E.map j8)],.int .i64 ((i:Nat):Int),.int .i64 ((pc:Nat):Int)] h (.bool (dcd (AtC u c L E i pc∧AtN u c mx L i pc))):=by
  refine .bz Tryz.f119 90 ?_;have hwl:=wc.len;have hk8:kM u mx≤8:=eP;have hk9:nS (u.c4.getD mx w3)≤8:=hk8;have hml:=hu.ml;have hrl:=wc.rl;have hrc:c.roots.length≤c.insts.length:=by have:=u4 wc.rs wc.rr;omega
  have hcl:=wc.cl;have hLl:=hS.len;have hEl:=hS.es.1;have w:=cB wc hi;have w1:=w.lo;have w2:=w.hi;have hsz:(c8 u (itI c i)).length≤1664:=n6 hu w;have hcll:(c.calls.getD i []).length=(c8 u (itI c i)).length:=wc.cll i hi;have hlI:s4 u c i=(c8 u (itI c i)).length:=rfl;have hT:=hS.tb i hi;have hTl:(L.getD i []).length=s4 u c i:=hT.1;have hlp:1≤(c8 u (itI c i)).length:=(bN hu w).1;have hpro:=V6 (m:=mx) hu wc (oK L) hi;have hst1:=hpro.st pc hp;have hop:eB u c i pc=(c8 u (itI c i)).getD pc g6:=rfl;have hTp:=hT.get hp;have hcall:(eB u c i pc).op=2→0≤(c.calls.getD i []).getD pc 0∧(c.calls.getD i []).getD pc 0<c.insts.length:=fun ho=>by have:=(wc.call i hi pc hp).1 (.inl ho);exact ⟨this.1,this.2.1⟩
  have hnl:=kV (x:=(c8 u (itI c i)).getD pc g6) (pc:=pc);have hap:applyN ((L.getD i []).getD pc []) (E.getD i 0)<512:=Nat.lt_of_lt_of_le (iQ hTp _) (jE hk8).2;refine .z ?_;refine .ss u6 (mkP 13 [0,1,0,4,12,0,60,124,0,0,512,2047,4095] []) ?_;refine c204z ?_;refine .ca rfl rfl (c_relN hu wc hmx hi hp) ?_;refine .n [] ?_;refine .seq ?_;refine .c6 [2,3,4,7] ?_;refine c159z ?_;refine .n ?_;refine u2z ?_ ?_
  ·intro e1 qe1;refine .c6 [2,3,4] ?_;have hop2:(eB u c i pc).op=2:=by rw[hop];omega
   obtain ⟨hc1,hc2⟩:=hcall hop2;obtain ⟨q,hqe⟩:∃q:Nat,(c.calls.getD i []).getD pc 0=(q:Int):=⟨_,(Int.toNat_of_nonneg hc1).symm⟩;have hqc:iC c i pc=q:=by unfold iC;rw[hqe];rfl
   have hc3:=hc1;have hc4:=hc2;rw[hqe]at hc3 hc4;have hq3:q<c.insts.length:=by omega
   have hTq:=hS.tb q hq3;have hTql:(L.getD q []).length=s4 u c q:=hTq.1;have hz:=MX (E:=E) (L:=L) hop2 hqc hap (hS.es.lt _ (g8 (by omega)));refine c123z ?_;refine .c6 [2,3,4,8] ?_;rw[hqe];refine c16z ?_;refine .ca rfl rfl (c_gexit hu wc hmx hS hq3) ?_;refine .n ?_;refine .ss u6 (mkP 24 [0,1,3,0,15,31,0,127,255,0,512,1536,0,7680,15872,32767,0,65536,196608,0,983040,2031616,4194303,8388607] []) ?_;refine .k 8 [] ?_;refine .k 7 [] ?_;refine .ca rfl rfl (D8 _ _ (hTp.lt hk8) (hS.es.lt _ (g8 (by omega))) t104) ?_;refine .n [] ?_;refine u2z ?_ ?_
   ·intro e2 qe2;refine c10z ?_;exact .ret (.ex (hq:=t44))
   intro e2 qe2;refine .sk ?_;refine .c6 [2,3,4,7] ?_;have hst2:wQ u c mx q (L.getD q []) (s4 u c q)=(stS u c mx (exS u c mx L) i pc):=by unfold stS;rw[if_pos (show (eB u c i pc).op=2 from by rw[hop];omega)];first | done | rfl | (rw[hqc,pC hq3])
   rw[hst2];refine c45z ?_;refine .e 2 ?_;refine .ca rfl rfl (XX _ _ (hst1.lt hk8) t136 (hTp.lt hk8) t104) ?_;refine .n ?_;refine .c6 [2,3,4,9] ?_;refine .ss u6 (mkP 14 [0,1,0,4,12,0,60,124,0,511,0,2047,4095,8191] []) ?_;refine .k 8 [] ?_;refine .k 1 [] ?_;refine .ca rfl rfl (MF hu w (show pc<(c8 u (itI c i)).length by omega)) ?_;refine .k 1 [] ?_;refine .ca rfl rfl (c_gcf (by omega) (fun j hj=>YL hu wc hmx hS hi (eU hTp hst1) (hpro.nx pc hp _ (g8 (d:=0) hj)).1 (by have:=hpro.nx pc hp _ (g8 (d:=0) hj);omega) [])) ?_;refine .n [] ?_;exact .ret (.ex (hq:=t44))
  intro e1 qe1;refine .sk ?_;refine .c6 [2,3,4,7] ?_;have hst2:dhN (kM u mx) (chI (itI c i) (eB u c i pc) mx)=(stS u c mx (exS u c mx L) i pc):=by unfold stS;rw[if_neg (show ¬(eB u c i pc).op=2 from by rw[hop];omega)];first | done | rfl | (rw[hqc,pC hq3])
  rw[hst2];refine c45z ?_;refine .e 2 ?_;refine .ca rfl rfl (XX _ _ (hst1.lt hk8) t136 (hTp.lt hk8) t104) ?_;refine .n ?_;refine .c6 [2,3,4,9] ?_;refine .ss u6 (mkP 14 [0,1,0,4,12,0,60,124,0,511,0,2047,4095,8191] []) ?_;refine .k 8 [] ?_;refine .k 1 [] ?_;refine .ca rfl rfl (MF hu w (show pc<(c8 u (itI c i)).length by omega)) ?_;refine .k 1 [] ?_;refine .ca rfl rfl (c_gcf (by omega) (fun j hj=>YL hu wc hmx hS hi (eU hTp hst1) (hpro.nx pc hp _ (g8 (d:=0) hj)).1 (by have:=hpro.nx pc hp _ (g8 (d:=0) hj);omega) [])) ?_;refine .n [] ?_;exact .ret (.ex (hq:=t44))
theorem NC (hu:WU u)(wc:WC u c)(hmx:mx<u.c4.length)(hS:Shp u c mx L E)(hi:i<c.insts.length):CB 72 [.agg [.vec u.globals.length (g7 u.globals),.vec u.c4.length (g0 u.c4),.vec u.procs.length (j6 u.procs),.int .i64 u.main,.vec c.insts.length (l3 c.insts),.vec c.calls.length (l5 c.calls),.vec c.roots.length (g7 c.roots),.int .i64 ((mx:Nat):Int),.vec c.insts.length (u9 L),.vec c.insts.length (E.map j8)],.int .i64 ((i:Nat):Int)] h (.bool (dcd (MS u c mx L E i))):=by
  refine .bz Tryz.f72 53 ?_;have hwl:=wc.len;have hk8:kM u mx≤8:=eP;have hk9:nS (u.c4.getD mx w3)≤8:=hk8;have hml:=hu.ml;have hrl:=wc.rl;have hrc:c.roots.length≤c.insts.length:=by have:=u4 wc.rs wc.rr;omega
  have hcl:=wc.cl;have hLl:=hS.len;have hEl:=hS.es.1;have w:=cB wc hi;have w1:=w.lo;have w2:=w.hi;have hsz:(c8 u (itI c i)).length≤1664:=n6 hu w;have hcll:(c.calls.getD i []).length=(c8 u (itI c i)).length:=wc.cll i hi;have hlI:s4 u c i=(c8 u (itI c i)).length:=rfl;have hT:=hS.tb i hi;have hTl:(L.getD i []).length=s4 u c i:=hT.1;have hlp:1≤(c8 u (itI c i)).length:=(bN hu w).1;have hT0:=hT.get (i:=0) (by omega);have hE5:E.getD i 0<512:=hS.es.lt _ (g8 (by omega));have hmu:=CD hE5;refine c22z ?_;refine .ss u6 (mkP 19 [0,1,3,0,8,31,63,127,255,0,512,1536,0,7680,15872,32256,65024,131071,262143] []) ?_;refine .k 7 [] ?_;refine .ca rfl rfl (MG u mx) ?_;refine .ca rfl rfl (c_idN _ hk8) ?_;refine .k 8 [] ?_;refine .ca rfl rfl (O0 _ _ (by rw[N5];omega) (by rw[N5];exact hT0.1)) ?_;refine .n [] ?_;refine u2z ?_ ?_
  ·intro e1 qe1;refine c10z ?_;exact .ret (.ex (hq:=t22))
  intro e1 qe1;refine c117z ?_;refine .c6 [1,2] ?_;refine c29z ?_;refine .ca rfl rfl (FE (by omega) _) ?_;refine .e 1 ?_;refine .spl 30 rfl rfl (fun e2=>?_) (fun e2=>?_)
  ·try simp only[e2]
   have qe2:=fact e2;refine .k 8 [(5,30)] ?_;refine .n ?_;refine u2z ?_ ?_
   ·intro e3 qe3;refine c10z ?_;exact .ret (.ex (hq:=t22))
   intro e3 qe3;refine c117z ?_;refine .c6 [1,2] ?_;refine c159z ?_;refine c141z ?_;refine .w7 (fun m st=>∃(j:Nat),(m=s4 u c i-j∧((∀p,p<j→AtC u c L E i p∧AtN u c mx L i p)∧j≤s4 u c i))∧st=⟨mkS 53 [(1,AV.int .i64 ((i:Nat):Int)),(2,AV.ptr h.length 0 0),(43,AV.int .i64 (((c8 u (itI c i)).length:Nat):Int)),(44,AV.int .i64 ((j:Nat):Int))],h++[⟨0,false,114,10,[.vec u.globals.length (g7 u.globals),.vec u.c4.length (g0 u.c4),.vec u.procs.length (j6 u.procs),.int .i64 u.main,.vec c.insts.length (l3 c.insts),.vec c.calls.length (l5 c.calls),.vec c.roots.length (g7 c.roots),.int .i64 ((mx:Nat):Int),.vec c.insts.length (u9 L),.vec c.insts.length (E.map j8)],0⟩]⟩) _ (.v ⟨0,⟨rfl,⟨by intro p hp;omega,by omega⟩⟩,rfl⟩) ?_;rintro m sl h' ⟨j,⟨hm,⟨hI,hj⟩⟩,hst⟩;obtain ⟨rfl,rfl⟩:=St.mk.inj hst;refine c22z ?_;refine u2z ?_ ?_
   ·intro e4 qe4;refine c73z ?_;refine c15z ?_;refine .ca rfl rfl (c_gat hu wc hmx hS hi (show j<s4 u c i by omega)) ?_;refine .n ?_;refine u2z ?_ ?_
    ·intro e5 qe5;refine c10z ?_;exact .ret (.ex (hq:=t22))
    intro e5 qe5;refine c4z ?_;refine .c6 [1,2,43,44] ?_;refine .rz ?_;exact ⟨_,by omega,.v ⟨(j+1),⟨rfl,⟨(fun p hp=>if e:p=j then by rw[e];exact sD.1 (by assumption) else hI p (by omega)),by omega⟩⟩,rfl⟩⟩
   intro e4 qe4;refine c6z ?_;refine .z ?_;exact .ret (.ex (hq:=t22))
  try simp only[e2]
  have qe2:=fact e2;refine .k 8 [(5,30)] ?_;refine .n ?_;refine c69z ?_;refine .c6 [1,2] ?_;refine c159z ?_;refine c141z ?_;refine .w7 (fun m st=>∃(j:Nat),(m=s4 u c i-j∧((∀p,p<j→AtC u c L E i p∧AtN u c mx L i p)∧j≤s4 u c i))∧st=⟨mkS 53 [(1,AV.int .i64 ((i:Nat):Int)),(2,AV.ptr h.length 0 0),(43,AV.int .i64 (((c8 u (itI c i)).length:Nat):Int)),(44,AV.int .i64 ((j:Nat):Int))],h++[⟨0,false,114,10,[.vec u.globals.length (g7 u.globals),.vec u.c4.length (g0 u.c4),.vec u.procs.length (j6 u.procs),.int .i64 u.main,.vec c.insts.length (l3 c.insts),.vec c.calls.length (l5 c.calls),.vec c.roots.length (g7 c.roots),.int .i64 ((mx:Nat):Int),.vec c.insts.length (u9 L),.vec c.insts.length (E.map j8)],0⟩]⟩) _ (.v ⟨0,⟨rfl,⟨by intro p hp;omega,by omega⟩⟩,rfl⟩) ?_;rintro m sl h' ⟨j,⟨hm,⟨hI,hj⟩⟩,hst⟩;obtain ⟨rfl,rfl⟩:=St.mk.inj hst;refine c22z ?_;refine u2z ?_ ?_
  ·intro e6 qe6;refine c73z ?_;refine c15z ?_;refine .ca rfl rfl (c_gat hu wc hmx hS hi (show j<s4 u c i by omega)) ?_;refine .n ?_;refine u2z ?_ ?_
   ·intro e7 qe7;refine c10z ?_;exact .ret (.ex (hq:=t22))
   intro e7 qe7;refine c4z ?_;refine .c6 [1,2,43,44] ?_;refine .rz ?_;exact ⟨_,by omega,.v ⟨(j+1),⟨rfl,⟨(fun p hp=>if e:p=j then by rw[e];exact sD.1 (by assumption) else hI p (by omega)),by omega⟩⟩,rfl⟩⟩
  intro e6 qe6;refine c6z ?_;refine .z ?_;exact .ret (.ex (hq:=t22))
theorem UY (hu:WU u)(wc:WC u c)(hmx:mx<u.c4.length)(hS:Shp u c mx L E):CB 39 [.agg [.vec u.globals.length (g7 u.globals),.vec u.c4.length (g0 u.c4),.vec u.procs.length (j6 u.procs),.int .i64 u.main],.agg [.vec c.insts.length (l3 c.insts),.vec c.calls.length (l5 c.calls),.vec c.roots.length (g7 c.roots)],.int .i64 ((mx:Nat):Int),.vec c.insts.length (u9 L),.vec c.insts.length (E.map j8)] h (.tup [.int .i64 ((F9 u c mx L E:Nat):Int),.int .i64 (FL (c.insts.length:Int) 12 (F9 u c mx L E))]):=by
  refine .bz Tryz.f39 60 ?_;have hwl:=wc.len;have hk8:kM u mx≤8:=eP;have hk9:nS (u.c4.getD mx w3)≤8:=hk8;have hml:=hu.ml;have hrl:=wc.rl;have hrc:c.roots.length≤c.insts.length:=by have:=u4 wc.rs wc.rr;omega
  have hcl:=wc.cl;have hLl:=hS.len;have hEl:=hS.es.1;refine c22z ?_;refine .s ?_;refine .k 8 [(6,21)] ?_;refine .m [(6,21)] ?_;refine c19z ?_;refine .c6 [2,3,4,5,6] ?_;refine c251z ?_;refine .c6 [3,12] ?_;refine c14z ?_;refine .w7 (fun m st=>∃(i:Nat),(m=c.insts.length-i∧(i≤c.insts.length))∧st=⟨mkS 60 [(3,AV.vec c.insts.length (u9 L)),(12,AV.ptr (h.length+2) 0 0),(37,AV.int .i64 ((c.insts.length:Nat):Int)),(38,AV.int .i64 ((i:Nat):Int))],h++[⟨0,false,30,4,[.vec u.globals.length (g7 u.globals),.vec u.c4.length (g0 u.c4),.vec u.procs.length (j6 u.procs),.int .i64 u.main],0⟩,⟨0,false,34,3,[.vec c.insts.length (l3 c.insts),.vec c.calls.length (l5 c.calls),.vec c.roots.length (g7 c.roots)],0⟩,⟨0,false,114,10,[.vec u.globals.length (g7 u.globals),.vec u.c4.length (g0 u.c4),.vec u.procs.length (j6 u.procs),.int .i64 u.main,.vec c.insts.length (l3 c.insts),.vec c.calls.length (l5 c.calls),.vec c.roots.length (g7 c.roots),.int .i64 ((mx:Nat):Int),.vec c.insts.length (u9 L),.vec c.insts.length (E.map j8)],0⟩]⟩) _ (.v ⟨0,⟨rfl,by omega⟩,rfl⟩) ?_;rintro m sl h' ⟨i,⟨hm,hi0⟩,hst⟩;obtain ⟨rfl,rfl⟩:=St.mk.inj hst;refine c22z ?_;refine u2z ?_ ?_
  ·intro e1 qe1;refine c73z ?_;refine c16z ?_;refine .ca rfl rfl (NB hu wc hmx hS (show i<c.insts.length by omega)) ?_;refine .n ?_;refine c40z ?_;refine .rz ?_;exact ⟨_,by omega,.v ⟨(i+1),⟨rfl,by omega⟩,rfl⟩⟩
  intro e1 qe1;refine c6z ?_;refine c7z ?_;refine .w7 (fun m st=>∃(i:Nat),(m=c.insts.length-i∧((∀d,d<i→MS u c mx L E d)∧i≤c.insts.length))∧st=⟨mkS 60 [(3,AV.vec c.insts.length (u9 L)),(12,AV.ptr (h.length+2) 0 0),(48,AV.int .i64 ((c.insts.length:Nat):Int)),(49,AV.int .i64 ((i:Nat):Int))],h++[⟨0,false,30,4,[.vec u.globals.length (g7 u.globals),.vec u.c4.length (g0 u.c4),.vec u.procs.length (j6 u.procs),.int .i64 u.main],0⟩,⟨0,false,34,3,[.vec c.insts.length (l3 c.insts),.vec c.calls.length (l5 c.calls),.vec c.roots.length (g7 c.roots)],0⟩,⟨0,false,114,10,[.vec u.globals.length (g7 u.globals),.vec u.c4.length (g0 u.c4),.vec u.procs.length (j6 u.procs),.int .i64 u.main,.vec c.insts.length (l3 c.insts),.vec c.calls.length (l5 c.calls),.vec c.roots.length (g7 c.roots),.int .i64 ((mx:Nat):Int),.vec c.insts.length (u9 L),.vec c.insts.length (E.map j8)],0⟩]⟩) _ (.v ⟨0,⟨rfl,⟨t88,by omega⟩⟩,rfl⟩) ?_;rintro m sl h' ⟨i,⟨hm,⟨hI,hi0⟩⟩,hst⟩;obtain ⟨rfl,rfl⟩:=St.mk.inj hst;refine c22z ?_;refine u2z ?_ ?_
  ·intro e2 qe2;refine c73z ?_;refine c16z ?_;refine .ca rfl rfl (NC hu wc hmx hS (show i<c.insts.length by omega)) ?_;refine .n ?_;refine u2z ?_ ?_
   ·intro e3 qe3;refine .c6 [14] ?_;refine .z ?_;exact .ret (.ex (hq:=t48))
   intro e3 qe3;refine c4z ?_;refine .rz ?_;exact ⟨_,by omega,.v ⟨(i+1),⟨rfl,⟨(fun d hd=>if e:d=i then by rw[e];exact sD.1 (by assumption) else hI d (by omega)),by omega⟩⟩,rfl⟩⟩
  intro e2 qe2;refine c6z ?_;refine .z ?_;exact .ret (.ex (hq:=t48))
end Go.Proofs.YtonbocmibeikmaaGreat
end
section
namespace Go.Proofs.YtonbocmibeikmaaGreat
open Go.Ab Go.Un
attribute [local go_sem] rd bJ r9 u7 r6 n7 l7 aK p7 Int.natCast_nonneg Int.natCast_inj aL dN cW dO gS iD qW jV bP mF tC eM kY kZ iE List.length_set List.length_replicate Int.toNat_natCast_add_one fF wrap64 sC List.length_map dH dP iR iS bP eH dQ jW jX dR dI p7 orN oI beq_self_eq_true bne_self_eq_false W3 yN nY Bool.not_not
variable {h:c7}
theorem O9 (a b:List Nat)(hla:a.length≤9)(hab:b.length=a.length):CB 120 [bJ a,bJ b] h (.bool (decide (fO a b))):=by
  refine .bz Tryz.f120 22 ?_;refine c18z ?_;refine .w7 (fun m st=>∃(i:Nat),(m=a.length-i∧((∀d,d<i→bits .andNot .i64 ((a.getD d 0:Nat):Int) ((b.getD d 0:Nat):Int)=0)∧i≤a.length))∧st=⟨mkS 22 [(0,bJ a),(1,bJ b),(5,AV.int .i64 ((i:Nat):Int))],h⟩) _ (.v ⟨0,⟨rfl,⟨t88,by omega⟩⟩,rfl⟩) ?_;rintro m sl h' ⟨i,⟨hm,⟨hI,hi0⟩⟩,hst⟩;obtain ⟨rfl,rfl⟩:=St.mk.inj hst;refine c1z ?_;refine u2z ?_ ?_
  ·intro e1 qe1;refine c3z ?_;refine .ss u6 (mkP 10 [0,0,3,7,0,0,48,112,255,511] []) ?_;refine c38z ?_;refine u2z ?_ ?_
   ·intro e2 qe2;refine c157z ?_;exact ⟨[],_,(List.append_nil _).symm,t41,t113⟩
   intro e2 qe2;refine c247z ?_;exact ⟨_,by omega,.v ⟨(i+1),⟨rfl,⟨(fun d hd=>if e:d=i then by rw[e];simp_all else hI d (by omega)),by omega⟩⟩,rfl⟩⟩
  intro e1 qe1;refine c65z ?_;exact ⟨[],_,(List.append_nil _).symm,t41,t113⟩
theorem c_rin {X:List Int}(hl:X.length<1000000)(v:Int):CB 121 [.vec X.length (g7 X),.int .i64 v] h (.bool (decide (v∈X))):=by
  refine .bz Tryz.f121 18 ?_;refine c18z ?_;refine .w7 (fun m st=>∃(i:Nat),(m=X.length-i∧((∀d,d<i→X.getD d 0≠v)∧i≤X.length))∧st=⟨mkS 18 [(0,AV.vec X.length (g7 X)),(1,AV.int .i64 v),(5,AV.int .i64 ((i:Nat):Int))],h⟩) _ (.v ⟨0,⟨rfl,⟨t88,by omega⟩⟩,rfl⟩) ?_;rintro m sl h' ⟨i,⟨hm,⟨hI,hi0⟩⟩,hst⟩;obtain ⟨rfl,rfl⟩:=St.mk.inj hst;refine c1z ?_;refine u2z ?_ ?_
  ·intro e1 qe1;refine c73z ?_;refine u2z ?_ ?_
   ·intro e2 qe2;refine c157z ?_;exact ⟨[],_,(List.append_nil _).symm,t41,t89⟩
   intro e2 qe2;refine c247z ?_;exact ⟨_,by omega,.v ⟨(i+1),⟨rfl,⟨(fun d hd=>if e:d=i then by rw[e];omega else hI d (by omega)),by omega⟩⟩,rfl⟩⟩
  intro e1 qe1;refine c65z ?_;exact ⟨[],_,(List.append_nil _).symm,t41,t89⟩
variable {u:Un}{c:Clo}{mx:Nat}{L:List (List (List Nat))}{E:List Nat}
theorem ND (hu:WU u)(wc:WC u c)(hmx:mx<u.c4.length)(hS:Shp u c mx L E){i:Nat}(hi:i<c.insts.length){n:Nat}(hn:(L.getD i []).length=n):CB 76 [.agg [.vec u.globals.length (g7 u.globals),.vec u.c4.length (g0 u.c4),.vec u.procs.length (j6 u.procs),.int .i64 u.main],.agg [.vec c.insts.length (l3 c.insts),.vec c.calls.length (l5 c.calls),.vec c.roots.length (g7 c.roots)],.int .i64 ((mx:Nat):Int),.vec n (s6 (L.getD i [])),.int .i64 ((i:Nat):Int)] h (.bool true):=by
  refine .bz Tryz.f76 75 ?_;have hwl:=wc.len;have hk8:kM u mx≤8:=eP;have hk9:nS (u.c4.getD mx w3)≤8:=hk8;have hml:=hu.ml;have hrl:=wc.rl;have hrc:c.roots.length≤c.insts.length:=by have:=u4 wc.rs wc.rr;omega
  have hcl:=wc.cl;have hLl:=hS.len;have hEl:=hS.es.1;have w:=cB wc hi;have w1:=w.lo;have w2:=w.hi;have hsz:(c8 u (itI c i)).length≤1664:=n6 hu w;have hcll:(c.calls.getD i []).length=(c8 u (itI c i)).length:=wc.cll i hi;have hlI:s4 u c i=(c8 u (itI c i)).length:=rfl;have hT:=hS.tb i hi;have hTl:(L.getD i []).length=s4 u c i:=hT.1;have hlp:1≤(c8 u (itI c i)).length:=(bN hu w).1;have hk5:=jE hk8;refine .z ?_;refine c150z ?_;refine c32z ?_;refine .c6 [3,4,5,6,11] ?_;refine .ss u6 (mkP 15 [0,1,0,4,0,16,0,112,240,496,1020,2044,4092,8188,16383] []) ?_;refine c38z ?_;refine uFbz ?_;intro e1 qe1;refine c117z ?_;refine .c6 [3,11] ?_;refine c14z ?_;refine .w7 (fun m st=>∃(j:Nat),(m=s4 u c i-j∧(j≤s4 u c i))∧st=⟨mkS 75 [(3,AV.vec n (s6 (L.getD i []))),(11,AV.int .i64 ((kM u mx:Nat):Int)),(12,AV.int .i64 ((j:Nat):Int))],h++[⟨0,false,30,4,[.vec u.globals.length (g7 u.globals),.vec u.c4.length (g0 u.c4),.vec u.procs.length (j6 u.procs),.int .i64 u.main],0⟩,⟨0,false,34,3,[.vec c.insts.length (l3 c.insts),.vec c.calls.length (l5 c.calls),.vec c.roots.length (g7 c.roots)],0⟩]⟩) _ (.v ⟨0,⟨rfl,by omega⟩,rfl⟩) ?_;rintro m sl h' ⟨j,⟨hm,hj⟩,hst⟩;obtain ⟨rfl,rfl⟩:=St.mk.inj hst;refine c1z ?_;refine u2z ?_ ?_
  ·intro e2 qe2;refine c3z ?_;refine .seq ?_;have hR:=hT.get (i:=j) (by omega);have hRl:=hR.1;refine .z ?_;refine uFbz ?_;intro e3 qe3;refine .sk ?_;refine .c6 [3,11,12] ?_;refine c14z ?_;refine .w7 (fun m st=>∃(d:Nat),(m=kM u mx+1-d∧(d≤kM u mx+1))∧st=⟨mkS 75 [(3,AV.vec n (s6 (L.getD i []))),(11,AV.int .i64 ((kM u mx:Nat):Int)),(12,AV.int .i64 ((j:Nat):Int)),(13,AV.int .i64 ((d:Nat):Int))],h++[⟨0,false,30,4,[.vec u.globals.length (g7 u.globals),.vec u.c4.length (g0 u.c4),.vec u.procs.length (j6 u.procs),.int .i64 u.main],0⟩,⟨0,false,34,3,[.vec c.insts.length (l3 c.insts),.vec c.calls.length (l5 c.calls),.vec c.roots.length (g7 c.roots)],0⟩]⟩) _ (.v ⟨0,⟨rfl,by omega⟩,rfl⟩) ?_;rintro m sl h' ⟨d,⟨hm,hd⟩,hst⟩;obtain ⟨rfl,rfl⟩:=St.mk.inj hst;refine c1z ?_;refine u2z ?_ ?_
   ·intro e4 qe4;refine c3z ?_;have hx:=jT hR.2 d;refine .ss u6 (mkP 21 [0,0,3,7,0,31,63,127,255,511,511,2047,4095,511,16383,32767,511,66047,197119,524287,1048575] []) ?_;refine .k 8 [] ?_;refine .k 8 [(8,62)] ?_;refine .n [(8,62)] ?_;refine uFbz ?_;intro e5 qe5;refine c4z ?_;refine .c6 [3,11,12,13] ?_;refine .rz ?_;exact ⟨_,by omega,.v ⟨(d+1),⟨rfl,by omega⟩,rfl⟩⟩
   intro e4 qe4;refine c6z ?_;refine .rz ?_;exact ⟨_,by omega,.v ⟨(j+1),⟨rfl,by omega⟩,rfl⟩⟩
  intro e2 qe2;refine c6z ?_;refine .z ?_;exact .ret (.ex (hq:=by rfl))
theorem NF (hu:WU u)(wc:WC u c)(hmx:mx<u.c4.length)(hS:Shp u c mx L E){i:Nat}(hi:i<c.insts.length):CB 77 [.agg [.vec u.globals.length (g7 u.globals),.vec u.c4.length (g0 u.c4),.vec u.procs.length (j6 u.procs),.int .i64 u.main],.agg [.vec c.insts.length (l3 c.insts),.vec c.calls.length (l5 c.calls),.vec c.roots.length (g7 c.roots)],.int .i64 ((mx:Nat):Int),.vec c.insts.length (u9 L),.vec c.insts.length (E.map j8),.int .i64 ((i:Nat):Int)] h (.bool (dcd (MS u c mx L E i))):=by
  refine .bz Tryz.f77 147 ?_;have hwl:=wc.len;have hk8:kM u mx≤8:=eP;have hk9:nS (u.c4.getD mx w3)≤8:=hk8;have hml:=hu.ml;have hrl:=wc.rl;have hrc:c.roots.length≤c.insts.length:=by have:=u4 wc.rs wc.rr;omega
  have hcl:=wc.cl;have hLl:=hS.len;have hEl:=hS.es.1;have w:=cB wc hi;have w1:=w.lo;have w2:=w.hi;have hsz:(c8 u (itI c i)).length≤1664:=n6 hu w;have hcll:(c.calls.getD i []).length=(c8 u (itI c i)).length:=wc.cll i hi;have hlI:s4 u c i=(c8 u (itI c i)).length:=rfl;have hT:=hS.tb i hi;have hTl:(L.getD i []).length=s4 u c i:=hT.1;have hlp:1≤(c8 u (itI c i)).length:=(bN hu w).1;have hT0:=hT.get (i:=0) (by omega);have hE5:E.getD i 0<512:=hS.es.lt _ (g8 (by omega));have hmu:=CD hE5;refine .z ?_;refine .sg u6 (mkH 14 [0,1,0,7,15,0,32,0,224,480,992,0,4095,8191] [11,12] [] [0,2048,6144] [0,1,2,3,4,5,6,7,8,9,10]) 0 ?_;refine c35z ?_;refine .p 2 ?_;refine c96z ?_;refine c238z ?_;refine .cl rfl rfl (fun _=>pB u mx) ?_;refine c176z ?_;refine .p 1 ?_;refine c31z ?_;refine c127z ?_;refine .seq ?_;refine .c6 [2,3,4,5,6,7,13,14] ?_;refine .ss u6 (mkP 24 [0,1,0,0,12,28,60,124,255,511,1023,2047,4095,2047,16383,32767,65535,65535,262143,524287,1048575,2097151,4194303,8388607] []) ?_;refine .k 1 [] ?_;refine .ca rfl rfl (D9 _ hk8) ?_;refine .k 6 [] ?_;refine .ca rfl rfl (O9 _ _ (by rw[N5];omega) (by rw[N5];exact hT0.1)) ?_;refine .k 2 [] ?_;refine .spl 41 rfl rfl (fun e1=>?_) (fun e1=>?_)
  ·try simp only[e1]
   have qe1:=fact e1;refine .k 8 [(10,41),(15,46)] ?_;refine .n [(10,41),(15,46)] ?_;refine c131z ?_;exact .ret (.ex (hq:=t5))
  try simp only[e1]
  have qe1:=fact e1;refine .k 3 [(10,41)] ?_;refine .ca rfl rfl (c_rin (by omega) _) ?_;refine .k 1 [(10,41)] ?_;refine .spl 46 rfl rfl (fun e2=>?_) (fun e2=>?_)
  ·try simp only[e2]
   have qe2:=fact e2;refine .n [(10,41),(15,46)] ?_;refine u2z ?_ ?_
   ·intro e3 qe3;refine c10z ?_;exact .ret (.ex (hq:=t5))
   intro e3 qe3;refine c117z ?_;refine .c6 [2,3,4,5,6,7,13] ?_;have hW0:fO (dhN (kM u mx) 0) ((L.getD i []).getD 0 []):=by assumption
   have hODD:(i:Int)∈c.roots→E.getD i 0%2=1:=fun hr9=>by first | exact absurd hr9 (by assumption) | (have h3:=mt hmu.2 (by assumption);omega)
   refine c14z ?_;refine .w7 (fun m st=>∃(pc:Nat),(m=s4 u c i-pc∧((∀p,p<pc→AtC u c L E i p∧AtN u c mx L i p)∧pc≤s4 u c i))∧st=⟨mkS 147 [(2,AV.int .i64 ((mx:Nat):Int)),(3,AV.vec c.insts.length (u9 L)),(4,AV.vec c.insts.length (E.map j8)),(5,AV.int .i64 ((i:Nat):Int)),(6,AV.ptr h.length 0 0),(7,AV.ptr (h.length+1) 0 0),(13,AV.ptr (h.length+2) 0 0),(15,AV.int .i64 ((pc:Nat):Int))],h++[⟨0,false,30,4,[.vec u.globals.length (g7 u.globals),.vec u.c4.length (g0 u.c4),.vec u.procs.length (j6 u.procs),.int .i64 u.main],0⟩,⟨0,false,34,3,[.vec c.insts.length (l3 c.insts),.vec c.calls.length (l5 c.calls),.vec c.roots.length (g7 c.roots)],0⟩,⟨0,false,46,2,[.int .i64 (itI c i).proc,.vec (itI c i).j9.length (g7 (itI c i).j9)],0⟩]⟩) _ (.v ⟨0,⟨rfl,⟨by intro p hp;omega,by omega⟩⟩,rfl⟩) ?_;rintro m sl h' ⟨pc,⟨hm,⟨hI,hj⟩⟩,hst⟩;obtain ⟨rfl,rfl⟩:=St.mk.inj hst;refine c1z ?_;refine u2z ?_ ?_
   ·intro e4 qe4;refine c3z ?_;have hp:pc<s4 u c i:=by omega
    have hpro:=V6 (m:=mx) hu wc (oK L) hi;have hst1:=hpro.st pc hp;have hop:eB u c i pc=(c8 u (itI c i)).getD pc g6:=rfl;have hTp:=hT.get hp;have hnxl:(nxI u c i pc).length=(p4 ((c8 u (itI c i)).getD pc g6) pc).length:=rfl;have hcall:(eB u c i pc).op=2→0≤(c.calls.getD i []).getD pc 0∧(c.calls.getD i []).getD pc 0<c.insts.length:=fun ho=>by have:=(wc.call i hi pc hp).1 (.inl ho);exact ⟨this.1,this.2.1⟩
    have hnl:=kV (x:=(c8 u (itI c i)).getD pc g6) (pc:=pc);have hap:applyN ((L.getD i []).getD pc []) (E.getD i 0)<512:=Nat.lt_of_lt_of_le (iQ hTp _) (jE hk8).2;refine c29z ?_;refine .ca rfl rfl (E4 hu wc hmx hi hp) ?_;refine c32z ?_;refine .c6 [2,3,4,5,6,7,13,15,16] ?_;refine c123z ?_;refine u2z ?_ ?_
    ·intro e5 qe5;refine .c6 [2,3,4,5,6,7,13,15] ?_;have hop2:(eB u c i pc).op=2:=by rw[hop];omega
     obtain ⟨hc1,hc2⟩:=hcall hop2;obtain ⟨q,hqe⟩:∃q:Nat,(c.calls.getD i []).getD pc 0=(q:Int):=⟨_,(Int.toNat_of_nonneg hc1).symm⟩;have hqc:iC c i pc=q:=by unfold iC;rw[hqe];rfl
     have hc3:=hc1;have hc4:=hc2;rw[hqe]at hc3 hc4;have hq3:q<c.insts.length:=by omega
     have hTq:=hS.tb q hq3;have hTql:(L.getD q []).length=s4 u c q:=hTq.1;have hz:=MX (E:=E) (L:=L) hop2 hqc hap (hS.es.lt _ (g8 (by omega)));refine c123z ?_;refine .c6 [2,3,4,5,6,7,13,15,17] ?_;rw[hqe];refine .ss u6 (mkP 10 [0,0,0,0,0,24,56,0,255,511] []) ?_;refine .k 8 [] ?_;refine .ca rfl rfl (NA hu wc hmx hS hq3 rfl) ?_;refine .n [] ?_;refine .c6 [2,3,4,5,6,7,13,15,16,17] ?_;refine .ss u6 (mkP 18 [0,0,3,7,0,31,63,0,0,384,896,2047,0,0,12288,28672,65535,131071] []) ?_;refine c204z ?_;refine c126z ?_;refine u2z ?_ ?_
     ·intro e6 qe6;refine c10z ?_;exact .ret (.ex (hq:=t5))
     intro e6 qe6;refine c166z ?_;have hst2:wQ u c mx q (L.getD q []) (s4 u c q)=(stS u c mx (exS u c mx L) i pc):=by unfold stS;rw[if_pos (show (eB u c i pc).op=2 from by rw[hop];omega)];first | done | rfl | (rw[hqc,pC hq3])
     rw[hst2];have hCC:AtC u c L E i pc:=hz.1 (by first | assumption | omega);refine c92z ?_;refine c262z ?_;refine c0z ?_;rintro m sl h' ⟨k,⟨hm,⟨hK,hk0⟩⟩,hst⟩;obtain ⟨rfl,rfl⟩:=St.mk.inj hst;refine c1z ?_;refine u2z ?_ ?_
     ·intro e7 qe7;refine c3z ?_;have hq9:=hpro.nx pc hp _ (show (p4 ((c8 u (itI c i)).getD pc g6) pc).getD k 0∈nxI u c i pc from g8 (d:=0) (by omega));have hTq9:=hT.get (i:=((p4 ((c8 u (itI c i)).getD pc g6) pc).getD k 0).toNat) (by omega);refine c49z ?_;refine c99z ?_;refine c145z ?_;refine .n [] ?_;refine u2z ?_ ?_
      ·intro e8 qe8;refine c10z ?_;exact .ret (.ex (hq:=t5))
      intro e8 qe8;refine c134z ?_;refine .rz ?_;exact ⟨_,by omega,.v ⟨(k+1),⟨rfl,⟨(fun d hd=>if e:d=k then by rw[e];assumption else hK d (by omega)),by omega⟩⟩,rfl⟩⟩
     intro e7 qe7;refine .exit ?_;have hNN:AtN u c mx L i pc:=fun q hq=>by obtain ⟨j,hj5,rfl⟩:=List.getElem_of_mem hq;have h9:=hK j t92;have e9:(p4 ((c8 u (itI c i)).getD pc g6) pc).getD j 0=(nxI u c i pc)[j]:=t94;rw[e9]at h9;exact h9
     refine c230z ?_;exact ⟨_,by omega,.v ⟨(pc+1),⟨rfl,⟨(fun p hp9=>if e:p=pc then by rw[e];exact ⟨hCC,hNN⟩ else hI p (by omega)),by omega⟩⟩,rfl⟩⟩
    intro e5 qe5;refine c166z ?_;have hst2:dhN (kM u mx) (chI (itI c i) (eB u c i pc) mx)=(stS u c mx (exS u c mx L) i pc):=by unfold stS;rw[if_neg (show ¬(eB u c i pc).op=2 from by rw[hop];omega)];first | done | rfl | (rw[hqc,pC hq3])
    rw[hst2];have hCC:AtC u c L E i pc:=MY (by rw[hop];omega);refine c92z ?_;refine c262z ?_;refine c0z ?_;rintro m sl h' ⟨k,⟨hm,⟨hK,hk0⟩⟩,hst⟩;obtain ⟨rfl,rfl⟩:=St.mk.inj hst;refine c1z ?_;refine u2z ?_ ?_
    ·intro e9 qe9;refine c3z ?_;have hq9:=hpro.nx pc hp _ (show (p4 ((c8 u (itI c i)).getD pc g6) pc).getD k 0∈nxI u c i pc from g8 (d:=0) (by omega));have hTq9:=hT.get (i:=((p4 ((c8 u (itI c i)).getD pc g6) pc).getD k 0).toNat) (by omega);refine c49z ?_;refine c99z ?_;refine c145z ?_;refine .n [] ?_;refine u2z ?_ ?_
     ·intro e10 qe10;refine c10z ?_;exact .ret (.ex (hq:=t5))
     intro e10 qe10;refine c134z ?_;refine .rz ?_;exact ⟨_,by omega,.v ⟨(k+1),⟨rfl,⟨(fun d hd=>if e:d=k then by rw[e];assumption else hK d (by omega)),by omega⟩⟩,rfl⟩⟩
    intro e9 qe9;refine .exit ?_;have hNN:AtN u c mx L i pc:=fun q hq=>by obtain ⟨j,hj5,rfl⟩:=List.getElem_of_mem hq;have h9:=hK j t92;have e9:(p4 ((c8 u (itI c i)).getD pc g6) pc).getD j 0=(nxI u c i pc)[j]:=t94;rw[e9]at h9;exact h9
    refine c230z ?_;exact ⟨_,by omega,.v ⟨(pc+1),⟨rfl,⟨(fun p hp9=>if e:p=pc then by rw[e];exact ⟨hCC,hNN⟩ else hI p (by omega)),by omega⟩⟩,rfl⟩⟩
   intro e4 qe4;refine c6z ?_;refine c10z ?_;exact .ret (.ex (hq:=t5))
  try simp only[e2]
  have qe2:=fact e2;refine .n [(10,41),(15,46)] ?_;refine c69z ?_;refine .c6 [2,3,4,5,6,7,13] ?_;have hW0:fO (dhN (kM u mx) 0) ((L.getD i []).getD 0 []):=by assumption
  have hODD:(i:Int)∈c.roots→E.getD i 0%2=1:=fun hr9=>by first | exact absurd hr9 (by assumption) | (have h3:=mt hmu.2 (by assumption);omega)
  refine c14z ?_;refine .w7 (fun m st=>∃(pc:Nat),(m=s4 u c i-pc∧((∀p,p<pc→AtC u c L E i p∧AtN u c mx L i p)∧pc≤s4 u c i))∧st=⟨mkS 147 [(2,AV.int .i64 ((mx:Nat):Int)),(3,AV.vec c.insts.length (u9 L)),(4,AV.vec c.insts.length (E.map j8)),(5,AV.int .i64 ((i:Nat):Int)),(6,AV.ptr h.length 0 0),(7,AV.ptr (h.length+1) 0 0),(13,AV.ptr (h.length+2) 0 0),(15,AV.int .i64 ((pc:Nat):Int))],h++[⟨0,false,30,4,[.vec u.globals.length (g7 u.globals),.vec u.c4.length (g0 u.c4),.vec u.procs.length (j6 u.procs),.int .i64 u.main],0⟩,⟨0,false,34,3,[.vec c.insts.length (l3 c.insts),.vec c.calls.length (l5 c.calls),.vec c.roots.length (g7 c.roots)],0⟩,⟨0,false,46,2,[.int .i64 (itI c i).proc,.vec (itI c i).j9.length (g7 (itI c i).j9)],0⟩]⟩) _ (.v ⟨0,⟨rfl,⟨by intro p hp;omega,by omega⟩⟩,rfl⟩) ?_;rintro m sl h' ⟨pc,⟨hm,⟨hI,hj⟩⟩,hst⟩;obtain ⟨rfl,rfl⟩:=St.mk.inj hst;refine c1z ?_;refine u2z ?_ ?_
  ·intro e11 qe11;refine c3z ?_;have hp:pc<s4 u c i:=by omega
   have hpro:=V6 (m:=mx) hu wc (oK L) hi;have hst1:=hpro.st pc hp;have hop:eB u c i pc=(c8 u (itI c i)).getD pc g6:=rfl;have hTp:=hT.get hp;have hnxl:(nxI u c i pc).length=(p4 ((c8 u (itI c i)).getD pc g6) pc).length:=rfl;have hcall:(eB u c i pc).op=2→0≤(c.calls.getD i []).getD pc 0∧(c.calls.getD i []).getD pc 0<c.insts.length:=fun ho=>by have:=(wc.call i hi pc hp).1 (.inl ho);exact ⟨this.1,this.2.1⟩
   have hnl:=kV (x:=(c8 u (itI c i)).getD pc g6) (pc:=pc);have hap:applyN ((L.getD i []).getD pc []) (E.getD i 0)<512:=Nat.lt_of_lt_of_le (iQ hTp _) (jE hk8).2;refine c29z ?_;refine .ca rfl rfl (E4 hu wc hmx hi hp) ?_;refine c32z ?_;refine .c6 [2,3,4,5,6,7,13,15,16] ?_;refine c123z ?_;refine u2z ?_ ?_
   ·intro e12 qe12;refine .c6 [2,3,4,5,6,7,13,15] ?_;have hop2:(eB u c i pc).op=2:=by rw[hop];omega
    obtain ⟨hc1,hc2⟩:=hcall hop2;obtain ⟨q,hqe⟩:∃q:Nat,(c.calls.getD i []).getD pc 0=(q:Int):=⟨_,(Int.toNat_of_nonneg hc1).symm⟩;have hqc:iC c i pc=q:=by unfold iC;rw[hqe];rfl
    have hc3:=hc1;have hc4:=hc2;rw[hqe]at hc3 hc4;have hq3:q<c.insts.length:=by omega
    have hTq:=hS.tb q hq3;have hTql:(L.getD q []).length=s4 u c q:=hTq.1;have hz:=MX (E:=E) (L:=L) hop2 hqc hap (hS.es.lt _ (g8 (by omega)));refine c123z ?_;refine .c6 [2,3,4,5,6,7,13,15,17] ?_;rw[hqe];refine .ss u6 (mkP 10 [0,0,0,0,0,24,56,0,255,511] []) ?_;refine .k 8 [] ?_;refine .ca rfl rfl (NA hu wc hmx hS hq3 rfl) ?_;refine .n [] ?_;refine .c6 [2,3,4,5,6,7,13,15,16,17] ?_;refine .ss u6 (mkP 18 [0,0,3,7,0,31,63,0,0,384,896,2047,0,0,12288,28672,65535,131071] []) ?_;refine c204z ?_;refine c126z ?_;refine u2z ?_ ?_
    ·intro e13 qe13;refine c10z ?_;exact .ret (.ex (hq:=t5))
    intro e13 qe13;refine c166z ?_;have hst2:wQ u c mx q (L.getD q []) (s4 u c q)=(stS u c mx (exS u c mx L) i pc):=by unfold stS;rw[if_pos (show (eB u c i pc).op=2 from by rw[hop];omega)];first | done | rfl | (rw[hqc,pC hq3])
    rw[hst2];have hCC:AtC u c L E i pc:=hz.1 (by first | assumption | omega);refine c92z ?_;refine c262z ?_;refine c0z ?_;rintro m sl h' ⟨k,⟨hm,⟨hK,hk0⟩⟩,hst⟩;obtain ⟨rfl,rfl⟩:=St.mk.inj hst;refine c1z ?_;refine u2z ?_ ?_
    ·intro e14 qe14;refine c3z ?_;have hq9:=hpro.nx pc hp _ (show (p4 ((c8 u (itI c i)).getD pc g6) pc).getD k 0∈nxI u c i pc from g8 (d:=0) (by omega));have hTq9:=hT.get (i:=((p4 ((c8 u (itI c i)).getD pc g6) pc).getD k 0).toNat) (by omega);refine c49z ?_;refine c99z ?_;refine c145z ?_;refine .n [] ?_;refine u2z ?_ ?_
     ·intro e15 qe15;refine c10z ?_;exact .ret (.ex (hq:=t5))
     intro e15 qe15;refine c134z ?_;refine .rz ?_;exact ⟨_,by omega,.v ⟨(k+1),⟨rfl,⟨(fun d hd=>if e:d=k then by rw[e];assumption else hK d (by omega)),by omega⟩⟩,rfl⟩⟩
    intro e14 qe14;refine .exit ?_;have hNN:AtN u c mx L i pc:=fun q hq=>by obtain ⟨j,hj5,rfl⟩:=List.getElem_of_mem hq;have h9:=hK j t92;have e9:(p4 ((c8 u (itI c i)).getD pc g6) pc).getD j 0=(nxI u c i pc)[j]:=t94;rw[e9]at h9;exact h9
    refine c230z ?_;exact ⟨_,by omega,.v ⟨(pc+1),⟨rfl,⟨(fun p hp9=>if e:p=pc then by rw[e];exact ⟨hCC,hNN⟩ else hI p (by omega)),by omega⟩⟩,rfl⟩⟩
   intro e12 qe12;refine c166z ?_;have hst2:dhN (kM u mx) (chI (itI c i) (eB u c i pc) mx)=(stS u c mx (exS u c mx L) i pc):=by unfold stS;rw[if_neg (show ¬(eB u c i pc).op=2 from by rw[hop];omega)];first | done | rfl | (rw[hqc,pC hq3])
   rw[hst2];have hCC:AtC u c L E i pc:=MY (by rw[hop];omega);refine c92z ?_;refine c262z ?_;refine c0z ?_;rintro m sl h' ⟨k,⟨hm,⟨hK,hk0⟩⟩,hst⟩;obtain ⟨rfl,rfl⟩:=St.mk.inj hst;refine c1z ?_;refine u2z ?_ ?_
   ·intro e16 qe16;refine c3z ?_;have hq9:=hpro.nx pc hp _ (show (p4 ((c8 u (itI c i)).getD pc g6) pc).getD k 0∈nxI u c i pc from g8 (d:=0) (by omega));have hTq9:=hT.get (i:=((p4 ((c8 u (itI c i)).getD pc g6) pc).getD k 0).toNat) (by omega);refine c49z ?_;refine c99z ?_;refine c145z ?_;refine .n [] ?_;refine u2z ?_ ?_
    ·intro e17 qe17;refine c10z ?_;exact .ret (.ex (hq:=t5))
    intro e17 qe17;refine c134z ?_;refine .rz ?_;exact ⟨_,by omega,.v ⟨(k+1),⟨rfl,⟨(fun d hd=>if e:d=k then by rw[e];assumption else hK d (by omega)),by omega⟩⟩,rfl⟩⟩
   intro e16 qe16;refine .exit ?_;have hNN:AtN u c mx L i pc:=fun q hq=>by obtain ⟨j,hj5,rfl⟩:=List.getElem_of_mem hq;have h9:=hK j t92;have e9:(p4 ((c8 u (itI c i)).getD pc g6) pc).getD j 0=(nxI u c i pc)[j]:=t94;rw[e9]at h9;exact h9
   refine c230z ?_;exact ⟨_,by omega,.v ⟨(pc+1),⟨rfl,⟨(fun p hp9=>if e:p=pc then by rw[e];exact ⟨hCC,hNN⟩ else hI p (by omega)),by omega⟩⟩,rfl⟩⟩
  intro e11 qe11;refine c6z ?_;refine c10z ?_;exact .ret (.ex (hq:=t5))
theorem YM (hu:WU u)(wc:WC u c)(hmx:mx<u.c4.length)(hS:Shp u c mx L E):CB 44 [.agg [.vec u.globals.length (g7 u.globals),.vec u.c4.length (g0 u.c4),.vec u.procs.length (j6 u.procs),.int .i64 u.main],.agg [.vec c.insts.length (l3 c.insts),.vec c.calls.length (l5 c.calls),.vec c.roots.length (g7 c.roots)],.int .i64 ((mx:Nat):Int),.vec c.insts.length (u9 L),.vec c.insts.length (E.map j8)] h (.tup [.int .i64 ((F9 u c mx L E:Nat):Int),.int .i64 (FL (c.insts.length:Int) 12 (F9 u c mx L E))]):=by
  refine .bz Tryz.f44 81 ?_;have hwl:=wc.len;have hk8:kM u mx≤8:=eP;have hk9:nS (u.c4.getD mx w3)≤8:=hk8;have hml:=hu.ml;have hrl:=wc.rl;have hrc:c.roots.length≤c.insts.length:=by have:=u4 wc.rs wc.rr;omega
  have hcl:=wc.cl;have hLl:=hS.len;have hEl:=hS.es.1;have hk5:=jE hk8;refine c190z ?_;refine .s ?_;refine .k 8 [(4,22)] ?_;refine .m [(4,22)] ?_;refine c69z ?_;refine .c6 [2,3,4,5,6,12] ?_;refine c14z ?_;refine .w7 (fun m st=>∃(i:Nat),(m=c.insts.length-i∧(i≤c.insts.length))∧st=⟨mkS 81 [(2,AV.int .i64 ((mx:Nat):Int)),(3,AV.vec c.insts.length (u9 L)),(4,AV.vec c.insts.length (E.map j8)),(5,AV.ptr h.length 0 0),(6,AV.ptr (h.length+1) 0 0),(12,AV.int .i64 ((c.insts.length:Nat):Int)),(13,AV.int .i64 ((i:Nat):Int))],h++[⟨0,false,30,4,[.vec u.globals.length (g7 u.globals),.vec u.c4.length (g0 u.c4),.vec u.procs.length (j6 u.procs),.int .i64 u.main],0⟩,⟨0,false,34,3,[.vec c.insts.length (l3 c.insts),.vec c.calls.length (l5 c.calls),.vec c.roots.length (g7 c.roots)],0⟩]⟩) _ (.v ⟨0,⟨rfl,by omega⟩,rfl⟩) ?_;rintro m sl h' ⟨i,⟨hm,hi0⟩,hst⟩;obtain ⟨rfl,rfl⟩:=St.mk.inj hst;refine c1z ?_;refine u2z ?_ ?_
  ·intro e1 qe1;refine c3z ?_;have hEi:=hS.es.get i;have hTl7:(L.getD i []).length=s4 u c i:=(hS.tb i (by omega)).1;have hi7:i<c.insts.length:=by omega
   refine .ss u6 (mkP 32 [0,0,0,0,0,24,56,0,255,511,1023,2047,2047,8191,16383,32767,65535,131071,262143,262143,1048575,2097151,262143,4456447,262143,29622271,63176703,130285567,264503295,532938751,1073741823,2147483647] []) ?_;refine .k 8 [] ?_;refine .ca rfl rfl (ND hu wc hmx hS (show i<c.insts.length by omega) rfl) ?_;refine .k 8 [(10,43)] ?_;refine .k 1 [] ?_;refine .spl 50 rfl rfl (fun e2=>by exfalso;have q:=fact e2;omega) (fun e2=>?_);try simp only[e2]
   have qe2:=fact e2;refine .k 8 [(17,50)] ?_;refine .k 1 [(17,50)] ?_;refine .ca rfl rfl (pB u mx) ?_;refine .n [(17,50)] ?_;refine uFbz ?_;intro e3 qe3;refine c4z ?_;refine .c6 [2,3,4,5,6,12,13] ?_;refine .rz ?_;exact ⟨_,by omega,.v ⟨(i+1),⟨rfl,by omega⟩,rfl⟩⟩
  intro e1 qe1;refine c6z ?_;refine c7z ?_;refine .w7 (fun m st=>∃(i:Nat),(m=c.insts.length-i∧((∀d,d<i→MS u c mx L E d)∧i≤c.insts.length))∧st=⟨mkS 81 [(2,AV.int .i64 ((mx:Nat):Int)),(3,AV.vec c.insts.length (u9 L)),(4,AV.vec c.insts.length (E.map j8)),(5,AV.ptr h.length 0 0),(6,AV.ptr (h.length+1) 0 0),(12,AV.int .i64 ((c.insts.length:Nat):Int)),(14,AV.int .i64 ((i:Nat):Int))],h++[⟨0,false,30,4,[.vec u.globals.length (g7 u.globals),.vec u.c4.length (g0 u.c4),.vec u.procs.length (j6 u.procs),.int .i64 u.main],0⟩,⟨0,false,34,3,[.vec c.insts.length (l3 c.insts),.vec c.calls.length (l5 c.calls),.vec c.roots.length (g7 c.roots)],0⟩]⟩) _ (.v ⟨0,⟨rfl,⟨t88,by omega⟩⟩,rfl⟩) ?_;rintro m sl h' ⟨i,⟨hm,⟨hI,hi0⟩⟩,hst⟩;obtain ⟨rfl,rfl⟩:=St.mk.inj hst;refine c1z ?_;refine u2z ?_ ?_
  ·intro e4 qe4;refine c3z ?_;refine c115z ?_;refine .ca rfl rfl (NF hu wc hmx hS (show i<c.insts.length by omega)) ?_;refine .n ?_;refine u2z ?_ ?_
   ·intro e5 qe5;refine .c6 [14] ?_;refine .z ?_;exact .ret (.ex (hq:=t48))
   intro e5 qe5;refine c4z ?_;refine .c6 [2,3,4,5,6,12,14] ?_;refine .rz ?_;exact ⟨_,by omega,.v ⟨(i+1),⟨rfl,⟨(fun d hd=>if e:d=i then by rw[e];exact sD.1 (by assumption) else hI d (by omega)),by omega⟩⟩,rfl⟩⟩
  intro e4 qe4;refine c6z ?_;refine .c6 [12] ?_;refine .z ?_;exact .ret (.ex (hq:=t48))
end Go.Proofs.YtonbocmibeikmaaGreat
end
section
namespace Go.Proofs.YtonbocmibeikmaaGreat
open Go.Ab Go.Un
def Hi (a b:Nat):Nat:=if a.testBit b then a-2^b else a
theorem clrAll:((List.range 9).all fun b=>(List.range 512).all fun a=>bits .andNot .i64 (a:Int) ((2^b:Nat):Int)==((Hi a b:Nat):Int))=true:=by kernel_rfl
theorem NG {a b:Nat}(ha:a<512)(hb:b≤8):bits .andNot .i64 (a:Int) ((2^b:Nat):Int)=((Hi a b:Nat):Int):=by have h1:=List.all_eq_true.1 (List.all_eq_true.1 clrAll b (List.mem_range.2 (by omega))) a (List.mem_range.2 ha);exact beq_iff_eq.1 h1
theorem YN {a b:Nat}:Hi a b≤a:=by
  unfold Hi;split
  · exact Nat.sub_le _ _
  · exact Nat.le_refl _
theorem Fy {b:Nat}(hb:b≤8):IntKind.wrap .i64 (1*2^(min b 64))=((2^b:Nat):Int):=by
  have e:min b 64=b:=by omega
  have h1:2^b≤256:=Nat.le_trans (Nat.pow_le_pow_right (by decide) hb) (by decide);have h2:((2:Int)^b)=((2^b:Nat):Int):=by simp
  rw[e,Int.one_mul,h2];generalize 2^b=x at h1 ⊢;exact wrap64 (by omega) (by omega)
theorem yP {α:Type}{l:List α}{k:Nat}{d:α}(h:k<l.length):l.take (k+1)=l.take k++[l.getD k d]:=by rw[List.take_add_one,List.getElem?_eq_getElem h];simp[List.getD,h]
variable {H:c7}{b:Blk}
theorem UZ {X:c7}{r:List Nat}{p m:Nat}(hp:p=H.length+(X.length+1))(hr:r.length=m)(hm:0<m)(hl:m<100000):j7 cfg 3 (H++(b::(X++[⟨0,false,3,1,[],0⟩]))) (.own p 0 0 0) (.vec m (r.map j8))=some (.own p 1 0 m,H++(b::(X++[⟨1,false,3,1,r.map j8,0⟩]))):=by
  subst hp hr;have e1:cfg.sz 3=1:=rfl;have e2:(cfg.ti 3).bytes=8:=rfl;have h1:r.length≤maxLen:=by
    have:(100000:Nat)≤maxLen:=by decide
    omega
  have h2:r.length*8≤140737488355328:=by omega
  have g1:(H++(b::(X++[(⟨0,false,3,1,[],0⟩:Blk)])))[H.length+(X.length+1)]?=some ⟨0,false,3,1,[],0⟩:=by rw[r7,List.getElem?_cons_succ,aF];rfl
  have g2:∀c:Blk,(H++(b::(X++[(⟨0,false,3,1,[],0⟩:Blk)]))).set (H.length+(X.length+1)) c=H++(b::(X++[c])):=fun c=>by rw[o4,List.set_cons_succ,fA];rfl
  have h3:¬r.length=0:=by omega
  simp[j7,rd,lenOf,e1,e2,h1,h2,h3,g1,g2]
variable {Z:c7}{zs:List AV}{x:AV}{g n q:Nat}
theorem NH {e:TypeId}{R:c7}(he:cfg.sz e=1)(hb:(cfg.ti e).bytes≤1000)(hn:zs.length=n)(hq:q=H.length+(1+Z.length+R.length))(hl:n<100000):j7 cfg e (H++(o8 e 1 g zs::(Z++(R++[⟨0,false,e,1,[x],0⟩])))) (.own H.length g 0 n) (.own q 0 0 1)=some (.own H.length (g+1) 0 (n+1),H++(o8 e 1 (g+1) (zs++[x])::(Z++(R++[⟨0,false,e,1,[x],0⟩])))):=by
  subst hn hq;have g1:(H++(o8 e 1 g zs::(Z++(R++[(⟨0,false,e,1,[x],0⟩:Blk)]))))[H.length+(1+Z.length+R.length)]?=some ⟨0,false,e,1,[x],0⟩:=by rw[r7,show 1+Z.length+R.length=Z.length+R.length+1 from by omega,List.getElem?_cons_succ,r7,aF];rfl
  rw[v7 (C:=cfg) (K:=1) (m:=1) (new:=[x]) (zs:=zs) t138 he (by omega) (by simp) rfl (by omega) (by simp[rd,g1]) rfl hb (by omega),fA];rfl
theorem app_x {r:Blk}(hn:zs.length=n)(hq:q=H.length+(Z.length+2))(hl:n<100000):j7 cfg 22 (H++(o8 22 1 g zs::(Z++[r,⟨0,false,22,1,[x],0⟩]))) (.own H.length g 0 n) (.own q 0 0 1)=some (.own H.length (g+1) 0 (n+1),H++(o8 22 1 (g+1) (zs++[x])::(Z++[r,⟨0,false,22,1,[x],0⟩]))):=
  NH (R:=[r]) rfl (by decide) hn (by simp only[List.length_cons,List.length_nil];omega) hl
theorem app_y (hn:zs.length=n)(hq:q=H.length+(Z.length+1))(hl:n<100000):j7 cfg 32 (H++(o8 32 1 g zs::(Z++[⟨0,false,32,1,[x],0⟩]))) (.own H.length g 0 n) (.own q 0 0 1)=some (.own H.length (g+1) 0 (n+1),H++(o8 32 1 (g+1) (zs++[x])::(Z++[⟨0,false,32,1,[x],0⟩]))):=
  NH (R:=[]) rfl (by decide) hn (by simp only[List.length_nil];omega) hl
theorem VA {h:c7}{p:Nat}{L:List (List (List Nat))}{T:List (List Nat)}(hT:0<T.length):(h++(b::lay p L))++(o8 22 1 T.length (cP (p+uJ (lens L)+1) T)::T.map nZ)=h++(b::lay p (L++[T])):=by rw[CF,dE (by intro h0;have:=congrArg List.length h0;rw[jF]at this;replace this:=s7z this;omega)];simp only[List.append_assoc,List.cons_append,W6]
theorem VB {h l':c7}{L:List (List (List Nat))}:aE (h++l') (h++(o8 32 1 g (rB (h.length+1) (lens L))::lay (h.length+1) L)):=by
  refine F1 fun b hb=>?_;have e:(h++(o8 32 1 g (rB (h.length+1) (lens L))::lay (h.length+1) L)).length=h.length+1+uJ (lens L):=by rw[List.length_append,List.length_cons,lZ];omega
  rw[e];rcases List.mem_cons.1 hb with rfl | hb
  · rw[o2]
    exact E9 (Nat.le_refl _)
  · exact F0 (Nat.le_refl _) b hb
theorem keep_in {l':c7}{T:List (List Nat)}:aE (H++l') (H++(o8 22 1 g (cP (H.length+1) T)::T.map nZ)):=by
  refine F1 fun b hb=>?_;have e:(H++(o8 22 1 g (cP (H.length+1) T)::T.map nZ)).length=H.length+1+T.length:=by rw[List.length_append,List.length_cons,List.length_map];omega
  rw[e];rcases List.mem_cons.1 hb with rfl | hb
  · rw[o2]
    exact wW (by omega)
  · obtain ⟨r,_,rfl⟩:=List.mem_map.1 hb
    exact (N9 r).refs _
section
variable {h:c7}{L:List (List (List Nat))}{E:List Nat}{W:List Int}
theorem YO {l:c7}{β:Nat}(hβ:β=fP h L+1):(XH h L E (b::l))[β]?=some b:=by
  subst hβ;have e:fP h L+1=(((h++[G0 (h.length+1) (lens L)])++lay (h.length+1) L)++[FF E]).length:=by simp[fP,lZ];omega
  have e2:XH h L E (b::l)=(((h++[G0 (h.length+1) (lens L)])++lay (h.length+1) L)++[FF E])++(b::l):=by simp[XH]
  rw[e2,e,aF];rfl
theorem XH_putS {b':Blk}:(XH h L E [b]).set (fP h L+1) b'=XH h L E [b']:=by
  have e:fP h L+1=(((h++[G0 (h.length+1) (lens L)])++lay (h.length+1) L)++[FF E]).length:=by simp[fP,lZ];omega
  have e2:∀b:Blk,XH h L E [b]=(((h++[G0 (h.length+1) (lens L)])++lay (h.length+1) L)++[FF E])++[b]:=fun b=>by simp[XH]
  rw[e2,e,fA,e2];rfl
theorem XH_putD {l:c7}{i k d v:Nat}(hi:i<L.length)(hk:k<(L.getD i []).length):(XH h L E l).set (Q4 (h.length+1) (lens L) i+1+k) ⟨1,false,3,1,(((L.getD i []).getD k []).set d v).map j8,0⟩=XH h (L.set i ((L.getD i []).set k (((L.getD i []).getD k []).set d v))) E l:=XH_put hi hk (by rw[List.length_set])
theorem srcX:aY (fP h L+1) W (fP h L+2) (fun I=>XH h L E [⟨0,false,118,2,[.vec W.length (g7 W),.int .i64 I],0⟩]):=⟨fun I=>YO rfl,fun I k=>XH_putS,fun I=>by rw[O8];rfl⟩
theorem wX {I m:Int}(n:Nat)(hI:OkI W I)(hW:W.length<4611686018427387904)(hm:m=n)(hn:0<n)(hn2:n<1000000):CallA Tryz.prog cfg 75 [.ptr (fP h L+1) 0 0,.int .i64 m] (XH h L E [⟨0,false,118,2,[.vec W.length (g7 W),.int .i64 I],0⟩]) (fun y' h'=>∃(v:Nat) (J:Int),v<n∧OkI W J∧I≤J∧(I<W.length→I<J)∧y'=.int .i64 ((v:Nat):Int)∧h'=XH h L E [⟨0,false,118,2,[.vec W.length (g7 W),.int .i64 J],0⟩]):=by
  subst hm;refine (xY (srcX (h:=h) (L:=L) (E:=E)) I n hI hW (by omega) (by omega)).mono fun y' h' hq=>?_;have h1:=n4 hI (n:=(n:Int)) (by omega);refine ⟨(c5 W I n).1.toNat,(c5 W I n).2,by omega,h1.2.2,?_,?_,?_,hq.2⟩
  · unfold c5
    split
    · exact Int.le_refl _
    · show I≤I+1;omega
  · intro hi
    rw[c5,if_neg (by omega)];show I<I+1;omega
  · rw[hq.1,Int.toNat_of_nonneg h1.1]
end
theorem P0 {d β β' g' len len':Nat}(h1:β<n)(h2:β'<n):iV n H (d+2) (.tup [.own β g 0 len,.own β' g' 0 len'])=some (.tup [.own β g 0 len,.own β' g' 0 len']):=by rw[jO];simp only[n8,bT,if_pos h1,if_pos h2];rfl
attribute [local go_sem] rd bJ r9 u7 r6 n7 l7 aK p7 Int.natCast_nonneg Int.natCast_inj aL dN cW dO gS iD qW jV bP mF tC eM kY kZ iE List.length_set List.length_replicate Int.toNat_natCast_add_one fF wrap64 sC List.length_map dH dP iR iS bP eH dQ jW jX dR dI p7 orN oI beq_self_eq_true bne_self_eq_false W3 yN nY Bool.not_not Fy orN NG YG XH_tab XH_row YI YO XH_putD XH_putE E7 E8 jY jF cL
theorem c_leftX {h:c7}{L:List (List (List Nat))}{E:List Nat}{W:List Int}(I:Int):CB 74 [.ptr (fP h L+1) 0 0] (XH h L E [⟨0,false,118,2,[.vec W.length (g7 W),.int .i64 I],0⟩]) (.bool (decide (I<(W.length:Int)))):=by refine .bz Tryz.f74 13 ?_;refine .z ?_;refine .ss u6 (mkP 11 [0,1,3,7,0,16,48,112,240,511,1023] []) ?_;refine c38z ?_;exact .ret (.ex (hq:=by rfl))
section
attribute [local go_sem] UZ app_x app_y
theorem YP {h:c7}{u:Un}{c:Clo}(hu:WU u)(wc:WC u c){mx:Nat}(hmx:mx<u.c4.length){L0:List (List (List Nat))}{E0:List Nat}(hS:Shp u c mx L0 E0)(Y:List Int)(hY:Y.length<4611686018427387904):CallA Tryz.prog cfg 42 [.vec c.insts.length (u9 L0),.vec c.insts.length (E0.map j8),.vec Y.length (g7 Y),.int .i64 ((kM u mx:Nat):Int)] h (fun y' h'=>∃L E,Shp u c mx L E∧y'=.tup [.own h.length c.insts.length 0 c.insts.length,.own (fP h L) 1 0 c.insts.length]∧h'=XH h L E []):=by
  refine .wz Tryz.f42 158 ?_;have hwl:=wc.len;have hk8:kM u mx≤8:=eP;have hk9:nS (u.c4.getD mx w3)≤8:=hk8;have hml:=hu.ml;have hrl:=wc.rl;have hrc:c.roots.length≤c.insts.length:=by have:=u4 wc.rs wc.rr;omega
  have hcl:=wc.cl;have hLl:=hS.len;have hEl:=hS.es.1;have hWl:(Y.take 60).length<4611686018427387904:=by rw[List.length_take];omega
  refine c55z ?_;refine c9.qC 10 rfl ?_;refine .aB (fun m st=>∃(i:Nat),(m=c.insts.length-i∧(i≤c.insts.length))∧st=⟨mkS 158 [(0,AV.vec c.insts.length (u9 L0)),(1,AV.vec c.insts.length (E0.map j8)),(2,AV.vec Y.length (g7 Y)),(3,AV.int .i64 ((kM u mx:Nat):Int)),(10,AV.own h.length i 0 i),(11,AV.int .i64 ((i:Nat):Int))],h++(o8 32 1 i (rB (h.length+1) (lens (L0.take i)))::lay (h.length+1) (L0.take i))⟩) (.v ⟨0,⟨rfl,by omega⟩,rfl⟩) ?_;rintro m sl h' ⟨i,⟨hm,hi0⟩,hst⟩;obtain ⟨rfl,rfl⟩:=St.mk.inj hst;clear hst;have htk0:(L0.take i).length=i:=by rw[List.length_take];omega
  refine c1z ?_;refine u2z ?_ ?_
  ·intro e1 qe1;refine c3z ?_;have hi:i<c.insts.length:=by omega
   have hT0:=hS.tb i hi;have hTl0:(L0.getD i []).length=s4 u c i:=hT0.1;have hlI0:s4 u c i=(c8 u (itI c i)).length:=rfl;have hsz0:s4 u c i≤1664:=n6 hu (cB wc hi);have hlp0:=(bN hu (cB wc hi)).1;refine c18z ?_;have hHl0:(h++(o8 32 1 i (rB (h.length+1) (lens (L0.take i)))::lay (h.length+1) (L0.take i))).length=h.length+1+uJ (lens (L0.take i)):=by rw[List.length_append,List.length_cons,lZ];omega
   generalize hH:(h++(o8 32 1 i (rB (h.length+1) (lens (L0.take i)))::lay (h.length+1) (L0.take i)))=H at hHl0 ⊢;refine c9.qC 12 rfl ?_;refine .aB (fun m st=>∃(j:Nat),(m=s4 u c i-j∧(j≤s4 u c i))∧st=⟨mkS 158 [(0,AV.vec c.insts.length (u9 L0)),(1,AV.vec c.insts.length (E0.map j8)),(2,AV.vec Y.length (g7 Y)),(3,AV.int .i64 ((kM u mx:Nat):Int)),(10,AV.own h.length i 0 i),(11,AV.int .i64 ((i:Nat):Int)),(12,AV.own H.length j 0 j),(13,AV.int .i64 ((j:Nat):Int))],H++(o8 22 1 j (cP (H.length+1) ((L0.getD i []).take j))::((L0.getD i []).take j).map nZ)⟩) (.v ⟨0,⟨rfl,by omega⟩,rfl⟩) ?_;rintro m sl h' ⟨j,⟨hm,hj0⟩,hst⟩;obtain ⟨rfl,rfl⟩:=St.mk.inj hst;clear hst;have htk:((L0.getD i []).take j).length=j:=by rw[List.length_take];omega
   have hzl:(cP (H.length+1) ((L0.getD i []).take j)).length=j:=by rw[jF];exact htk
   have hml:(((L0.getD i []).take j).map nZ).length=j:=by rw[List.length_map];exact htk
   refine c1z ?_;refine u2z ?_ ?_
   ·intro e2 qe2;refine c3z ?_;have hR0:=(hT0.get (i:=j) (by omega)).1;refine c128z ?_;refine .c6 [0,1,2,3,10,11,12,13] ?_;refine .rz ?_;exact ⟨_,by omega,.v ⟨(j+1),⟨rfl,by omega⟩,rfl⟩ (he:=by (rw[yM (by omega),yO,show H.length+1+((L0.getD i []).take j).length=H.length+(((L0.getD i []).take j).length+1) from by omega,List.map_append];simp only[List.append_assoc,List.cons_append,List.nil_append,List.map_cons,List.map_nil,nZ];rfl)) (hk:=by exact keep_in)⟩
   intro e2 qe2;refine .exit ?_;obtain rfl:j=(L0.getD i []).length:=by omega
   rw[List.take_length];rw[hHl0];subst hH;refine c9.w6 (h++(o8 32 1 i (rB (h.length+1) (lens (L0.take i)))::lay (h.length+1) (L0.take (i+1)))) (by rw[yP (d:=[]) (show i<L0.length by omega)];exact VA (by omega)) ?_;have hzl:(rB (h.length+1) (lens (L0.take i))).length=i:=by rw[jY,cL];exact htk0
   change c9 ..;refine .c6 [0,1,2,3,10,11,12] ?_;refine c60z ?_;exact ⟨_,by omega,.v ⟨(i+1),⟨rfl,by omega⟩,rfl⟩ (he:=by (rw[yP (d:=[]) (show i<L0.length by omega),MV,O7];simp only[List.append_assoc,List.cons_append,List.nil_append];rfl)) (hl:=by simp[lay,lens,rB]) (hk:=by exact VB)⟩
  intro e1 qe1;refine .exit ?_;obtain rfl:i=c.insts.length:=by omega
  rw[List.take_of_length_le (Nat.le_of_eq hLl)];change c9 ..;rw[dE (by intro h0;have:=congrArg List.length h0;rw[jY,cL]at this;replace this:=s7z this;omega)];refine .z ?_;refine .c6 [1,2,3,10] ?_;refine c149z ?_;refine .ca rfl rfl (c_cut Y 60 (by omega)) ?_;refine .n ?_;refine .sb ?_;refine c9.w6 (XH h L0 E0 [⟨0,false,118,2,[.vec (Y.take 60).length (g7 (Y.take 60)),.int .i64 0],0⟩]) (by simp only[XH,G0,FF,cL,hLl,List.append_assoc,List.cons_append,List.nil_append]) ?_;have hpE:fP h L0=h.length+1+(lay (h.length+1) L0).length:=by rw[lZ];rfl
  refine .w7 (fun m st=>∃(L:List (List (List Nat))) (E:List Nat) (I:Int),(m=(((Y.take 60).length:Int)-I).toNat∧(Shp u c mx L E∧OkI (Y.take 60) I))∧st=⟨mkS 158 [(1,AV.own (fP h L) 1 0 c.insts.length),(3,AV.int .i64 ((kM u mx:Nat):Int)),(10,AV.own h.length c.insts.length 0 c.insts.length),(14,AV.ptr (fP h L+1) 0 0)],XH h L E [⟨0,false,118,2,[.vec (Y.take 60).length (g7 (Y.take 60)),.int .i64 I],0⟩]⟩) _ (.v ⟨L0,E0,0,⟨rfl,⟨hS,⟨by omega,by omega⟩⟩⟩,rfl⟩ (hs:=t42)) ?_;rintro m sl h' ⟨L,E,I,⟨hm,⟨hS,hI⟩⟩,hst⟩;obtain ⟨rfl,rfl⟩:=St.mk.inj hst;have hLl:=hS.len;have hEl:=hS.es.1;have hk5:=jE hk8;refine .seq ?_;refine c149z ?_;refine .ca rfl rfl (c_leftX I) ?_;refine .e 1 ?_;refine .spl 60 rfl rfl (fun e3=>?_) (fun e3=>?_)
  ·try simp only[e3]
   have qe3:=fact e3;refine .m [(2,60)] ?_;refine u2z ?_ ?_
   ·intro e4 qe4;refine c184z ?_;refine c15z ?_;refine o1.cx rfl rfl rN (wX (I:=I) (c.insts.length) hI hWl rfl (by omega) (by omega)) (fun y1 h1 hq1=>?_);obtain ⟨i,I1,hi,hI1,hle1,hlt1,rfl,rfl⟩:=hq1;have hT:=hS.tb i hi;have hTl:=hT.1;have hlp:=(bN hu (cB wc hi)).1;have hlI:s4 u c i=(c8 u (itI c i)).length:=rfl;have hsz:s4 u c i≤1664:=n6 hu (cB wc hi);refine .n ?_;refine .c6 [1,3,10,14,15] ?_;refine c115z ?_;refine o1.cx rfl rfl rN (wX (I:=I1) ((L.getD i []).length) hI1 hWl rfl (by omega) (by omega)) (fun y1 h1 hq1=>?_);obtain ⟨k,I2,hk,hI2,hle2,hlt2,rfl,rfl⟩:=hq1;have hR:=hT.get (i:=k) (by omega);have hRl:=hR.1;refine .e 3 ?_;refine o1.cx rfl rfl rN (wX (I:=I2) (kM u mx+1) hI2 hWl (by omega) (by omega) (by omega)) (fun y1 h1 hq1=>?_);obtain ⟨d,I3,hd,hI3,hle3,hlt3,rfl,rfl⟩:=hq1;have hx:((L.getD i []).getD k []).getD d 0<2^(kM u mx+1):=jT hR.2 d;have hEi:=hS.es.get i;refine .e 1 ?_;refine o1.cx rfl rfl rN (wX (I:=I3) 8 hI3 hWl rfl (by omega) (by omega)) (fun y1 h1 hq1=>?_);obtain ⟨how,I4,hhow,hI4,hle4,hlt4,rfl,rfl⟩:=hq1;refine .n ?_;refine .c6 [1,3,10,14,15,16,17,18] ?_;refine c15z ?_;refine o1.cx rfl rfl rN (wX (I:=I4) (kM u mx+1) hI4 hWl (by omega) (by omega) (by omega)) (fun y1 h1 hq1=>?_);obtain ⟨b,I5,hb,hI5,hle5,hlt5,rfl,rfl⟩:=hq1;have hb2:2^b<2^(kM u mx+1):=Nat.pow_lt_pow_right (by decide) hb;have hor:((L.getD i []).getD k []).getD d 0|||2^b<2^(kM u mx+1):=Nat.or_lt_two_pow hx hb2
    have hor2:E.getD i 0|||2^b<2^(kM u mx+1):=Nat.or_lt_two_pow hEi hb2
    have hcl1:=YN (a:=((L.getD i []).getD k []).getD d 0) (b:=b);have hcl2:=YN (a:=E.getD i 0) (b:=b);refine .n ?_;refine c90z ?_;refine u2z ?_ ?_
    ·intro e5 qe5;refine .c6 [1,3,10,14,15,16,17,19] ?_;refine .so u6 (mkP 22 [0,0,3,7,0,31,63,0,0,0,768,1792,0,7936,16128,0,65280,130816,0,524032,1048575,2097151] [21]) ?_;refine .k 8 [] ?_;refine c38z ?_;exact ⟨_,by omega,.v ⟨(L.set i ((L.getD i []).set k (((L.getD i []).getD k []).set d (((L.getD i []).getD k []).getD d 0|||2^b)))),E,I5,⟨rfl,⟨hS.Th (hR.set hor),hI5⟩⟩,rfl⟩ (hs:=t42)⟩
    intro e5 qe5;refine .c6 [1,3,10,14,15,16,17,18,19] ?_;refine .z ?_;refine u2z ?_ ?_
    ·intro e6 qe6;refine c87z ?_;refine .n ?_;exact ⟨_,by omega,.v ⟨L,(E.set i (E.getD i 0|||2^b)),I5,⟨rfl,⟨hS.setE hor2,hI5⟩⟩,rfl⟩ (hs:=t42)⟩
    intro e6 qe6;refine .z ?_;refine u2z ?_ ?_
    ·intro e7 qe7;refine .so u6 (mkP 22 [0,0,3,7,0,31,63,0,0,0,768,1792,0,7936,16128,0,65280,130816,0,524032,1048575,2097151] [21]) ?_;refine .k 8 [] ?_;refine c38z ?_;exact ⟨_,by omega,.v ⟨(L.set i ((L.getD i []).set k (((L.getD i []).getD k []).set d (Hi (((L.getD i []).getD k []).getD d 0) b)))),E,I5,⟨rfl,⟨hS.Th (hR.set (by omega)),hI5⟩⟩,rfl⟩ (hs:=t42)⟩
    intro e7 qe7;refine .c6 [1,3,10,14,15,19] ?_;refine c87z ?_;refine .n ?_;exact ⟨_,by omega,.v ⟨L,(E.set i (Hi (E.getD i 0) b)),I5,⟨rfl,⟨hS.setE (by omega),hI5⟩⟩,rfl⟩ (hs:=t42)⟩
   intro e4 qe4;refine c6z ?_;refine .c6 [1,10] ?_;refine c27z ?_;exact ⟨(XH h L E []),[⟨0,false,118,2,[.vec (Y.take 60).length (g7 (Y.take 60)),.int .i64 I],0⟩],_,(by rw[YJ];rfl),t178,t141,P0 t178 (by rw[O8];omega),⟨L,E,hS,rfl,rfl⟩⟩
  try simp only[e3]
  have qe3:=fact e3;refine .m [(2,60)] ?_;refine c43z ?_;refine .c6 [1,10] ?_;refine c27z ?_;exact ⟨(XH h L E []),[⟨0,false,118,2,[.vec (Y.take 60).length (g7 (Y.take 60)),.int .i64 I],0⟩],_,(by rw[YJ];rfl),t178,t141,P0 t178 (by rw[O8];omega),⟨L,E,hS,rfl,rfl⟩⟩
end
end Go.Proofs.YtonbocmibeikmaaGreat
end
section
namespace Go.Proofs.YtonbocmibeikmaaGreat
open Go.Ab Go.Un
def xK (r:List Nat):Blk:=⟨1,false,3,1,r.map j8,r.length⟩
def G1:List (List (List Nat))→List (List (List Nat))→c7
  | [],_=>[]
  | T1::J,L=>⟨T1.length,false,22,1,s6 (L.headD []),0⟩::(T1.map xK++G1 J L.tail)
theorem F2:∀{J L:List (List (List Nat))},(G1 J L).length=uJ (lens J)
  | [],_=>rfl
  | T1::J,L=>by rw[G1,List.length_cons,List.length_append,F2,List.length_map];show _=1+T1.length+uJ (lens J);omega
variable {i:Nat}
theorem NI {L:List (List (List Nat))}:L.tail.getD i []=L.getD (i+1) []:=by cases L<;>simp[List.getD]
theorem F3:∀{J L:List (List (List Nat))} {A l:c7} {p i:Nat},A.length=p→i<J.length→(A++(G1 J L++l))[Q4 p (lens J) i]?=some ⟨(J.getD i []).length,false,22,1,s6 (L.getD i []),0⟩
  | [],_,_,_,_,_,_,h=>by simp at h
  | T1::J,L,A,l,p,0,hA,_=>by subst hA;show (A++_)[A.length]?=_;rw[aF];cases L<;>rfl
  | T1::J,L,A,l,p,i+1,hA,h=>by have:=F3 (J:=J) (L:=L.tail) (A:=A++((⟨T1.length,false,22,1,s6 (L.headD []),0⟩:Blk)::T1.map xK)) (l:=l) (p:=p+1+T1.length) (i:=i) t164 t119;rw[List.append_assoc,List.cons_append,←List.append_assoc (T1.map xK),NI]at this;exact this
theorem CL:∀{J L:List (List (List Nat))} {A l:c7} {p i:Nat} {T:List (List Nat)},A.length=p→i<J.length→i<L.length→(A++(G1 J L++l)).set (Q4 p (lens J) i) ⟨(J.getD i []).length,false,22,1,s6 T,0⟩=A++(G1 J (L.set i T)++l)
  | [],_,_,_,_,_,_,_,h,_=>by simp at h
  | _::_,[],_,_,_,_,_,_,_,h=>by simp at h
  | T1::J,X::L,A,l,p,0,T,hA,_,_=>by subst hA;show (A++_).set A.length _=_;rw[fA];rfl
  | T1::J,X::L,A,l,p,i+1,T,hA,h,h2=>by have:=CL (J:=J) (L:=L) (A:=A++((⟨T1.length,false,22,1,s6 X,0⟩:Blk)::T1.map xK)) (l:=l) (p:=p+1+T1.length) (i:=i) (T:=T) t164 t119 t106;rw[List.append_assoc,List.cons_append,←List.append_assoc (T1.map xK),List.append_assoc A,List.cons_append,←List.append_assoc (T1.map xK)]at this;exact this
def YH (h:c7)(J L:List (List (List Nat)))(E:List Nat)(l:c7):c7:=(h++[G0 (h.length+1) (lens J)])++(G1 J L++(FF E::l))
noncomputable def G2 (h:c7)(u:Un)(c:Clo):c7:=h++[⟨0,false,30,4,[.vec u.globals.length (g7 u.globals),.vec u.c4.length (g0 u.c4),.vec u.procs.length (j6 u.procs),.int .i64 u.main],0⟩,⟨0,false,34,3,[.vec c.insts.length (l3 c.insts),.vec c.calls.length (l5 c.calls),.vec c.roots.length (g7 c.roots)],0⟩]
section
variable {h l:c7}{u:Un}{c:Clo}{J L:List (List (List Nat))}{E:List Nat}
theorem sU:(G2 h u c).length=h.length+2:=by simp[G2]
theorem G2_u:(G2 h u c)[h.length]?=some ⟨0,false,30,4,[.vec u.globals.length (g7 u.globals),.vec u.c4.length (g0 u.c4),.vec u.procs.length (j6 u.procs),.int .i64 u.main],0⟩:=by rw[G2,aF];rfl
theorem G2_c:(G2 h u c)[h.length+1]?=some ⟨0,false,34,3,[.vec c.insts.length (l3 c.insts),.vec c.calls.length (l5 c.calls),.vec c.roots.length (g7 c.roots)],0⟩:=by rw[G2,r7];rfl
theorem yQ:(YH h J L E l).length=fP h J+1+l.length:=by simp only[YH,fP,List.length_append,List.length_cons,List.length_nil,F2];omega
theorem YQ {β:Nat}(hβ:β<h.length):(YH h J L E l)[β]?=h[β]?:=by rw[YH,List.append_assoc,List.getElem?_append_left hβ]
theorem YH_u:(YH (G2 h u c) J L E l)[h.length]?=some ⟨0,false,30,4,[.vec u.globals.length (g7 u.globals),.vec u.c4.length (g0 u.c4),.vec u.procs.length (j6 u.procs),.int .i64 u.main],0⟩:=by rw[YQ (by rw[sU];omega),G2_u]
theorem YH_c:(YH (G2 h u c) J L E l)[h.length+1]?=some ⟨0,false,34,3,[.vec c.insts.length (l3 c.insts),.vec c.calls.length (l5 c.calls),.vec c.roots.length (g7 c.roots)],0⟩:=by rw[YQ (by rw[sU];omega),G2_c]
theorem NJ:(YH h J L E l)[h.length]?=some ⟨J.length,false,32,1,rB (h.length+1) (lens J),0⟩:=by rw[YH,List.append_assoc,aF];simp[G0,cL]
theorem YR (hi:i<J.length):(YH h J L E l)[Q4 (h.length+1) (lens J) i]?=some ⟨(J.getD i []).length,false,22,1,s6 (L.getD i []),0⟩:=F3 (by simp) hi
theorem yR:YH h J L E l=((h++[G0 (h.length+1) (lens J)])++G1 J L)++(FF E::l):=by rw[YH,←List.append_assoc]
theorem CM:fP h J=((h++[G0 (h.length+1) (lens J)])++G1 J L).length:=by simp[fP,F2];omega
theorem NK:(YH h J L E l)[fP h J]?=some ⟨1,false,3,1,E.map j8,0⟩:=by rw[yR,CM (L:=L),aF];rfl
theorem YS {T:List (List Nat)}(hi:i<J.length)(h2:i<L.length):(YH h J L E l).set (Q4 (h.length+1) (lens J) i) ⟨(J.getD i []).length,false,22,1,s6 T,0⟩=YH h J (L.set i T) E l:=CL (by simp) hi h2
theorem NL {F:List Nat}:(YH h J L E l).set (fP h J) ⟨1,false,3,1,F.map j8,0⟩=YH h J L F l:=by rw[yR,CM (L:=L),fA,yR];rfl
theorem YT {l':c7}:YH h J L E l++l'=YH h J L E (l++l'):=by simp[YH]
theorem YH_app0:YH h J L E []++l=YH h J L E l:=YT
theorem W9 {b:Blk}:(YH h J L E (b::l))[fP h J+1]?=some b:=by rw[yR,CM (L:=L),r7];rfl
theorem YH_put0 {b b':Blk}:(YH h J L E [b]).set (fP h J+1) b'=YH h J L E [b']:=by rw[yR,CM (L:=L),o4,yR];rfl
theorem P1 {H:c7}{n d:Nat}:∀{J L:List (List (List Nat))} {A l:c7} {p:Nat},H=A++(G1 J L++l)→A.length=p→n≤p→lens L=lens J→n8 (gV n H (d+2)) (rB p (lens J))=some (u9 L)
  | [],[],_,_,_,_,_,_,_=>rfl
  | [],X::L,_,_,_,_,_,_,hl=>by simp[lens]at hl
  | T1::J,[],_,_,_,_,_,_,hl=>by simp[lens]at hl
  | T1::J,X::L,A,l,p,hH,hA,hn,hl=>by
    have hl1:X.length=T1.length:=(List.cons.inj hl).1;have hl2:lens L=lens J:=(List.cons.inj hl).2;have ht:H[p]?=some ⟨T1.length,false,22,1,s6 X,0⟩:=by have:=F3 (J:=T1::J) (L:=X::L) (l:=l) (i:=0) hA (by simp);rw[←hH]at this;exact this
    have h1:gV n H (d+2) (.own p T1.length 0 T1.length)=some (.vec X.length (s6 X)):=by rw[hl1];exact pD ht hn (by rw[p7];exact hl1) ((Hh X).frz _ _ _)
    show n8 (gV n H (d+2)) (.own p T1.length 0 T1.length::rB (p+1+T1.length) (lens J))=_;rw[n8,h1,P1 (J:=J) (L:=L) (A:=A++((⟨T1.length,false,22,1,s6 X,0⟩:Blk)::T1.map xK)) (l:=l) (p:=p+1+T1.length) (by rw[hH,G1];simp only[List.append_assoc,List.cons_append,List.headD_cons,List.tail_cons]) t164 (by omega) hl2];rfl
theorem frz_Y {n d g:Nat}(hn:n≤h.length)(hg:g=J.length)(hl:lens L=lens J):gV n (YH h J L E l) (d+3) (.own h.length g 0 g)=some (.vec g (u9 L)):=by subst hg;exact pD NJ hn (by rw[jY,cL]) (P1 (A:=h++[G0 (h.length+1) (lens J)]) (l:=FF E::l) rfl (by simp) (by omega) hl)
theorem YU {n d m:Nat}(hn:n≤fP h J)(hm:E.length=m):gV n (YH h J L E l) (d+2) (.own (fP h J) 1 0 m)=some (.vec m (E.map j8)):=pD NK hn (by simpa using hm) ((N9 E).frz _ _ _)
variable {E':List Nat}{mx:Nat}
theorem uK {L L':List (List (List Nat))}{E:List Nat}(h1:Shp u c mx L E)(h2:Shp u c mx L' E'):lens L=lens L':=by
  apply List.ext_getElem?;intro i;by_cases hi:i<c.insts.length
  · have e1:=(h1.tb i hi).1
    have e2:=(h2.tb i hi).1;have i1:i<L.length:=by rw[h1.len];exact hi
    have i2:i<L'.length:=by rw[h2.len];exact hi
    simp only[List.getD,List.getElem?_eq_getElem i1,List.getElem?_eq_getElem i2,Option.getD_some]at e1 e2;simp[lens,i1,i2,e1,e2]
  · rw[List.getElem?_eq_none (by rw[cL,h1.len];omega),List.getElem?_eq_none (by rw[cL,h2.len];omega)]
theorem CN {cd:Code}{sl:List AV}{Q:Exit→St→Prop}{g:Nat}:∀{T X:List (List Nat)} {A l:c7} {p:Nat},A.length=p→c9 Tryz.prog cfg cd ⟨sl,A++(⟨g,false,22,1,s6 (X++T),0⟩::((X++T).map xK++l))⟩ Q→
    c9 Tryz.prog cfg cd ⟨sl,A++(⟨g,false,22,1,s6 X++cP (p+1+X.length) T,0⟩::(X.map xK++(T.map nZ++l)))⟩ Q
  | [],X,A,l,p,hA,r=>by simpa [cP] using r
  | y::T,X,A,l,p,hA,r=>by
    subst hA;have hγ:(A++((⟨g,false,22,1,s6 X++cP (A.length+1+X.length) (y::T),0⟩:Blk)::(X.map xK++((y::T).map nZ++l))))[A.length+1+X.length]?=some (nZ y):=by rw[show A.length+1+X.length=A.length+((X.map xK).length+1) from by rw[List.length_map];omega,r7,List.getElem?_cons_succ,aF];rfl
    have hβ:(A++((⟨g,false,22,1,s6 X++cP (A.length+1+X.length) (y::T),0⟩:Blk)::(X.map xK++((y::T).map nZ++l))))[A.length]?=some ⟨g,false,22,1,s6 X++cP (A.length+1+X.length) (y::T),0⟩:=by rw[aF];rfl
    refine c9.zS (γ:=A.length+1+X.length) (off:=0) (len:=y.length) (β:=A.length) (k:=X.length) (cs:=y.map j8) hγ rfl (by simp[nZ]) ?_ hβ (by omega) ?_ ?_
    · show n8 oR (List.take (y.length*1) (List.drop 0 (y.map j8)))=_
      rw[List.drop_zero,Nat.mul_one,List.take_of_length_le (by simp)];exact (N9 y).PY
    · rw[show X.length=(s6 X).length from p7.symm,List.getElem?_append_right (Nat.le_refl _),Nat.sub_self]
      rw[p7];rfl
    · have e1:dD (nZ y) (0+y.length*(nZ y).esz)=xK y:=by show (⟨1,false,3,1,y.map j8,max 0 (0+y.length*1)⟩:Blk)=_;rw[Nat.zero_add,Nat.mul_one,Nat.zero_max];rfl
      have e2:(s6 X++cP (A.length+1+X.length) (y::T)).set X.length (.vec y.length (y.map j8))=s6 (X++[y])++cP (A.length+1+(X++[y]).length) T:=by
        have:s6 (X++[y])=s6 X++[.vec y.length (y.map j8)]:=by simp[s6,bJ]
        rw[this,cP,List.length_append,List.length_cons,List.length_nil,show A.length+1+(X.length+(0+1))=A.length+1+X.length+1 from by omega,show X.length=(s6 X).length from p7.symm,List.set_append_right _ _ (Nat.le_refl _),Nat.sub_self,List.set_cons_zero,List.append_assoc];rfl
      have e3:((A++((⟨g,false,22,1,s6 X++cP (A.length+1+X.length) (y::T),0⟩:Blk)::(X.map xK++((y::T).map nZ++l)))).set (A.length+1+X.length) (xK y)).set A.length ⟨g,false,22,1,s6 (X++[y])++cP (A.length+1+(X++[y]).length) T,0⟩=A++((⟨g,false,22,1,s6 (X++[y])++cP (A.length+1+(X++[y]).length) T,0⟩:Blk)::((X++[y]).map xK++(T.map nZ++l))):=by rw[show A.length+1+X.length=A.length+((X.map xK).length+1) from by rw[List.length_map];omega,o4,List.set_cons_succ,fA,fA,List.map_cons,List.cons_append,List.set_cons_zero,List.set_cons_zero,List.map_append,List.append_assoc];rfl
      rw[e1];show c9 Tryz.prog cfg cd ⟨sl,(List.set _ _ _).set _ ⟨g,false,22,1,(s6 X++cP (A.length+1+X.length) (y::T)).set X.length (.vec y.length (y.map j8)),0⟩⟩ Q;rw[e2,e3];exact CN (X:=X++[y]) rfl (by simpa using r)
theorem CO {cd:Code}{sl:List AV}{Q:Exit→St→Prop}:∀{L:List (List (List Nat))} {A l:c7} {p:Nat},A.length=p→c9 Tryz.prog cfg cd ⟨sl,A++(G1 L L++l)⟩ Q→c9 Tryz.prog cfg cd ⟨sl,A++(lay p L++l)⟩ Q
  | [],A,l,p,hA,r=>r
  | T::L,A,l,p,hA,r=>by
    have e:A++(lay p (T::L)++l)=A++(⟨T.length,false,22,1,s6 ([]:List (List Nat))++cP (p+1+([]:List (List Nat)).length) T,0⟩::(([]:List (List Nat)).map xK++(T.map nZ++(lay (p+1+T.length) L++l)))):=by simp[lay,W6,s6]
    rw[e];refine CN hA ?_;have e2:A++((⟨T.length,false,22,1,s6 (([]:List (List Nat))++T),0⟩:Blk)::((([]:List (List Nat))++T).map xK++(lay (p+1+T.length) L++l)))=(A++((⟨T.length,false,22,1,s6 T,0⟩:Blk)::T.map xK))++(lay (p+1+T.length) L++l):=by simp
    rw[e2];refine CO t164 ?_;have e3:(A++((⟨T.length,false,22,1,s6 T,0⟩:Blk)::T.map xK))++(G1 L L++l)=A++(G1 (T::L) (T::L)++l):=by simp[G1]
    rw[e3];exact r
theorem view_X {cd:Code}{sl:List AV}{Q:Exit→St→Prop}(r:c9 Tryz.prog cfg cd ⟨sl,YH h L L E l⟩ Q):c9 Tryz.prog cfg cd ⟨sl,XH h L E l⟩ Q:=CO (by simp) r
theorem YV {L':List (List (List Nat))}{l':c7}(hl:∀b∈l,∀x∈b.cells,Refs (YH h J L E l).length x):aE (YH h J L' E' l') (YH h J L E l):=by
  have e:∀(L:List (List (List Nat))) (E:List Nat) (l:c7),YH h J L E l=(h++[G0 (h.length+1) (lens J)])++(G1 J L++(FF E::l)):=fun _ _ _=>rfl;have hN:(YH h J L E l).length=fP h J+1+l.length:=yQ;rw[e]at hN hl ⊢;rw[e];refine F1 fun b hb=>?_;rcases List.mem_append.1 hb with hb | hb
  · have key:∀{J L:List (List (List Nat))},∀b∈G1 J L,aO b.cells:=by
      intro J;induction J with
      | nil=>intro L b hb;simp[G1]at hb
      | cons T1 J ih=>
        intro L b hb;rcases List.mem_cons.1 hb with rfl | hb
        · exact Hh _
        · rcases List.mem_append.1 hb with hb | hb
          · obtain ⟨r,_,rfl⟩:=List.mem_map.1 hb
            exact N9 r
          · exact ih b hb
    exact (key b hb).refs _
  · rcases List.mem_cons.1 hb with rfl | hb
    · exact (N9 E).refs _
    · exact hl b hb
end
theorem or1N {a:Nat}(ha:a<512):bits .or .i64 (a:Int) 1=((a|||1:Nat):Int):=orN ha (by decide)
theorem P2 {T:List (List Nat)}{r:List Nat}(h:0<T.length):AV.vec r.length (r.map j8)::List.drop 1 (s6 T)=s6 (T.set 0 r):=XY h
variable {mx:Nat}
theorem clo_at {u:Un}{c:Clo}{L:List (List (List Nat))}{E:List Nat}(h:FL (c.insts.length:Int) 12 (F9 u c mx L E)=12):F9 u c mx L E<c.insts.length:=by
  have h1:F9 u c mx L E≤c.insts.length:=wV;unfold FL at h;split at h
  · cases h
  · omega
theorem c_rinvY {h l:c7}{u:Un}{c:Clo}(hu:WU u)(wc:WC u c)(hmx:mx<u.c4.length){J L:List (List (List Nat))}{E:List Nat}(hS:Shp u c mx L E)(hJ:lens L=lens J):CB 44 [.agg [.vec u.globals.length (g7 u.globals),.vec u.c4.length (g0 u.c4),.vec u.procs.length (j6 u.procs),.int .i64 u.main],.agg [.vec c.insts.length (l3 c.insts),.vec c.calls.length (l5 c.calls),.vec c.roots.length (g7 c.roots)],.int .i64 ((mx:Nat):Int),.own (G2 h u c).length c.insts.length 0 c.insts.length,.own (fP (G2 h u c) J) 1 0 c.insts.length] (YH (G2 h u c) J L E l) (.tup [.int .i64 ((F9 u c mx L E:Nat):Int),.int .i64 (FL (c.insts.length:Int) 12 (F9 u c mx L E))]):=by
  have hJl:J.length=c.insts.length:=by rw[←cL,←hJ,cL];exact hS.len
  exact CallA.borrow (args':=[.agg [.vec u.globals.length (g7 u.globals),.vec u.c4.length (g0 u.c4),.vec u.procs.length (j6 u.procs),.int .i64 u.main],.agg [.vec c.insts.length (l3 c.insts),.vec c.calls.length (l5 c.calls),.vec c.roots.length (g7 c.roots)],.int .i64 ((mx:Nat):Int),.vec c.insts.length (u9 L),.vec c.insts.length (E.map j8)]) (args:=[.agg [.vec u.globals.length (g7 u.globals),.vec u.c4.length (g0 u.c4),.vec u.procs.length (j6 u.procs),.int .i64 u.main],.agg [.vec c.insts.length (l3 c.insts),.vec c.calls.length (l5 c.calls),.vec c.roots.length (g7 c.roots)],.int .i64 ((mx:Nat):Int),.own (G2 h u c).length c.insts.length 0 c.insts.length,.own (fP (G2 h u c) J) 1 0 c.insts.length]) ⟨.inr rfl,.inr rfl,.inr rfl,.inr (frz_Y (Nat.zero_le _) hJl.symm hJ),.inr (YU (Nat.zero_le _) hS.es.1),trivial⟩ ((YM hu wc hmx hS).mono fun y k hq=>hq.1)
attribute [local go_sem] rd bJ r9 u7 r6 n7 l7 aK p7 Int.natCast_nonneg Int.natCast_inj aL dN cW dO gS iD qW jV bP mF tC eM kY kZ iE List.length_set List.length_replicate Int.toNat_natCast_add_one fF wrap64 sC List.length_map dH dP iR iS bP eH dQ jW jX dR dI p7 orN oI beq_self_eq_true bne_self_eq_false W3 yN nY Bool.not_not Fy orN NG E7 E8 jY jF cL G2_u G2_c NJ YR NK YH_u YH_c YS NL W9 jV P2 or1N
theorem F4 {u:Un}{c:Clo}(hu:WU u)(wc:WC u c):Shp u c mx (F8 u c mx c.insts.length) (qV u c mx):=inn_shp hu wc
variable {E':List Nat}
theorem CP {h l:c7}{u:Un}{c:Clo}{J L:List (List (List Nat))}{E:List Nat}(hS1:Shp u c mx J E')(hS:Shp u c mx L E)(hJ:lens L=lens J):iV h.length (YH (G2 h u c) J L E l) 6 (.tup [.own (G2 h u c).length c.insts.length 0 c.insts.length,.own (fP (G2 h u c) J) 1 0 c.insts.length])=some (.tup [.vec c.insts.length (u9 L),.vec c.insts.length (E.map j8)]):=by rw[jO];simp only[n8];rw[bT,if_neg (by rw[sU];omega),frz_Y (by rw[sU];omega) hS1.len.symm hJ,bT,if_neg (by rw[fP,sU];omega),YU (by rw[fP,sU];omega) hS.es.1];rfl
theorem VC {h:c7}{u:Un}{c:Clo}(hu:WU u)(wc:WC u c)(hmx:mx<u.c4.length)(Y:List Int)(hY:Y.length<4611686018427387904):CallA Tryz.prog cfg 45 [.agg [.vec u.globals.length (g7 u.globals),.vec u.c4.length (g0 u.c4),.vec u.procs.length (j6 u.procs),.int .i64 u.main],.agg [.vec c.insts.length (l3 c.insts),.vec c.calls.length (l5 c.calls),.vec c.roots.length (g7 c.roots)],.int .i64 ((mx:Nat):Int),.vec Y.length (g7 Y)] h (fun y' h'=>(∃L E,Shp u c mx L E∧y'=.tup [.vec c.insts.length (u9 L),.vec c.insts.length (E.map j8)])∧h'=h):=by
  refine .bz Tryz.f45 245 ?_;have hwl:=wc.len;have hk8:kM u mx≤8:=eP;have hk9:nS (u.c4.getD mx w3)≤8:=hk8;have hml:=hu.ml;have hrl:=wc.rl;have hrc:c.roots.length≤c.insts.length:=by have:=u4 wc.rs wc.rr;omega
  have hcl:=wc.cl;refine .z ?_;refine c9.w6 (G2 h u c) rfl ?_;refine c256z ?_;refine .n ?_;refine .c6 [2,3,4,5,10,11] ?_;refine c45z ?_;refine .ca rfl rfl (pB u mx) ?_;refine o1.cx rfl rfl hb42 (YP hu wc hmx (F4 hu wc) Y hY) (fun y1 h1 hq1=>?_);obtain ⟨J,E,hS,rfl,rfl⟩:=hq1;refine .n ?_;refine .c6 [2,4,5,10,11] ?_;refine view_X ?_;have hS1:=hS;have hJl:=hS.len;refine c150z ?_;refine .n ?_;refine c7z ?_;refine .w7 (fun m st=>∃(n:Nat) (L:List (List (List Nat))) (E:List Nat),(m=400-n∧(Shp u c mx L E∧n≤400))∧st=⟨mkS 245 [(2,AV.int .i64 ((mx:Nat):Int)),(4,AV.ptr h.length 0 0),(5,AV.ptr (h.length+1) 0 0),(10,AV.own (G2 h u c).length c.insts.length 0 c.insts.length),(11,AV.own (fP (G2 h u c) J) 1 0 c.insts.length),(12,AV.int .i64 ((kM u mx:Nat):Int)),(13,AV.int .i64 ((n:Nat):Int))],YH (G2 h u c) J L E []⟩) _ (.v ⟨0,J,E,⟨rfl,⟨hS,by omega⟩⟩,rfl⟩) ?_;rintro m sl h' ⟨n,L,E,⟨hm,⟨hS,hn⟩⟩,hst⟩;obtain ⟨rfl,rfl⟩:=St.mk.inj hst;have hLl:=hS.len;have hEl:=hS.es.1;have hJ:=uK hS hS1;have hJi:=fun i=>congrArg (fun l=>l.getD i 0) hJ;simp only[CG]at hJi;refine c1z ?_;refine u2z ?_ ?_
  ·intro e1 qe1;refine c3z ?_;refine c25z ?_;refine .ca rfl rfl (c_rinvY hu wc hmx hS hJ) ?_;refine c32z ?_;refine .c6 [2,4,5,10,11,12,13,14,15] ?_;refine .z ?_;refine u2z ?_ ?_
   ·intro e2 qe2;refine c6z ?_;refine .c6 [10,11] ?_;have hS5:=hS;have hJ5:=hS1;refine c27z ?_;exact ⟨_,_,t192,CP hJ5 hS5 (uK hS5 hJ5),⟨_,_,hS5,rfl⟩⟩
   intro e2 qe2;refine .sk ?_;have hi:=clo_at (show FL (c.insts.length:Int) 12 (F9 u c mx L E)=12 by first | assumption | omega);generalize F9 u c mx L E=i at hi ⊢;have wi:=cB wc hi;have w1:=wi.lo;have w2:=wi.hi;have hsz:(c8 u (itI c i)).length≤1664:=n6 hu wi;have hlI:s4 u c i=(c8 u (itI c i)).length:=rfl;have hlp:1≤(c8 u (itI c i)).length:=(bN hu wi).1;have hcll:(c.calls.getD i []).length=(c8 u (itI c i)).length:=wc.cll i hi;have hT0:=hS.tb i hi;have hTl0:=hT0.1;have hR0:=hT0.get (i:=0) (by omega);have hJl:J.length=c.insts.length:=hS1.len;have hJil:(J.getD i []).length=s4 u c i:=(hS1.tb i hi).1;refine .ss u6 (mkP 15 [0,0,3,7,0,0,48,112,240,496,0,1024,4080,8191,16383] [14]) ?_;refine c204z ?_;refine .ca rfl rfl (D9 _ hk8) ?_;refine .ca rfl rfl (nX _ _ (sh_lt hk8) (hR0.lt hk8) (by have:=hR0.1;omega) (by rw[N5];exact hR0.1.symm)) ?_;refine .n [] ?_;refine .seq ?_;refine .c6 [2,4,5,10,11,12,13,14] ?_;have hS:=hS.Th (i:=i) (k:=0) (lW hR0 (LO (kM u mx) 0));generalize (L.set i ((L.getD i []).set 0 (cX ((L.getD i []).getD 0 []) (dhN (kM u mx) 0))))=L at hS ⊢;refine c14z ?_;refine .w7 (fun m st=>∃(E:List Nat) (k:Nat),(m=c.roots.length-k∧(Shp u c mx L E∧k≤c.roots.length))∧st=⟨mkS 245 [(2,AV.int .i64 ((mx:Nat):Int)),(4,AV.ptr h.length 0 0),(5,AV.ptr (h.length+1) 0 0),(10,AV.own (G2 h u c).length c.insts.length 0 c.insts.length),(11,AV.own (fP (G2 h u c) J) 1 0 c.insts.length),(12,AV.int .i64 ((kM u mx:Nat):Int)),(13,AV.int .i64 ((n:Nat):Int)),(14,AV.int .i64 ((i:Nat):Int)),(16,AV.int .i64 ((k:Nat):Int))],YH (G2 h u c) J L E []⟩) _ (.v ⟨E,0,⟨rfl,⟨hS,by omega⟩⟩,rfl⟩) ?_;rintro m sl h' ⟨E,k,⟨hm,⟨hS,hk0⟩⟩,hst⟩;obtain ⟨rfl,rfl⟩:=St.mk.inj hst;have hEl:=hS.es.1;refine c1z ?_;refine u2z ?_ ?_
   ·intro e3 qe3;refine c3z ?_;obtain ⟨hr1,hr2⟩:=MJ wc (show k<c.roots.length by omega);have hr3:(c.roots.getD k 0).toNat<c.insts.length:=hr2.1;have hEr:=hS.es.get (c.roots.getD k 0).toNat;have hk5:=jE hk8;have hor:E.getD (c.roots.getD k 0).toNat 0|||1<2^(kM u mx+1):=Nat.or_lt_two_pow hEr XZ
    refine .so u6 (mkP 17 [0,0,2,0,14,30,0,0,128,0,896,1920,4032,8128,16320,32767,65535] [16]) ?_;refine .k 8 [] ?_;refine c38z ?_;change c9 ..;refine .c6 [2,4,5,10,11,12,13,14,16] ?_;refine .rz ?_;exact ⟨_,by omega,.v ⟨(E.set (c.roots.getD k 0).toNat (E.getD (c.roots.getD k 0).toNat 0|||1)),(k+1),⟨rfl,⟨hS.setE hor,by omega⟩⟩,rfl⟩⟩
   intro e3 qe3;refine c6z ?_;refine c14z ?_;refine .aB (fun m st=>∃(L:List (List (List Nat))) (E:List Nat) (pc:Nat),(m=s4 u c i-pc∧(Shp u c mx L E∧pc≤s4 u c i))∧st=⟨mkS 245 [(2,AV.int .i64 ((mx:Nat):Int)),(4,AV.ptr h.length 0 0),(5,AV.ptr (h.length+1) 0 0),(10,AV.own (G2 h u c).length c.insts.length 0 c.insts.length),(11,AV.own (fP (G2 h u c) J) 1 0 c.insts.length),(12,AV.int .i64 ((kM u mx:Nat):Int)),(13,AV.int .i64 ((n:Nat):Int)),(14,AV.int .i64 ((i:Nat):Int)),(17,AV.int .i64 ((pc:Nat):Int))],YH (G2 h u c) J L E []⟩) (.v ⟨L,E,0,⟨rfl,⟨hS,by omega⟩⟩,rfl⟩ (hr:=t53)) ?_;rintro m sl h' ⟨L,E,pc,⟨hm,⟨hS,hpc0⟩⟩,hst⟩;obtain ⟨rfl,rfl⟩:=St.mk.inj hst;clear hst;have hLl:=hS.len;have hEl:=hS.es.1;have hJ:=uK hS hS1;refine c1z ?_;refine u2z ?_ ?_
   ·intro e4 qe4;refine c3z ?_;have hp:pc<s4 u c i:=by omega
    have hT:=hS.tb i hi;have hTl:=hT.1;have hTp:=hT.get hp;have hop:eB u c i pc=(c8 u (itI c i)).getD pc g6:=rfl;have hpro:=V6 (m:=mx) hu wc (oK L) hi;have hcall:(eB u c i pc).op=2→0≤(c.calls.getD i []).getD pc 0∧(c.calls.getD i []).getD pc 0<c.insts.length:=fun ho=>by have:=(wc.call i hi pc hp).1 (.inl ho);exact ⟨this.1,this.2.1⟩
    have hnl:=kV (x:=(c8 u (itI c i)).getD pc g6) (pc:=pc);have hnxl:(nxI u c i pc).length=(p4 ((c8 u (itI c i)).getD pc g6) pc).length:=rfl;refine .ss u6 (mkP 10 [0,0,2,0,14,30,0,0,255,511] []) ?_;refine .k 8 [] ?_;refine .ca rfl rfl (E4 hu wc hmx hi hp) ?_;refine .n [] ?_;refine .seq ?_;refine .c6 [2,4,5,10,11,12,13,14,17,18] ?_;refine c47z ?_;refine u2z ?_ ?_
    ·intro e5 qe5;refine .c6 [2,4,5,10,11,12,13,14,17] ?_;have hop2:(eB u c i pc).op=2:=by rw[hop];omega
     obtain ⟨hc1,hc2⟩:=hcall hop2;obtain ⟨q,hqe⟩:∃q:Nat,(c.calls.getD i []).getD pc 0=(q:Int):=⟨_,(Int.toNat_of_nonneg hc1).symm⟩;have hc3:=hc1;have hc4:=hc2;rw[hqe]at hc3 hc4;have hq3:q<c.insts.length:=by omega
     have hTq:=hS.tb q hq3;have hTql:(L.getD q []).length=s4 u c q:=hTq.1;have hJql:(J.getD q []).length=s4 u c q:=(hS1.tb q hq3).1;have wq:=cB wc hq3;have wq1:=wq.lo;have wq2:=wq.hi;have hszq:s4 u c q≤1664:=n6 hu wq;have hlIq:s4 u c q=(c8 u (itI c q)).length:=rfl;refine c123z ?_;refine .c6 [2,4,5,10,11,12,13,14,17,19] ?_;refine c22z ?_;simp only[YT,yQ,List.nil_append,List.length_nil,Nat.add_zero];refine c9.UJ (t:=18) (γ:=fP (G2 h u c) J+1) (len:=kM u mx+1) (e:=3) (zs:=List.replicate (kM u mx+1) 0) W9 (by simp) (by omega) (kC (by decide) rfl) ?_;rw[bC,YH_put0];generalize (⟨0,false,3,1,(List.replicate (kM u mx+1) 0).map j8,kM u mx+1⟩:Blk)=Vb;refine c14z ?_;refine .w7 (fun m st=>∃(j:Nat),(m=s4 u c q-j∧(j≤s4 u c q))∧st=⟨mkS 245 [(2,AV.int .i64 ((mx:Nat):Int)),(4,AV.ptr h.length 0 0),(5,AV.ptr (h.length+1) 0 0),(10,AV.own (G2 h u c).length c.insts.length 0 c.insts.length),(11,AV.own (fP (G2 h u c) J) 1 0 c.insts.length),(12,AV.int .i64 ((kM u mx:Nat):Int)),(13,AV.int .i64 ((n:Nat):Int)),(14,AV.int .i64 ((i:Nat):Int)),(17,AV.int .i64 ((pc:Nat):Int)),(18,bJ (wQ u c mx q (L.getD q []) j)),(19,AV.int .i64 ((q:Nat):Int)),(20,AV.int .i64 ((j:Nat):Int))],YH (G2 h u c) J L E [Vb]⟩) _ (.v ⟨0,⟨rfl,by omega⟩,rfl⟩ (hs:=t74)) ?_;rintro m sl h' ⟨j,⟨hm,hj⟩,hst⟩;obtain ⟨rfl,rfl⟩:=St.mk.inj hst;have hopq:(eB u c q j).op=((c8 u (itI c q)).getD j g6).op:=rfl;refine c1z ?_;refine u2z ?_ ?_
     ·intro e6 qe6;refine c3z ?_;have hTj:=hTq.get (i:=j) (by omega);have hEj:=lY (u:=u) (c:=c) (m:=mx) q (L.getD q []) j;refine c47z ?_;refine u2z ?_ ?_
      ·intro e7 qe7;refine .c6 [2,4,5,10,11,12,13,14,17,18,19,20] ?_;refine c87z ?_;refine c164z ?_;refine .c6 [2,4,5,10,11,12,13,14,17,18,19,20] ?_;refine .rz ?_;exact ⟨_,by omega,.v ⟨(j+1),⟨rfl,by omega⟩,rfl⟩ (hs:=t74)⟩
      intro e7 qe7;refine c4z ?_;refine .c6 [2,4,5,10,11,12,13,14,17,18,19,20] ?_;refine .rz ?_;exact ⟨_,by omega,.v ⟨(j+1),⟨rfl,by omega⟩,rfl⟩ (hs:=t74)⟩
     intro e6 qe6;refine .exit ?_;obtain rfl:j=s4 u c q:=by omega
     change c9 ..;refine .c6 [2,4,5,10,11,12,13,14,17,18,19] ?_;have hEq:=hS.es.get q;have hk5:=jE hk8;have hap:applyN ((L.getD i []).getD pc []) (E.getD i 0)<2^(kM u mx+1):=iQ hTp _;have hor:E.getD q 0|||applyN ((L.getD i []).getD pc []) (E.getD i 0)<2^(kM u mx+1):=Nat.or_lt_two_pow hEq hap
     refine .so u6 (mkP 21 [0,0,0,0,12,28,0,0,192,448,0,1984,4032,0,0,24576,57344,131008,262140,524287,1048575] [20]) ?_;refine .k 8 [] ?_;refine .k 8 [] ?_;refine .k 1 [] ?_;refine c126z ?_;change c9 ..;refine .c6 [2,4,5,10,11,12,13,14,17,18] ?_;have hS:=hS.setE (i:=q) hor;generalize (E.set q (E.getD q 0|||applyN ((L.getD i []).getD pc []) (E.getD i 0)))=E at hS ⊢;have hR:=lY (u:=u) (c:=c) (m:=mx) q (L.getD q []) (s4 u c q);generalize wQ u c mx q (L.getD q []) (s4 u c q)=R at hR ⊢;generalize ([Vb]:c7)=V;refine .ss u6 (mkP 9 [0,0,2,0,14,30,0,127,255] []) ?_;refine .k 7 [] ?_;refine .ca rfl rfl (qX hu wi (show pc<(c8 u (itI c i)).length by omega)) ?_;refine .n [] ?_;refine .c6 [2,4,5,10,11,12,13,14,17,18,21] ?_;refine c14z ?_;refine .w7 (fun m st=>∃(L:List (List (List Nat))) (k:Nat),(m=(p4 ((c8 u (itI c i)).getD pc g6) pc).length-k∧(Shp u c mx L E∧k≤(p4 ((c8 u (itI c i)).getD pc g6) pc).length))∧st=⟨mkS 245 [(2,AV.int .i64 ((mx:Nat):Int)),(4,AV.ptr h.length 0 0),(5,AV.ptr (h.length+1) 0 0),(10,AV.own (G2 h u c).length c.insts.length 0 c.insts.length),(11,AV.own (fP (G2 h u c) J) 1 0 c.insts.length),(12,AV.int .i64 ((kM u mx:Nat):Int)),(13,AV.int .i64 ((n:Nat):Int)),(14,AV.int .i64 ((i:Nat):Int)),(17,AV.int .i64 ((pc:Nat):Int)),(18,bJ R),(21,AV.vec (p4 ((c8 u (itI c i)).getD pc g6) pc).length (g7 (p4 ((c8 u (itI c i)).getD pc g6) pc))),(22,AV.int .i64 ((k:Nat):Int))],YH (G2 h u c) J L E V⟩) _ (.v ⟨L,0,⟨rfl,⟨hS,by omega⟩⟩,rfl⟩) ?_;rintro m sl h' ⟨L,k,⟨hm,⟨hS,hk0⟩⟩,hst⟩;obtain ⟨rfl,rfl⟩:=St.mk.inj hst;have hLl:=hS.len;have hT:=hS.tb i hi;have hTl:=hT.1;have hTp:=hT.get hp;refine c1z ?_;refine u2z ?_ ?_
     ·intro e8 qe8;refine c3z ?_;have hq5:=hpro.nx pc hp _ (show (p4 ((c8 u (itI c i)).getD pc g6) pc).getD k 0∈nxI u c i pc from g8 (d:=0) (by omega));have hq6:((p4 ((c8 u (itI c i)).getD pc g6) pc).getD k 0).toNat<s4 u c i:=by omega
      have hRq:=hT.get hq6;have hcm:=eU hTp hR;refine .so u6 (mkP 30 [0,0,3,7,0,0,48,112,0,0,768,1792,0,0,12288,28672,65280,130816,0,0,786432,1835008,0,8126464,16515072,0,66846720,134217472,268435455,536870911] [29]) ?_;refine .k 8 [] ?_;refine .k 8 [] ?_;refine .k 8 [] ?_;refine .k 2 [] ?_;refine .ca rfl rfl (wT _ _ (hR.lt hk8) (by have:=hR.1;omega) (hTp.lt hk8) t104) ?_;refine .ca rfl rfl (nX _ _ (hcm.lt hk8) (hRq.lt hk8) t213 (by have:=hcm.1;have:=hRq.1;omega)) ?_;refine c242z ?_;refine .c6 [2,4,5,10,11,12,13,14,17,18,21,22] ?_;refine .rz ?_;exact ⟨_,by omega,.v ⟨(L.set i ((L.getD i []).set ((p4 ((c8 u (itI c i)).getD pc g6) pc).getD k 0).toNat (cX ((L.getD i []).getD ((p4 ((c8 u (itI c i)).getD pc g6) pc).getD k 0).toNat []) (s5 ((L.getD i []).getD pc []) R)))),(k+1),⟨rfl,⟨hS.Th (lW hRq hcm),by omega⟩⟩,rfl⟩⟩
     intro e8 qe8;refine c6z ?_;refine .rz ?_;exact ⟨_,by omega,.v ⟨L,E,(pc+1),⟨rfl,⟨hS,by omega⟩⟩,rfl⟩ (he:=t212) (hl:=by simp only[yQ];omega) (hk:=by exact YV (fun b hb=>by simp at hb)) (hr:=t53)⟩
    intro e5 qe5;refine .sk ?_;refine .c6 [2,4,5,10,11,12,13,14,17,18] ?_;have hR:=LO (kM u mx) (chI (itI c i) (eB u c i pc) mx);generalize dhN (kM u mx) (chI (itI c i) (eB u c i pc) mx)=R at hR ⊢;obtain ⟨V,hV⟩:∃V:c7,V=[]:=⟨_,rfl⟩;refine c9.w6 (YH (G2 h u c) J L E V) (by rw[hV]) ?_;refine .ss u6 (mkP 9 [0,0,2,0,14,30,0,127,255] []) ?_;refine .k 7 [] ?_;refine .ca rfl rfl (qX hu wi (show pc<(c8 u (itI c i)).length by omega)) ?_;refine .n [] ?_;refine .c6 [2,4,5,10,11,12,13,14,17,18,21] ?_;refine c14z ?_;refine .w7 (fun m st=>∃(L:List (List (List Nat))) (k:Nat),(m=(p4 ((c8 u (itI c i)).getD pc g6) pc).length-k∧(Shp u c mx L E∧k≤(p4 ((c8 u (itI c i)).getD pc g6) pc).length))∧st=⟨mkS 245 [(2,AV.int .i64 ((mx:Nat):Int)),(4,AV.ptr h.length 0 0),(5,AV.ptr (h.length+1) 0 0),(10,AV.own (G2 h u c).length c.insts.length 0 c.insts.length),(11,AV.own (fP (G2 h u c) J) 1 0 c.insts.length),(12,AV.int .i64 ((kM u mx:Nat):Int)),(13,AV.int .i64 ((n:Nat):Int)),(14,AV.int .i64 ((i:Nat):Int)),(17,AV.int .i64 ((pc:Nat):Int)),(18,bJ R),(21,AV.vec (p4 ((c8 u (itI c i)).getD pc g6) pc).length (g7 (p4 ((c8 u (itI c i)).getD pc g6) pc))),(22,AV.int .i64 ((k:Nat):Int))],YH (G2 h u c) J L E V⟩) _ (.v ⟨L,0,⟨rfl,⟨hS,by omega⟩⟩,rfl⟩) ?_;rintro m sl h' ⟨L,k,⟨hm,⟨hS,hk0⟩⟩,hst⟩;obtain ⟨rfl,rfl⟩:=St.mk.inj hst;have hLl:=hS.len;have hT:=hS.tb i hi;have hTl:=hT.1;have hTp:=hT.get hp;refine c1z ?_;refine u2z ?_ ?_
    ·intro e9 qe9;refine c3z ?_;have hq5:=hpro.nx pc hp _ (show (p4 ((c8 u (itI c i)).getD pc g6) pc).getD k 0∈nxI u c i pc from g8 (d:=0) (by omega));have hq6:((p4 ((c8 u (itI c i)).getD pc g6) pc).getD k 0).toNat<s4 u c i:=by omega
     have hRq:=hT.get hq6;have hcm:=eU hTp hR;refine .so u6 (mkP 30 [0,0,3,7,0,0,48,112,0,0,768,1792,0,0,12288,28672,65280,130816,0,0,786432,1835008,0,8126464,16515072,0,66846720,134217472,268435455,536870911] [29]) ?_;refine .k 8 [] ?_;refine .k 8 [] ?_;refine .k 8 [] ?_;refine .k 2 [] ?_;refine .ca rfl rfl (wT _ _ (hR.lt hk8) (by have:=hR.1;omega) (hTp.lt hk8) t104) ?_;refine .ca rfl rfl (nX _ _ (hcm.lt hk8) (hRq.lt hk8) t213 (by have:=hcm.1;have:=hRq.1;omega)) ?_;refine c242z ?_;refine .c6 [2,4,5,10,11,12,13,14,17,18,21,22] ?_;refine .rz ?_;exact ⟨_,by omega,.v ⟨(L.set i ((L.getD i []).set ((p4 ((c8 u (itI c i)).getD pc g6) pc).getD k 0).toNat (cX ((L.getD i []).getD ((p4 ((c8 u (itI c i)).getD pc g6) pc).getD k 0).toNat []) (s5 ((L.getD i []).getD pc []) R)))),(k+1),⟨rfl,⟨hS.Th (lW hRq hcm),by omega⟩⟩,rfl⟩⟩
    intro e9 qe9;refine c6z ?_;refine .rz ?_;exact ⟨_,by omega,.v ⟨L,E,(pc+1),⟨rfl,⟨hS,by omega⟩⟩,rfl⟩ (he:=t212) (hl:=by simp only[yQ];omega) (hk:=by exact YV (fun b hb=>by simp at hb)) (hr:=t53)⟩
   intro e4 qe4;refine c6z ?_;refine .c6 [2,4,5,10,11,12,13] ?_;refine .rz ?_;exact ⟨_,by omega,.v ⟨(n+1),L,E,⟨rfl,⟨hS,by omega⟩⟩,rfl⟩⟩
  intro e1 qe1;refine c6z ?_;have hS5:=hS;have hJ5:=hS1;refine c27z ?_;exact ⟨_,_,t192,CP hJ5 hS5 (uK hS5 hJ5),⟨_,_,hS5,rfl⟩⟩
end Go.Proofs.YtonbocmibeikmaaGreat
end
section
namespace Go.Proofs.YtonbocmibeikmaaGreat
open Go.Ab Go.Un
attribute [local go_sem] l7 aI n7 aP o6 Int.natCast_nonneg Int.natCast_inj List.length_map cE hB_1 hB_2 hB_5 By Bz Ca Cc fK B8 fV U0
variable {c:Core}{e:Frame}{left I:Int}
theorem YW {l:c7}(hc:OkC c)(hI:OkI c.L I)(hL:c.L.length<4611686018427387904)(vars:List BA)(hN:vars.length<1000)(f:Fu)(hp:f.params.length≤2):CH 127 [.ptr 5 0 0,.agg (eE f),.vec vars.length (aD vars)] (hB c e I left++l) (.agg (AF (u5 c f.params vars I).1)) (hB c e (u5 c f.params vars I).2 left++l):=c_ref (e:=⟨e.b0,e.b1,e.b2,e.z,e.m,e.g,e.rest++l⟩) hc hI hL vars hN f hp
variable {n:Nat}
theorem CQ {c:Core}{e:Frame}{I left:Int}{fb rb:Blk}{g:Nat}{zs:List AV}{x1 x2 x3 x4 x5 x6 x7:AV}(hz:zs.length=n*7)(hn:n<1000) :
    j7 cfg 214 (hB c e I left++[fb,rb,o8 214 7 g zs,⟨0,false,214,7,[x1,x2,x3,x4,x5,x6,x7],0⟩]) (.own (e.n+2) g 0 n) (.own (e.n+3) 0 0 1)=some (.own (e.n+2) (g+1) 0 (n+1),hB c e I left++[fb,rb,o8 214 7 (g+1) (zs++[x1,x2,x3,x4,x5,x6,x7]),⟨0,false,214,7,[x1,x2,x3,x4,x5,x6,x7],0⟩]):=by
  have hb:(hB c e I left++[fb,rb,o8 214 7 g zs,⟨0,false,214,7,[x1,x2,x3,x4,x5,x6,x7],0⟩])[e.n+2]?=some (o8 214 7 g zs):=fK;rw[v7 (C:=cfg) (K:=7) (m:=1) (new:=[x1,x2,x3,x4,x5,x6,x7]) hb rfl (by omega) hz rfl (by omega) t146 rfl (by decide) (by omega),fV];rfl
theorem NM {c:Core}{e:Frame}{I left:Int}{fb rb:Blk}{g:Nat}{zs:List AV}{x1 x2 x3:AV}{x:Ex}(hz:zs.length=n*7)(hn:n<1000) :
    j7 cfg 214 (hB c e I left++[fb,rb,o8 214 7 g zs,⟨0,false,214,7,x1::x2::x3::u3 x,0⟩]) (.own (e.n+2) g 0 n) (.own (e.n+3) 0 0 1)=some (.own (e.n+2) (g+1) 0 (n+1),hB c e I left++[fb,rb,o8 214 7 (g+1) (zs++x1::x2::x3::u3 x),⟨0,false,214,7,x1::x2::x3::u3 x,0⟩]):=by
  rw[bK];exact CQ hz hn
variable {ps l:List Pm}{vars:List BA}{j:Nat}{J:Int}
theorem args_t (h:j<l.length)(hm:(l.getD j iM).mu=true):z6 c ps vars (l.drop j) J=(⟨true,(u5 c ps vars J).1,l6⟩::(z6 c ps vars (l.drop (j+1)) (u5 c ps vars J).2).1,(z6 c ps vars (l.drop (j+1)) (u5 c ps vars J).2).2):=by rw[List.drop_eq_getElem_cons h,z6,if_pos (by simpa [List.getD,h] using hm)]
theorem args_f (h:j<l.length)(hm:(l.getD j iM).mu=false):z6 c ps vars (l.drop j) J=(⟨false,n5,(j0 c vars J).1⟩::(z6 c ps vars (l.drop (j+1)) (j0 c vars J).2).1,(z6 c ps vars (l.drop (j+1)) (j0 c vars J).2).2):=by rw[List.drop_eq_getElem_cons h,z6,if_neg (by rw[show l[j].mu=(l.getD j iM).mu from by simp[List.getD,h],hm];decide)]
theorem yS {l:List Ar}{a:Ar}:bE (l++[a])=bE l++FK a:=by simp[bE]
theorem refs_A {l:List Ar}:∀x∈bE l,Refs n x:=by
  intro x hx;obtain ⟨a,_,hx⟩:=List.mem_flatMap.1 hx;simp only[FK,bK,List.mem_cons,List.not_mem_nil,or_false]at hx;rcases hx with rfl | rfl | rfl | rfl | rfl | rfl | rfl
  · exact .bool _
  · exact .str _
  · exact .vec _ _
  · exact .int _ _
  · exact .int _ _
  · exact .str _
  · exact .vec _ _
theorem P3 {J':Int}{xs:List Ar}{a:Ar}(h:z6 c ps vars l I=(xs++(z6 c ps vars (l.drop j) J).1,(z6 c ps vars (l.drop j) J).2))(hs:z6 c ps vars (l.drop j) J=(a::(z6 c ps vars (l.drop (j+1)) J').1,(z6 c ps vars (l.drop (j+1)) J').2)):z6 c ps vars l I=((xs++[a])++(z6 c ps vars (l.drop (j+1)) J').1,(z6 c ps vars (l.drop (j+1)) J').2):=by rw[h,hs];simp only[List.append_assoc,List.cons_append,List.nil_append]
section
attribute [local go_sem] gC wrap64 eE AF CQ NM lT L4 A7
theorem c_args (hc:OkC c)(hI:OkI c.L I)(hL:c.L.length<4611686018427387904)(vars:List BA)(hN:vars.length<1000)(f g:Fu)(hp:f.params.length≤2)(hq:g.params.length≤2):CH 129 [.ptr 5 0 0,.agg (eE f),.agg (eE g),.vec vars.length (aD vars)] (hB c e I left) (.vec (z6 c f.params vars g.params I).1.length (bE (z6 c f.params vars g.params I).1)) (hB c e (z6 c f.params vars g.params I).2 left):=by
  refine .wz Tryz.f129 40 ?_;refine c55z ?_;refine c9.qC 9 rfl ?_;refine .aB (fun m st=>∃(j:Nat) (J:Int) (xs:List Ar),(m=g.params.length-j∧(j≤g.params.length∧OkI c.L J∧xs.length=j∧z6 c f.params vars g.params I=(xs++(z6 c f.params vars (g.params.drop j) J).1,(z6 c f.params vars (g.params.drop j) J).2)))∧st=⟨mkS 40 [(0,AV.ptr 5 0 0),(3,AV.vec vars.length (aD vars)),(5,AV.ptr e.n 0 0),(6,AV.ptr (e.n+1) 0 0),(9,AV.own (e.n+2) j 0 j),(10,AV.int .i64 ((j:Nat):Int))],hB c e J left++[⟨0,false,136,3,[.str f.name,.vec f.params.length (v9 f.params),.vec f.body.len (p5 f.body)],0⟩,⟨0,false,136,3,[.str g.name,.vec g.params.length (v9 g.params),.vec g.body.len (p5 g.body)],0⟩,o8 214 7 j (bE xs)]⟩) (.v ⟨0,I,[],⟨rfl,⟨by omega,hI,rfl,rfl⟩⟩,rfl⟩ (hs:=t38) (hr:=t1)) ?_;rintro m sl h' ⟨j,J,xs,⟨hm,⟨hj,hJ,hal,hA⟩⟩,hst⟩;obtain ⟨rfl,rfl⟩:=St.mk.inj hst;clear hst;have hz7:(bE xs).length=j*7:=by rw[cO,hal];omega
  refine c1z ?_;refine u2z ?_ ?_
  ·intro e1 qe1;refine c73z ?_;refine u2z ?_ ?_
   ·intro e2 qe2;refine .c6 [0,3,5,6,9,10] ?_;refine c147z ?_;refine .ch rfl rfl (YW hc hJ hL vars hN f hp) ?_;refine c28z ?_;refine .c6 [0,3,5,6,9,10] ?_;refine c9.nilsO (β:=e.n+2) (bE (xs++[(⟨true,(u5 c f.params vars J).1,l6⟩:Ar)])) t69 (by rw[yS];exact (pG.refl _).app SH) ?_;simp only[fV,List.set_cons_succ,List.set_cons_zero];refine .rz ?_;exact ⟨_,by omega,.v ⟨(j+1),(u5 c f.params vars J).2,(xs++[(⟨true,(u5 c f.params vars J).1,l6⟩:Ar)]),⟨rfl,⟨by omega,(qF hc hJ).2,by simp[hal],P3 hA (args_t (by omega) (by assumption))⟩⟩,rfl⟩ (he:=t155) (hl:=t29) (hk:=t180) (hs:=t38) (hr:=t1)⟩
   intro e2 qe2;refine .c6 [0,3,5,6,9,10] ?_;refine .r ?_;refine .e 3 ?_;refine .ch rfl rfl (BD hc hJ hL vars hN) ?_;refine c28z ?_;refine c9.nilsO (β:=e.n+2) (bE (xs++[(⟨false,n5,(j0 c vars J).1⟩:Ar)])) t69 (by rw[yS];exact (pG.refl _).app JP) ?_;simp only[fV,List.set_cons_succ,List.set_cons_zero];refine .rz ?_;exact ⟨_,by omega,.v ⟨(j+1),(j0 c vars J).2,(xs++[(⟨false,n5,(j0 c vars J).1⟩:Ar)]),⟨rfl,⟨by omega,(jP hJ).2,by simp[hal],P3 hA (args_f (by omega) (by assumption))⟩⟩,rfl⟩ (he:=t155) (hl:=t29) (hk:=t180) (hs:=t38) (hr:=t1)⟩
  intro e1 qe1;refine c6z ?_;refine .c6 [9] ?_;refine c27z ?_;exact ⟨hB _ _ _ _,_,.vec xs.length (bE xs),rfl,t76,iB,by (show iV _ (hB c e J left++_) 6 (.own (e.n+2) j 0 j)=_;rw[cE,bT,if_neg (by omega),hal];exact kQ fK (by omega) (by rw[cO,hal];omega) (by omega) frz_A),by refine ⟨?_,?_⟩<;>(rw[hA,List.drop_of_length_le (by omega)];simp only[z6,List.append_nil])⟩
end
end Go.Proofs.YtonbocmibeikmaaGreat
end
