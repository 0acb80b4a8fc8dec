/- My own texts, put together by a program of mine. -/
import Derived.Test.YtonbocmibeikmaaGreatCW10
set_option linter.unusedSimpArgs false
set_option linter.unusedVariables false
set_option maxRecDepth 100000
set_option maxHeartbeats 4000000
section
namespace Go.Proofs.YtonbocmibeikmaaGreat
open Go.Ab Go.Un
variable {h l:c6}{b0 b1:Blk}{g n:Nat}
theorem VB {b3:Blk}{T:List (List Nat)}{r:List Nat}{k:Nat}(hn:T.length=n)(hk:r.length=k)(hl:n<100000):j0 cfg 22 (h++(b0::b1::o8 22 1 g (n7 T)::b3::⟨0,false,22,1,[.vec k (r.map l5)],0⟩::l)) (.own (h.length+2) g 0 n) (.own (h.length+4) 0 0 1)=some (.own (h.length+2) (g+1) 0 (n+1),h++(b0::b1::o8 22 1 (g+1) (n7 (T++[r]))::b3::⟨0,false,22,1,[.vec k (r.map l5)],0⟩::l)):=by subst hn hk;rw[u3 (C:=cfg) (K:=1) (m:=1) (new:=[.vec r.length (r.map l5)]) (zs:=n7 T) t23 rfl (by omega) (by simp[n7]) rfl (by omega) t98 rfl (by decide) (by omega),l8,show n7 T++[AV.vec r.length (r.map l5)]=n7 (T++[r]) from by simp[n7,bR]];rfl
theorem VC {b2:Blk}{T:List Nat}{v:Nat}(hn:T.length=n)(hl:n<100000):j0 cfg 3 (h++(b0::b1::b2::o8 3 1 g (T.map l5)::⟨0,false,3,1,[.int .i64 ((v:Nat):Int)],0⟩::l)) (.own (h.length+3) g 0 n) (.own (h.length+4) 0 0 1)=some (.own (h.length+3) (g+1) 0 (n+1),h++(b0::b1::b2::o8 3 1 (g+1) ((T++[v]).map l5)::⟨0,false,3,1,[.int .i64 ((v:Nat):Int)],0⟩::l)):=by subst hn;rw[u3 (C:=cfg) (K:=1) (m:=1) (new:=[.int .i64 ((v:Nat):Int)]) (zs:=T.map l5) t23 rfl (by omega) (by simp) rfl (by omega) t98 rfl (by decide) (by omega),l8,show T.map l5++[AV.int .i64 ((v:Nat):Int)]=(T++[v]).map l5 from by simp[l5]];rfl
theorem VD {T:List Nat}{v:Nat}(hn:T.length=n)(hl:n<100000):j0 cfg 3 (h++(b0::b1::o8 3 1 g (T.map l5)::⟨0,false,3,1,[.int .i64 ((v:Nat):Int)],0⟩::l)) (.own (h.length+2) g 0 n) (.own (h.length+3) 0 0 1)=some (.own (h.length+2) (g+1) 0 (n+1),h++(b0::b1::o8 3 1 (g+1) ((T++[v]).map l5)::⟨0,false,3,1,[.int .i64 ((v:Nat):Int)],0⟩::l)):=by subst hn;rw[u3 (C:=cfg) (K:=1) (m:=1) (new:=[.int .i64 ((v:Nat):Int)]) (zs:=T.map l5) t23 rfl (by omega) (by simp) rfl (by omega) t98 rfl (by decide) (by omega),l8,show T.map l5++[AV.int .i64 ((v:Nat):Int)]=(T++[v]).map l5 from by simp[l5]];rfl
theorem EG {T:List (List Nat)}{k:Nat}(h:k<T.length):T.take (k+1)=T.take k++[T.getD k []]:=by rw[List.take_add_one,List.getElem?_eq_getElem h];simp[List.getD,h]
theorem frz_OI {β len:Nat}{H:c6}{a:List Nat}(hb:H[β]?=some (o8 3 1 g (a.map l5)))(hn:n≤β)(hl:a.length=len)(hp:0<len):gH n H 6 (.own β g 0 len)=some (.vec len (a.map l5)):=by rw[bS t157]at hb;exact Ey hb hn hl
attribute [local go_sem] rd bR u5 z4 s6 o4 l9 bX v9 Int.natCast_nonneg Int.natCast_inj bV gD fA gE fM oN D2 wV jT wW T8 lL sD sE oO List.length_set List.length_replicate Int.toNat_natCast_add_one eT wrap64 M6 List.length_map kJ jD qK uA uB D7 jT mS jE E4 E5 MQ wZ mT eE dY qN E6 v9 E7 U2 orN wD
section
attribute [local go_sem] app_tt3
variable {u:Un}{c:Clo}{mx:Nat}
theorem XU (hu:WU u)(wc:WC u c)(hmx:mx<u.mutexes.length):CB 32 [.agg [.vec u.globals.length (g8 u.globals),.vec u.mutexes.length (g6 u.mutexes),.vec u.procs.length (g9 u.procs),.int .i64 u.main],.agg [.vec c.insts.length (j5 c.insts),.vec c.calls.length (j9 c.calls),.vec c.roots.length (g8 c.roots)],.int .i64 ((mx:Nat):Int)] h (.vec c.insts.length ((kN u c mx).map l5)):=by
  refine .bz Tryz.f32 123 ?_;have hwl:=wc.len;have hk8:kM u mx≤8:=gR;have hk9:gT (u.mutexes.getD mx s8)≤8:=hk8;have hml:=hu.ml;have hrl:=wc.rl;have hrc:c.roots.length≤c.insts.length:=by have:=bW wc.rs wc.rr;omega
  have hel:(kN u c mx).length=c.insts.length:=eE;have hsl:(cR u c mx).length=c.insts.length:=w7.1;have hcl:=wc.cl;refine c91z ?_;refine .ca rfl rfl (En hu wc hmx) ?_;refine .n ?_;refine c10z ?_;refine .c7 [2,3,4,7,8] ?_;refine c15z ?_;refine .s4 (fun m st=>∃(j:Nat) (E:List Nat),(m=c.roots.length-j∧(sR u c mx E j∧j≤c.roots.length))∧st=⟨mkS 123 [(2,AV.int .i64 ((mx:Nat):Int)),(3,AV.ptr h.length 0 0),(4,AV.ptr (h.length+1) 0 0),(7,AV.vec c.insts.length (n7 (cR u c mx))),(8,AV.own (h.length+2) 0 0 c.insts.length),(9,AV.int .i64 ((j:Nat):Int))],h++[⟨0,false,30,4,[.vec u.globals.length (g8 u.globals),.vec u.mutexes.length (g6 u.mutexes),.vec u.procs.length (g9 u.procs),.int .i64 u.main],0⟩,⟨0,false,34,3,[.vec c.insts.length (j5 c.insts),.vec c.calls.length (j9 c.calls),.vec c.roots.length (g8 c.roots)],0⟩,⟨0,false,3,1,E.map l5,0⟩]⟩) (.v ⟨0,(List.replicate c.insts.length 0),⟨rfl,⟨sR.start,by omega⟩⟩,rfl⟩) ?_;rintro m sl h' ⟨j,E,⟨hm,⟨hR,hj⟩⟩,hst⟩;obtain ⟨rfl,rfl⟩:=St.mk.inj hst;clear hst;have hEl:=hR.es.1;refine c0z ?_;refine u2z ?_ ?_
  ·intro e1 qe1;refine c3z ?_;have hr:=wc.rr _ (j4 (d:=0) (show j<c.roots.length by omega));refine c1z ?_;refine .c7 [2,3,4,7,8,9] ?_;refine .rz ?_;exact ⟨_,by omega,.v ⟨(j+1),(E.set (c.roots.getD j 0).toNat 1),⟨rfl,⟨hR.next hu wc (by omega),by omega⟩⟩,rfl⟩ (he:=t12) (hk:=by exact (u6.refl _).app rfl ⟨.inl rfl,.inl rfl,.inr ((N4 _).refs _),trivial⟩)⟩
  intro e1 qe1;refine .exit ?_;obtain rfl:j=c.roots.length:=by omega
  have hG:=hR.all wc;change g5 ..;refine c19z ?_;refine g5.qY 10 rfl ?_;refine .s4 (fun m st=>∃(i:Nat),(m=c.insts.length-i∧(i≤c.insts.length))∧st=⟨mkS 123 [(2,AV.int .i64 ((mx:Nat):Int)),(3,AV.ptr h.length 0 0),(4,AV.ptr (h.length+1) 0 0),(7,AV.vec c.insts.length (n7 (cR u c mx))),(8,AV.own (h.length+2) 0 0 c.insts.length),(10,AV.own (h.length+3) i 0 i),(11,AV.int .i64 ((i:Nat):Int))],h++[⟨0,false,30,4,[.vec u.globals.length (g8 u.globals),.vec u.mutexes.length (g6 u.mutexes),.vec u.procs.length (g9 u.procs),.int .i64 u.main],0⟩,⟨0,false,34,3,[.vec c.insts.length (j5 c.insts),.vec c.calls.length (j9 c.calls),.vec c.roots.length (g8 c.roots)],0⟩,⟨0,false,3,1,E.map l5,0⟩,o8 32 1 i (eJ (sS u c mx i))]⟩) (.v ⟨0,⟨rfl,by omega⟩,rfl⟩ (hs:=t11)) ?_ (he:=by (first | rfl | (rw[N0];simp only[List.append_assoc,List.cons_append,List.nil_append];rfl)));rintro m sl h' ⟨i,⟨hm,hi0⟩,hst⟩;obtain ⟨rfl,rfl⟩:=St.mk.inj hst;clear hst;have hinl:(sS u c mx i).length=i:=jE;refine c0z ?_;refine u2z ?_ ?_
  ·intro e2 qe2;refine c3z ?_;have hi:i<c.insts.length:=by omega
   have hTi0:(kH u c mx (cR u c mx) i).length=u7 u c i:=oP;refine .r ?_;refine .e 6 ?_;refine .ca rfl rfl (wY hu wc hmx w7 hi) ?_;refine c27z ?_;refine .c7 [2,3,4,7,8,10,11] ?_;refine .rz ?_;exact ⟨_,by omega,.v ⟨(i+1),⟨rfl,by omega⟩,rfl⟩ (he:=t172) (hk:=by exact (u6.refl _).app rfl ⟨.inl rfl,.inl rfl,.inl rfl,.inr (by rw[o1];exact (UZ _).refs _),trivial⟩) (hs:=t11)⟩
  intro e2 qe2;refine .exit ?_;obtain rfl:i=c.insts.length:=by omega
  refine g5.uZ (t:=10) (γ:=h.length+3) (len:=c.insts.length) t23 (by rw[mS,jE,Nat.mul_one]) (by omega) (UZ _) (kR (by decide) rfl) ?_;rw[bL];simp only[l8,List.set_cons_succ,List.set_cons_zero];generalize fG _ _ _ _ _=Ib;change g5 ..;refine .seq ?_;refine .c7 [3,4,8,10] ?_;refine c15z ?_;refine .s4 (fun m st=>∃(E1:List Nat) (ag:Bool),(m=mEnt c E1 ag∧(EF u c mx E1∧(ag=false→E1=(kN u c mx))))∧st=⟨mkS 123 [(3,AV.ptr h.length 0 0),(4,AV.ptr (h.length+1) 0 0),(8,AV.own (h.length+2) 0 0 c.insts.length),(10,AV.vec c.insts.length (eJ (sS u c mx c.insts.length))),(12,AV.bool ag)],h++[⟨0,false,30,4,[.vec u.globals.length (g8 u.globals),.vec u.mutexes.length (g6 u.mutexes),.vec u.procs.length (g9 u.procs),.int .i64 u.main],0⟩,⟨0,false,34,3,[.vec c.insts.length (j5 c.insts),.vec c.calls.length (j9 c.calls),.vec c.roots.length (g8 c.roots)],0⟩,⟨0,false,3,1,E1.map l5,0⟩,Ib]⟩) (.v ⟨E,true,⟨rfl,⟨hG,fun hf=>by cases hf⟩⟩,rfl⟩) ?_;rintro m sl h' ⟨E1,ag,⟨hm,⟨hG1,hdone⟩⟩,hst⟩;obtain ⟨rfl,rfl⟩:=St.mk.inj hst;clear hst;refine c0z ?_;refine u2z ?_ ?_
  ·intro e3 qe3;refine c123z ?_;have hag:ag=true:=by assumption
   subst hag;refine .z ?_;refine c15z ?_;refine .s4 (fun m st=>∃(E2:List Nat) (a2:Bool) (i:Nat),(m=c.insts.length-i∧(M9 u c mx E1 E2 a2 i 0∧i≤c.insts.length))∧st=⟨mkS 123 [(3,AV.ptr h.length 0 0),(4,AV.ptr (h.length+1) 0 0),(8,AV.own (h.length+2) 0 0 c.insts.length),(10,AV.vec c.insts.length (eJ (sS u c mx c.insts.length))),(12,AV.bool a2),(13,AV.int .i64 ((i:Nat):Int))],h++[⟨0,false,30,4,[.vec u.globals.length (g8 u.globals),.vec u.mutexes.length (g6 u.mutexes),.vec u.procs.length (g9 u.procs),.int .i64 u.main],0⟩,⟨0,false,34,3,[.vec c.insts.length (j5 c.insts),.vec c.calls.length (j9 c.calls),.vec c.roots.length (g8 c.roots)],0⟩,⟨0,false,3,1,E2.map l5,0⟩,Ib]⟩) (.v ⟨E1,false,0,⟨rfl,⟨M9.start hG1,by omega⟩⟩,rfl⟩) ?_;rintro m sl h' ⟨E2,a2,i,⟨hm,⟨hJ,hi0⟩⟩,hst⟩;obtain ⟨rfl,rfl⟩:=St.mk.inj hst;clear hst;refine c0z ?_;refine u2z ?_ ?_
   ·intro e4 qe4;refine c3z ?_;have hi:i<c.insts.length:=by omega
    have w:=dX wc hi;have w1:=w.lo;have w2:=w.hi;have hsz:(c5 u (itI c i)).length≤1664:=n8 hu w;have hcll:(c.calls.getD i []).length=(c5 u (itI c i)).length:=wc.cll i hi;have hlI:u7 u c i=(c5 u (itI c i)).length:=rfl;have hTl:(kH u c mx (cR u c mx) i).length=u7 u c i:=oP;have hcall:∀j,j<u7 u c i→(dP u c i j).op=2→0≤(c.calls.getD i []).getD j 0∧(c.calls.getD i []).getD j 0<c.insts.length:=fun j hp ho=>by have:=(wc.call i hi j hp).1 (.inl ho);exact ⟨this.1,this.2.1⟩
    refine c15z ?_;refine .s4 (fun m st=>∃(E3:List Nat) (a3:Bool) (j:Nat),(m=u7 u c i-j∧(M9 u c mx E1 E3 a3 i j∧j≤u7 u c i))∧st=⟨mkS 123 [(3,AV.ptr h.length 0 0),(4,AV.ptr (h.length+1) 0 0),(8,AV.own (h.length+2) 0 0 c.insts.length),(10,AV.vec c.insts.length (eJ (sS u c mx c.insts.length))),(12,AV.bool a3),(13,AV.int .i64 ((i:Nat):Int)),(14,AV.int .i64 ((j:Nat):Int))],h++[⟨0,false,30,4,[.vec u.globals.length (g8 u.globals),.vec u.mutexes.length (g6 u.mutexes),.vec u.procs.length (g9 u.procs),.int .i64 u.main],0⟩,⟨0,false,34,3,[.vec c.insts.length (j5 c.insts),.vec c.calls.length (j9 c.calls),.vec c.roots.length (g8 c.roots)],0⟩,⟨0,false,3,1,E3.map l5,0⟩,Ib]⟩) (.v ⟨E2,a2,0,⟨rfl,⟨hJ,by omega⟩⟩,rfl⟩) ?_;rintro m sl h' ⟨E3,a3,j,⟨hm,⟨hJ1,hj0⟩⟩,hst⟩;obtain ⟨rfl,rfl⟩:=St.mk.inj hst;clear hst;have hE3:E3.length=c.insts.length:=hJ1.g.es.1;refine c0z ?_;refine u2z ?_ ?_
    ·intro e5 qe5;refine c3z ?_;refine .seq ?_;have hjp:j<u7 u c i:=by omega
     have hop0:(dP u c i j).op=((c5 u (itI c i)).getD j c8).op:=rfl;refine c49z ?_;refine u2z ?_ ?_
     ·intro e6 qe6;refine c6z ?_;refine c263z ?_;exact ⟨_,by omega,.v ⟨E3,a3,(j+1),⟨rfl,⟨hJ1.skip (fun ho=>absurd ho (by rw[hop0];omega)),by omega⟩⟩,rfl⟩ (he:=t12) (hk:=t72)⟩
     intro e6 qe6;refine .sk ?_;refine .c7 [3,4,8,10,12,13,14] ?_;have hop:(dP u c i j).op=2:=by rw[hop0];omega
     obtain ⟨hc1,hc2⟩:=hcall j hjp hop;obtain ⟨q,hqe⟩:∃q:Nat,(c.calls.getD i []).getD j 0=(q:Int):=⟨_,(Int.toNat_of_nonneg hc1).symm⟩;have hqc:dB c i j=q:=by unfold dB;rw[hqe];rfl
     have hTi:=(iP (u:=u) (c:=c) (m:=mx) (cR u c mx) i).get hjp;have hc3:=hc1;have hc4:=hc2;rw[hqe]at hc3 hc4;have hq3:q<c.insts.length:=by omega
     refine c124z ?_;refine .c7 [3,4,8,10,12,13,14,15] ?_;rw[hqe];have hfl:applyN ((kH u c mx (cR u c mx) i).getD j []) (E3.getD i 0)<512:=Nat.lt_of_lt_of_le (nK hTi _) (sF hk8).2;have hEq:E3.getD q 0<512:=hJ1.g.es.lt _ (j4 (by omega));have hne:(E3.getD q 0|||applyN ((kH u c mx (cR u c mx) i).getD j []) (E3.getD i 0))=E3.getD q 0↔∀b,(qL u c mx E3 i j).testBit b=true→bt E3 (dB c i j) b=true:=by rw[hqc];exact or_same
     refine .ss u4 (mkP 18 [0,0,3,7,0,0,48,112,0,496,1008,0,0,6144,14336,32752,65535,131071] []) ?_;refine .k 8 [] ?_;refine .k 7 [] ?_;refine .ca rfl rfl (AW _ _ (hTi.lt hk8) (hJ1.g.es.lt _ (j4 (by omega))) t208) ?_;refine .n [] ?_;refine .c7 [3,4,8,10,12,13,14,15,16] ?_;refine .z ?_;refine u2z ?_ ?_
     ·intro e7 qe7;refine c1z ?_;refine c263z ?_;exact ⟨_,by omega,.v ⟨(E3.set q (E3.getD q 0|||qL u c mx E3 i j)),true,(j+1),⟨rfl,⟨by rw[←hqc];exact hJ1.grow hu wc hi hjp hop (fun hs=>absurd (hne.2 hs) (by omega)),by omega⟩⟩,rfl⟩ (he:=t12) (hk:=t72)⟩
     intro e7 qe7;refine c4z ?_;refine c263z ?_;exact ⟨_,by omega,.v ⟨E3,a3,(j+1),⟨rfl,⟨hJ1.skip (fun _=>hne.1 (by omega)),by omega⟩⟩,rfl⟩ (he:=t12) (hk:=t72)⟩
    intro e5 qe5;refine .exit ?_;obtain rfl:j=u7 u c i:=by omega
    change g5 ..;refine .c7 [3,4,8,10,12,13] ?_;refine .rz ?_;exact ⟨_,by omega,.v ⟨E3,a3,(i+1),⟨rfl,⟨hJ1.fin,by omega⟩⟩,rfl⟩ (he:=t12) (hk:=t72)⟩
   intro e4 qe4;refine .exit ?_;obtain rfl:i=c.insts.length:=by omega
   have hlt:=mEnt_lt hJ;exact ⟨_,by omega,.v ⟨E2,a2,⟨rfl,⟨hJ.g,fun hf=>by subst hf;exact hJ.done hu wc⟩⟩,rfl⟩ (he:=t12) (hk:=t72)⟩
  intro e3 qe3;refine c92z ?_;exact ⟨_,_,rfl,Ey t23 (by omega) hG1.es.1,by (rw[hdone (by assumption)])⟩
end
section
attribute [local go_sem] VD
variable {u:Un}{c:Clo}{mx:Nat}
theorem c_exiR (hu:WU u)(wc:WC u c)(hmx:mx<u.mutexes.length):CB 35 [.agg [.vec u.globals.length (g8 u.globals),.vec u.mutexes.length (g6 u.mutexes),.vec u.procs.length (g9 u.procs),.int .i64 u.main],.agg [.vec c.insts.length (j5 c.insts),.vec c.calls.length (j9 c.calls),.vec c.roots.length (g8 c.roots)],.int .i64 ((mx:Nat):Int)] h (.vec c.insts.length ((AS u c mx).map l5)):=by
  refine .bz Tryz.f35 38 ?_;have hwl:=wc.len;have hk8:kM u mx≤8:=gR;have hk9:gT (u.mutexes.getD mx s8)≤8:=hk8;have hml:=hu.ml;have hrl:=wc.rl;have hrc:c.roots.length≤c.insts.length:=by have:=bW wc.rs wc.rr;omega
  have hel:(kN u c mx).length=c.insts.length:=eE;have hsl:(cR u c mx).length=c.insts.length:=w7.1;have hcl:=wc.cl;have hxl:(AS u c mx).length=c.insts.length:=qN;refine .z ?_;refine .ss u4 (mkP 10 [0,0,0,7,0,0,0,127,255,511] []) ?_;refine .k 3 [] ?_;refine .ca rfl rfl (En hu wc hmx) ?_;refine .k 3 [] ?_;refine .ca rfl rfl (XU hu wc hmx) ?_;refine .n [] ?_;refine .c7 [7,8] ?_;refine c19z ?_;refine g5.qY 9 rfl ?_;refine .s4 (fun m st=>∃(i:Nat),(m=c.insts.length-i∧(i≤c.insts.length))∧st=⟨mkS 38 [(7,AV.vec c.insts.length (n7 (cR u c mx))),(8,AV.vec c.insts.length ((kN u c mx).map l5)),(9,AV.own (h.length+2) i 0 i),(10,AV.int .i64 ((i:Nat):Int))],h++[⟨0,false,30,4,[.vec u.globals.length (g8 u.globals),.vec u.mutexes.length (g6 u.mutexes),.vec u.procs.length (g9 u.procs),.int .i64 u.main],0⟩,⟨0,false,34,3,[.vec c.insts.length (j5 c.insts),.vec c.calls.length (j9 c.calls),.vec c.roots.length (g8 c.roots)],0⟩,o8 3 1 i (((AS u c mx).take i).map l5)]⟩) (.v ⟨0,⟨rfl,by omega⟩,rfl⟩ (hs:=t11)) ?_;rintro m sl h' ⟨i,⟨hm,hi0⟩,hst⟩;obtain ⟨rfl,rfl⟩:=St.mk.inj hst;clear hst;have htk:((AS u c mx).take i).length=i:=by rw[List.length_take];omega
  refine c0z ?_;refine u2z ?_ ?_
  ·intro e1 qe1;refine c3z ?_;have hSi:=(w7 (u:=u) (c:=c) (m:=mx)).get (i:=i) (by omega);refine g5.jI u4 (mkP 13 [0,0,0,6,14,0,0,96,224,510,1022,2047,4095] [10,11]) [0] (by kernel_rfl) (by kernel_rfl) ?_;refine cQ.p (pd:=[]) 9 ?_;refine cQ.call rfl rfl rfl rfl rfl hb58 (AW _ _ (hSi.lt hk8) (rP.lt _ (j4 (by omega))) (by have:=hSi.1;omega)) ?_;refine cQ.p 3 ?_;refine c143z ?_;refine .c7 [7,8,9,10] ?_;refine .rz ?_;exact ⟨_,by omega,.v ⟨(i+1),⟨rfl,by omega⟩,rfl⟩ (he:=by (rw[mQ (by omega),U0 (by omega)];simp only[List.append_assoc,List.cons_append,List.nil_append];rfl)) (hk:=by exact (u6.refl _).app rfl ⟨.inl rfl,.inl rfl,.inr (by rw[o1];exact (N4 _).refs _),trivial⟩) (hs:=t11)⟩
  intro e1 qe1;refine .exit ?_;obtain rfl:i=c.insts.length:=by omega
  refine c197z ?_;exact ⟨_,_,rfl,frz_OI t23 (by omega) htk (by omega),by (rw[List.take_of_length_le (by omega)])⟩
end
section
attribute [local go_sem] VB VC
variable {u:Un}{c:Clo}{mx:Nat}
theorem c_befR (hu:WU u)(wc:WC u c)(hmx:mx<u.mutexes.length):CB 18 [.agg [.vec u.globals.length (g8 u.globals),.vec u.mutexes.length (g6 u.mutexes),.vec u.procs.length (g9 u.procs),.int .i64 u.main],.agg [.vec c.insts.length (j5 c.insts),.vec c.calls.length (j9 c.calls),.vec c.roots.length (g8 c.roots)],.int .i64 ((mx:Nat):Int)] h (.vec c.insts.length (n7 (jR u c mx))):=by
  refine .bz Tryz.f18 58 ?_;have hwl:=wc.len;have hk8:kM u mx≤8:=gR;have hk9:gT (u.mutexes.getD mx s8)≤8:=hk8;have hml:=hu.ml;have hrl:=wc.rl;have hrc:c.roots.length≤c.insts.length:=by have:=bW wc.rs wc.rr;omega
  have hel:(kN u c mx).length=c.insts.length:=eE;have hsl:(cR u c mx).length=c.insts.length:=w7.1;have hcl:=wc.cl;have hbl:(jR u c mx).length=c.insts.length:=dY;refine .z ?_;refine .ss u4 (mkP 10 [0,0,0,7,0,0,0,127,255,511] []) ?_;refine .k 3 [] ?_;refine .ca rfl rfl (En hu wc hmx) ?_;refine .k 3 [] ?_;refine .ca rfl rfl (XU hu wc hmx) ?_;refine .n [] ?_;refine .c7 [2,3,4,7,8] ?_;refine c19z ?_;refine g5.qY 9 rfl ?_;refine .s4 (fun m st=>∃(i:Nat),(m=c.insts.length-i∧(i≤c.insts.length))∧st=⟨mkS 58 [(2,AV.int .i64 ((mx:Nat):Int)),(3,AV.ptr h.length 0 0),(4,AV.ptr (h.length+1) 0 0),(7,AV.vec c.insts.length (n7 (cR u c mx))),(8,AV.vec c.insts.length ((kN u c mx).map l5)),(9,AV.own (h.length+2) i 0 i),(10,AV.int .i64 ((i:Nat):Int))],h++[⟨0,false,30,4,[.vec u.globals.length (g8 u.globals),.vec u.mutexes.length (g6 u.mutexes),.vec u.procs.length (g9 u.procs),.int .i64 u.main],0⟩,⟨0,false,34,3,[.vec c.insts.length (j5 c.insts),.vec c.calls.length (j9 c.calls),.vec c.roots.length (g8 c.roots)],0⟩,o8 22 1 i (n7 ((jR u c mx).take i))]⟩) (.v ⟨0,⟨rfl,by omega⟩,rfl⟩ (hs:=t11)) ?_;rintro m sl h' ⟨i,⟨hm,hi0⟩,hst⟩;obtain ⟨rfl,rfl⟩:=St.mk.inj hst;clear hst;have htk:((jR u c mx).take i).length=i:=by rw[List.length_take];omega
  refine c0z ?_;refine u2z ?_ ?_
  ·intro e1 qe1;refine c3z ?_;have hi:i<c.insts.length:=by omega
   have hsz:u7 u c i≤1664:=n8 hu (dX wc hi);have hTl:(kH u c mx (cR u c mx) i).length=u7 u c i:=oP;have hbi:(lZ u c mx i).length=u7 u c i:=aQ;have hlp:0<u7 u c i:=(fT hu (dX wc hi)).1;refine c24z ?_;refine .ca rfl rfl (wY hu wc hmx w7 hi) ?_;refine .n ?_;refine .c7 [2,3,4,7,8,9,10,11] ?_;refine c19z ?_;refine g5.qY 12 rfl ?_;refine .s4 (fun m st=>∃(j:Nat),(m=u7 u c i-j∧(j≤u7 u c i))∧st=⟨mkS 58 [(2,AV.int .i64 ((mx:Nat):Int)),(3,AV.ptr h.length 0 0),(4,AV.ptr (h.length+1) 0 0),(7,AV.vec c.insts.length (n7 (cR u c mx))),(8,AV.vec c.insts.length ((kN u c mx).map l5)),(9,AV.own (h.length+2) i 0 i),(10,AV.int .i64 ((i:Nat):Int)),(11,AV.vec (u7 u c i) (n7 (kH u c mx (cR u c mx) i))),(12,AV.own (h.length+3) j 0 j),(13,AV.int .i64 ((j:Nat):Int))],h++[⟨0,false,30,4,[.vec u.globals.length (g8 u.globals),.vec u.mutexes.length (g6 u.mutexes),.vec u.procs.length (g9 u.procs),.int .i64 u.main],0⟩,⟨0,false,34,3,[.vec c.insts.length (j5 c.insts),.vec c.calls.length (j9 c.calls),.vec c.roots.length (g8 c.roots)],0⟩,o8 22 1 i (n7 ((jR u c mx).take i)),o8 3 1 j (((lZ u c mx i).take j).map l5)]⟩) (.v ⟨0,⟨rfl,by omega⟩,rfl⟩ (hs:=t11)) ?_;rintro m sl h' ⟨j,⟨hm,hj0⟩,hst⟩;obtain ⟨rfl,rfl⟩:=St.mk.inj hst;clear hst;have htr:((lZ u c mx i).take j).length=j:=by rw[List.length_take,aQ];omega
   refine c0z ?_;refine u2z ?_ ?_
   ·intro e2 qe2;refine c3z ?_;have hTi:=(iP (u:=u) (c:=c) (m:=mx) (cR u c mx) i).get (i:=j) (by omega);refine g5.jI u4 (mkP 13 [0,0,0,6,14,0,0,96,224,510,1022,2047,4095] [10,11]) [0] (by kernel_rfl) (by kernel_rfl) ?_;refine cQ.p (pd:=[]) 9 ?_;refine cQ.call rfl rfl rfl rfl rfl hb58 (AW _ _ (hTi.lt hk8) (rP.lt _ (j4 (by omega))) t208) ?_;refine cQ.p 3 ?_;refine c143z ?_;refine .c7 [2,3,4,7,8,9,10,11,12,13] ?_;refine .rz ?_;exact ⟨_,by omega,.v ⟨(j+1),⟨rfl,by omega⟩,rfl⟩ (he:=by (rw[mQ (by rw[aQ];omega),tY (by omega)];simp only[List.append_assoc,List.cons_append,List.nil_append];rfl)) (hk:=by exact (u6.refl _).app rfl ⟨.inl rfl,.inl rfl,.inl rfl,.inr (by rw[o1];exact (N4 _).refs _),trivial⟩) (hs:=t11)⟩
   intro e2 qe2;refine .exit ?_;obtain rfl:j=u7 u c i:=by omega
   rw[List.take_of_length_le (Nat.le_of_eq hbi)];refine g5.uZ (t:=12) (γ:=h.length+3) (len:=u7 u c i) t23 (by rw[List.length_map,hbi,Nat.mul_one]) (by omega) (N4 _) (kR (by decide) rfl) ?_;rw[bL];simp only[l8,List.set_cons_succ,List.set_cons_zero];generalize fG _ _ _ _ _=Ib;change g5 ..;refine c1z ?_;refine .c7 [2,3,4,7,8,9,10] ?_;refine .rz ?_;exact ⟨_,by omega,.v ⟨(i+1),⟨rfl,by omega⟩,rfl⟩ (he:=by (rw[EG (by omega),kK (by omega)];simp only[List.append_assoc,List.cons_append,List.nil_append];rfl)) (hk:=t97) (hs:=t11)⟩
  intro e1 qe1;refine .exit ?_;obtain rfl:i=c.insts.length:=by omega
  change g5 ..;refine .c7 [9] ?_;refine c17z ?_;exact ⟨_,_,rfl,El t23 (by omega) htk (by omega),by (rw[List.take_of_length_le (by omega)])⟩
end
end Go.Proofs.YtonbocmibeikmaaGreat
end
section
namespace Go.Un
open Go.Ab
section
variable {u:Un}{c:Clo}{m:Nat}
def toN (p:Int×Int):Nat×Nat:=(p.1.toNat,p.2.toNat)
def rS (u:Un)(c:Clo)(m:Nat)(x:Cf):Prop:=qI u c m x.d.toNat (x.st.map toN).reverse
theorem rS.begin (wc:WC u c){r:Int}(hr:r∈c.roots):rS u c m ⟨0,[(r,0)]⟩:=by have h:=wc.rr r hr;exact qI.begin (r:=r.toNat) (by rwa[Int.toNat_of_nonneg h.1])
theorem VE {n:Nat}{x:Cf}(h:WCf u c m n x)(hp:0<x.st.length):∃(d i pc:Nat) (b:List (Int×Int)),x=⟨(d:Int),b++[((i:Int),(pc:Int))]⟩:=by obtain ⟨b,i,pc,he,_⟩:=h.snoc hp;have h0:=h.d0;exact ⟨x.d.toNat,i,pc,b,by rw[Int.toNat_of_nonneg h0];exact he⟩
theorem yT {d i pc:Nat}{b:List (Int×Int)}:rS u c m ⟨(d:Int),b++[((i:Int),(pc:Int))]⟩↔qI u c m d ((i,pc)::(b.map toN).reverse):=by unfold rS;simp[toN]
theorem rS.steps (hu:WU u)(wc:WC u c){n:Nat}{x:Cf}(w:WCf u c m n x)(h:rS u c m x):∀y∈hU u c m x,rS u c m y:=by
 intro y hy;by_cases hp:0<x.st.length
 ·obtain ⟨d,i,pc,b,rfl⟩:=VE w hp;rw[oL]at hy;have h':=yT.1 h;have e1:ptX u c ((i:Int),(pc:Int))=dP u c i pc:=rfl;have e2:ptI c ((i:Int),(pc:Int))=itI c i:=rfl;have e3:(ptC c ((i:Int),(pc:Int))).toNat=dB c i pc:=rfl;have key:∃y'∈BF u c m d (b.map toN) i pc,y'.depth=y.d.toNat∧y'.stack=y.st.map toN:=by
   unfold jS at hy;rw[e1,e2]at hy;unfold BF;split at hy
   ·rename_i ho;rw[if_pos ho];rw[List.mem_singleton.1 hy];exact ⟨_,List.mem_singleton.2 rfl,by simp,rfl⟩
   ·rename_i h8;rw[if_neg h8];split at hy
    ·rename_i ho;rw[if_pos ho];rw[List.mem_singleton.1 hy];refine ⟨_,List.mem_singleton.2 rfl,by simp,?_⟩;have e4:((pc:Int)+1).toNat=pc+1:=by omega
     simp[toN,e3,e4]
    ·rename_i h2;rw[if_neg h2];split at hy
     ·rename_i hr;have hr':0≤(d:Int)+chI (itI c i) (dP u c i pc) m∧(d:Int)+chI (itI c i) (dP u c i pc) m≤(kM u m:Int):=hr;rw[if_pos hr'];obtain ⟨k,hk,rfl⟩:=List.mem_map.1 hy;refine ⟨_,List.mem_map.2 ⟨k,hk,rfl⟩,rfl,?_⟩;simp[toN]
     ·simp at hy
  obtain ⟨y',h1,h2,h3⟩:=key;have h4:=h'.steps hu wc (y:=y') (by rw[List.reverse_reverse];exact h1);rw[h2,h3]at h4;exact h4
 ·obtain ⟨d,st⟩:=x;obtain rfl:st=[]:=List.length_eq_zero_iff.1 (by simp only at hp;omega);simp[hU]at hy
theorem rS.bit (hu:WU u)(wc:WC u c){d i pc:Nat}{b:List (Int×Int)}(h:rS u c m ⟨(d:Int),b++[((i:Int),(pc:Int))]⟩):((lZ u c m i).getD pc 0).testBit d=true:=(yT.1 h).bit hu wc
end
end Go.Un
end
section
namespace Go.PlM
def E (n:Nat)(bf:List Nat):Ab.s9:=⟨bf.map (Ab.unm n),[],bf.map fun _=>0,bf.map fun _=>0,[],[0],[]⟩
def G (n:Nat)(bf:List Nat)(em:Nat)(rq fb:List Nat)(pl:List (Nat×Nat))(ss mu:List Nat):Ab.s9:=⟨bf.map (Ab.unm n),(List.range n).map em.testBit,rq,fb,(List.range n).map (Ab.plk pl),ss,mu⟩
end Go.PlM
namespace Go.Proofs.YtonbocmibeikmaaGreat
open Go.Ab
open Go.PlM in
def BK:List (Nat×List (Nat×s9)):=[
 (31,[(6,E 9 [0,0,3,7,0,0,48,112,255])]),
 (54,[(9,G 9 [0,1,0,0,8,28,63,0,255] 420 [0,0,0,0,0,4,36,0,164] [256,256,288,288,288,256,256,256,0] [(2,0),(7,1)] [0,4,36,128,132,164,420] [0,1,2,3,4,5,6]),(13,G 12 [0,1,0,4,0,28,60,124,252,511,1023,2047] 2816 [0,0,0,0,0,0,0,0,0,256,768,768] [2560,2560,2816,2816,2816,2816,2816,2816,2560,2048,2048,0] [] [0,256,768,2816] [0,1]),(17,G 18 [0,0,0,4,0,28,60,127,255,511,511,511,511,0,9215,26623,61439,131071] 24576 [0,0,0,0,0,0,0,0,0,0,0,0,0,0,8192,24576,24576,24576] [16384,16384,16384,16384,16384,16384,16384,16384,16384,16384,0,0,0,16384,0,0,0,0] [] [0,8192,24576] [0,1,2,3,4,5,6,7,8,9,10,11,12])]),
 (55,[(6,E 12 [0,1,0,4,0,28,60,124,255,511,1023,2047]),(14,G 14 [0,0,2,0,14,30,0,127,255,511,511,0,3071,8191] 6144 [0,0,0,0,0,0,0,0,0,0,0,0,2048,6144] [4096,4096,4096,4096,4096,4096,4096,4096,4096,4096,0,4096,0,0] [] [0,2048,6144] [0,1,2,3,4,5,6,7,8,9,10]),(21,G 9 [0,1,0,0,12,28,63,127,255] 256 [0,0,0,0,0,0,0,0,0] [256,256,256,256,256,256,256,256,0] [] [0,256] [])]),
 (59,[(11,G 8 [0,1,0,4,12,31,63,127] 184 [0,0,0,0,8,24,56,56] [160,160,184,176,160,128,128,0] [] [0,8,24,56,184] [0,1]),(13,G 8 [0,1,0,4,12,31,63,127] 184 [0,0,0,0,8,24,56,56] [160,160,184,176,160,128,128,0] [] [0,8,24,56,184] [0,1]),(15,G 8 [0,1,0,4,12,31,63,127] 184 [0,0,0,0,8,24,56,56] [160,160,184,176,160,128,128,0] [] [0,8,24,56,184] [0,1]),(22,G 16 [0,0,0,4,12,28,62,126,254,0,512,1536,3584,1,8703,32767] 8192 [0,0,0,0,0,0,0,0,0,0,0,0,0,0,8192,8192] [8192,0,0,0,0,0,0,0,0,0,0,0,0,0,0,0] [] [0,8192] [1,2,3,4,5,6,7,8,9,10,11,12])]),
 (69,[(6,G 13 [0,0,0,6,15,0,32,127,0,0,768,2047,4095] 2257 [0,0,0,0,1,0,0,81,0,0,0,209,2257] [2192,2192,2192,2192,2176,2240,2176,2048,2048,2048,2048,0,0] [(0,0),(6,1)] [0,1,17,64,65,81,209,2257] [0,1,2,3,4])]),
 (85,[(13,G 15 [0,0,2,6,14,0,32,96,224,0,992,2016,4094,8191,16383] 8192 [0,0,0,0,0,0,0,0,0,0,0,0,0,0,8192] [8192,8192,8192,8192,8192,8192,8192,8192,8192,8192,8192,8192,8192,0,0] [] [0,8192] [])]),
 (88,[(9,G 17 [0,1,0,0,8,24,60,127,255,511,0,0,2048,6144,15360,32767,65535] 65536 [0,0,0,0,0,0,0,0,0,0,0,0,0,0,0,0,0] [65536,65536,65536,65536,65536,65536,65536,65536,65536,65536,65536,65536,65536,65536,65536,65536,0] [] [0,65536] [])]),
 (90,[(1,G 7 [0,0,0,6,15,31,63] 42 [0,0,0,2,10,10,42] [32,40,40,32,32,0,0] [] [0,2,10,42] [0]),(6,G 17 [0,1,3,7,0,16,0,112,240,496,1023,2047,4095,4095,0,24575,65535] 49152 [0,0,0,0,0,0,0,0,0,0,0,0,0,0,0,16384,49152] [32768,32768,32768,32768,32768,32768,32768,32768,32768,32768,32768,32768,32768,0,32768,0,0] [] [0,16384,49152] [0,1,2,3,4,5,6,7,8,9,10,11,12,13]),(10,G 19 [0,0,2,6,14,0,32,0,224,480,992,0,2048,8160,16352,32766,65535,131071,262143] 311296 [0,0,0,0,0,0,0,0,0,0,0,0,0,0,0,16384,49152,49152,49152] [262144,294912,294912,294912,294912,311296,311296,311296,311296,311296,311296,311296,311296,311296,294912,262144,262144,262144,0] [] [0,16384,49152,311296] [0,1,2,3,4]),(12,G 19 [0,0,2,6,14,0,32,0,224,480,992,0,2048,8160,16352,32766,65535,131071,262143] 311296 [0,0,0,0,0,0,0,0,0,0,0,0,0,0,0,16384,49152,49152,49152] [262144,294912,294912,294912,294912,311296,311296,311296,311296,311296,311296,311296,311296,311296,294912,262144,262144,262144,0] [] [0,16384,49152,311296] [0,1,2,3,4]),(17,G 12 [0,1,3,7,0,16,48,112,15,271,1023,2047] 2560 [0,0,0,0,0,0,0,0,0,0,512,512] [2560,2560,2560,2560,2048,2048,2048,2048,2560,2048,2048,0] [] [0,512,2560] [4,5,6,7]),(18,G 17 [0,0,2,6,14,0,32,96,224,0,512,1536,3584,1,8223,25087,65535] 8192 [0,0,0,0,0,0,0,0,0,0,0,0,0,0,8192,8192,8192] [8192,0,0,0,0,0,0,0,0,0,0,0,0,0,0,0,0] [] [0,8192] [1,2,3,4,5,6,7,8,9,10,11,12])]),
 (91,[(8,G 16 [0,1,0,0,0,24,56,120,0,504,1016,2044,4092,8191,16383,32767] 45056 [0,0,0,0,0,0,0,0,0,0,0,0,0,4096,12288,12288] [40960,40960,45056,45056,45056,45056,45056,45056,45056,45056,45056,45056,40960,32768,32768,0] [] [0,4096,12288,45056] [0,1])]),
 (92,[(4,E 20 [0,1,0,7,15,31,0,64,255,511,1023,2047,1023,8191,16383,32767,1023,66559,262143,524287])]),
 (96,[(1,E 21 [0,1,3,7,15,31,63,127,255,511,63,1087,3135,7231,16383,32767,65535,63,262143,524287,1048575])]),
 (97,[(1,G 12 [0,1,3,7,0,16,48,112,255,511,0,2047] 3072 [0,0,0,0,0,0,0,0,0,0,0,1024] [2048,2048,2048,2048,2048,2048,2048,2048,2048,2048,2048,0] [] [0,1024,3072] [0,1,2,3,4,5,6,7,8,9])]),
 (100,[(7,G 13 [0,1,3,7,0,16,48,112,255,511,1023,2047,4095] 4096 [0,0,0,0,0,0,0,0,0,0,0,0,0] [4096,4096,4096,4096,4096,4096,4096,4096,4096,4096,4096,4096,0] [] [0,4096] [])]),
 (101,[(6,G 13 [0,1,3,7,0,16,48,112,255,511,1023,2047,4095] 4096 [0,0,0,0,0,0,0,0,0,0,0,0,0] [4096,4096,4096,4096,4096,4096,4096,4096,4096,4096,4096,4096,0] [] [0,4096] [])]),
 (102,[(5,E 13 [0,1,3,7,0,16,48,112,240,511,1023,2047,4095])]),
 (110,[(2,E 12 [0,0,2,0,14,30,0,126,254,511,1023,2047])]),
 (117,[(4,E 10 [0,0,3,7,0,0,48,112,255,511])]),
 (124,[(4,E 10 [0,1,3,7,15,0,32,96,224,511]),(6,G 11 [0,0,2,6,14,0,32,126,255,511,1023] 1216 [0,0,0,0,0,0,0,64,192,192,192] [1024,1152,1152,1152,1152,1216,1152,1024,1024,1024,0] [] [0,64,192,1216] [0,1,2,3,4]),(8,E 11 [0,1,3,7,15,0,32,96,224,511,1023])]),
 (126,[(6,E 13 [0,1,3,0,8,31,63,127,0,256,1023,2047,4095]),(10,G 20 [0,0,2,0,0,16,48,0,128,496,1008,0,2048,8176,16368,32752,65528,131071,262143,524287] 327680 [0,0,0,0,0,0,0,0,0,0,0,0,0,0,0,0,0,65536,65536,327680] [262144,262144,262144,327680,327680,327680,327680,327680,327680,327680,327680,327680,327680,327680,327680,327680,262144,262144,0,0] [] [0,65536,327680] [0,1,2])]),
 (133,[(4,G 11 [0,0,3,7,0,16,48,112,0,271,1023] 768 [0,0,0,0,0,0,0,0,0,256,768] [512,512,512,512,0,0,0,0,512,0,0] [] [0,256,768] [0,1,2,3,4,5,6,7]),(9,G 13 [0,1,3,7,0,16,63,127,255,255,0,1535,4095] 3072 [0,0,0,0,0,0,0,0,0,0,0,1024,3072] [2048,2048,2048,2048,2048,2048,2048,2048,2048,0,2048,0,0] [] [0,1024,3072] [0,1,2,3,4,5,6,7,8,9]),(13,G 9 [0,0,2,6,14,0,62,0,255] 256 [0,0,0,0,0,0,0,0,0] [256,256,256,256,256,256,256,256,0] [] [0,256] []),(14,G 19 [0,0,0,4,12,28,62,0,128,0,512,1536,3584,8064,16256,32766,65535,131071,262143] 311362 [0,0,0,0,0,0,2,0,0,0,0,0,0,0,0,16450,49218,49218,49218] [262144,294976,294976,294976,294976,294976,294912,311296,311296,311296,311296,311296,311296,311296,294912,262144,262144,262144,0] [(1,0),(14,1)] [0,2,66,16384,16386,16450,49218,311362] [0,1,2,3,4,5,6]),(18,G 14 [0,0,2,0,8,24,0,0,128,0,960,2046,0,8191] 9216 [0,0,0,0,0,0,0,0,0,0,0,1024,0,1024] [8192,8192,8192,8192,8192,8192,9216,9216,9216,9216,8192,8192,8192,0] [] [0,1024,9216] [0,1,2,3,4,5]),(31,G 13 [0,1,3,7,0,0,32,96,224,480,1023,2047,4095] 4096 [0,0,0,0,0,0,0,0,0,0,0,0,0] [4096,4096,4096,4096,4096,4096,4096,4096,4096,4096,4096,4096,0] [] [0,4096] []),(33,G 13 [0,1,3,7,0,0,32,96,224,480,1023,2047,4095] 4096 [0,0,0,0,0,0,0,0,0,0,0,0,0] [4096,4096,4096,4096,4096,4096,4096,4096,4096,4096,4096,4096,0] [] [0,4096] []),(34,G 13 [0,1,3,7,0,0,32,96,224,480,1023,2047,4095] 4096 [0,0,0,0,0,0,0,0,0,0,0,0,0] [4096,4096,4096,4096,4096,4096,4096,4096,4096,4096,4096,4096,0] [] [0,4096] []),(39,G 13 [0,1,3,7,0,0,32,96,224,480,1023,2047,4095] 4096 [0,0,0,0,0,0,0,0,0,0,0,0,0] [4096,4096,4096,4096,4096,4096,4096,4096,4096,4096,4096,4096,0] [] [0,4096] [])]),
 (134,[(1,G 22 [0,0,0,4,12,28,0,64,252,0,512,1536,3584,0,8192,32764,65533,131069,262141,524287,1048575,2097151] 2408832 [0,0,0,0,0,0,0,0,128,0,0,0,0,0,0,16768,49536,49536,49536,311680,311680,311680] [2359296,2097152,2392320,2392320,2392320,2392320,2392448,2392320,2392064,2392064,2392064,2392064,2392064,2408448,2392064,2359296,2359296,2359296,2097152,2097152,2097152,0] [(7,0),(14,1)] [0,128,384,16384,16512,16768,49536,311680,2408832] [0,1,2,3,4,5,6,7,8,9,10,11,12])]),
 (151,[(1,E 13 [0,0,2,6,0,30,62,0,254,510,1023,2047,4095])]),
 (164,[(10,E 12 [0,1,0,4,15,31,0,64,192,511,1023,2047]),(12,E 11 [0,0,2,7,15,0,32,96,255,511,1023]),(14,E 10 [0,0,2,7,0,16,48,127,255,511]),(16,E 11 [0,1,0,4,15,0,32,96,255,511,1023]),(26,E 18 [0,0,3,0,8,24,63,127,0,256,0,1024,3896,8191,0,32767,65535,131071])]),
 (166,[(10,G 14 [0,1,0,0,8,0,56,120,0,508,1020,2047,4095,8191] 11776 [0,0,0,0,0,0,0,0,0,0,512,1536,3584,3584] [10240,10240,11776,11776,11776,11776,11776,11776,11776,11264,10240,8192,8192,0] [] [0,512,1536,3584,11776] [0,1])]),
 (168,[(4,G 13 [0,1,3,7,0,16,63,127,255,255,0,1535,4095] 3072 [0,0,0,0,0,0,0,0,0,0,0,1024,3072] [2048,2048,2048,2048,2048,2048,2048,2048,2048,0,2048,0,0] [] [0,1024,3072] [0,1,2,3,4,5,6,7,8,9]),(12,E 11 [0,1,3,7,15,0,32,127,255,511,1023]),(20,E 8 [0,1,0,0,12,28,60,127]),(24,G 11 [0,1,0,0,8,0,60,124,255,511,1023] 1472 [0,0,0,0,0,0,0,64,192,448,448] [1280,1280,1472,1472,1472,1472,1408,1280,1024,1024,0] [] [0,64,192,448,1472] [0,1]),(25,G 11 [0,1,0,0,8,0,60,124,255,511,1023] 1472 [0,0,0,0,0,0,0,64,192,448,448] [1280,1280,1472,1472,1472,1472,1408,1280,1024,1024,0] [] [0,64,192,448,1472] [0,1])]),
 (169,[(1,G 13 [0,1,3,7,0,16,63,127,255,255,0,1535,4095] 3072 [0,0,0,0,0,0,0,0,0,0,0,1024,3072] [2048,2048,2048,2048,2048,2048,2048,2048,2048,0,2048,0,0] [] [0,1024,3072] [0,1,2,3,4,5,6,7,8,9]),(3,E 17 [0,1,3,7,15,31,63,127,255,15,527,2047,4095,8191,16383,32767,65535]),(13,G 14 [0,1,0,0,8,0,56,120,0,508,1020,2047,4095,8191] 11776 [0,0,0,0,0,0,0,0,0,0,512,1536,3584,3584] [10240,10240,11776,11776,11776,11776,11776,11776,11776,11264,10240,8192,8192,0] [] [0,512,1536,3584,11776] [0,1])]),
 (171,[(12,G 13 [0,0,3,7,0,0,0,64,224,496,1023,2047,4095] 2816 [0,0,0,0,0,0,0,0,0,256,768,768,2816] [2048,2048,2048,2048,2560,2816,2816,2816,2560,2048,2048,0,0] [] [0,256,768,2816] [0,1,2,3,4])]),
 (176,[(6,E 9 [0,0,3,7,0,0,48,112,255])]),
 (179,[(5,E 28 [0,1,3,7,15,31,63,127,255,511,1023,2047,4095,0,8192,24576,57855,123391,254463,516607,1040895,2089471,4186623,8380927,16769535,33546751,33554431,134217727])]),
 (182,[(21,E 7 [0,0,3,7,0,16,63]),(22,E 15 [0,1,3,7,0,0,48,112,255,511,0,1024,3072,8191,16383])]),
 (184,[(3,E 11 [0,1,3,0,8,24,56,120,255,511,1023])]),
 (185,[(4,G 13 [0,1,3,7,0,16,48,112,255,511,1023,2047,4095] 4096 [0,0,0,0,0,0,0,0,0,0,0,0,0] [4096,4096,4096,4096,4096,4096,4096,4096,4096,4096,4096,4096,0] [] [0,4096] [])]),
 (189,[(1,E 12 [0,1,0,7,15,31,63,0,128,511,1023,2047])])]
def kL:kQ:=fun f=>pD BK f
theorem E8:sY cfg BK=true:=by kernel_rfl
theorem aG:uU cfg kL:=xT E8
end Go.Proofs.YtonbocmibeikmaaGreat
end
section
namespace Go.Proofs.YtonbocmibeikmaaGreat
open Go.Ab
set_option maxRecDepth 1000000
abbrev wvI (n:Int):AV:=.int .i64 n
def wvB (l:List Int):List AV:=l.map fun n=>.int .u8 n
abbrev wvP (a b:List AV):List AV:=List.append a b
def wv1:List AV:=[.vec 58 (wvB [109,117,116,101,120,32,97,59,32,102,117,110,99,32,109,97,105,110,40,41,32,123,32,108,111,99,107,32,97,59,32,102,40,41,59,32,125,32,102,117,110,99,32,102,40,41,32,123,32,114,101,116,117,114,110,59,32,125])]
def wv2:Blk:=⟨1,true,0,0,[],0⟩
def wv3:Blk:=⟨0,false,27,3,[.nils,.nils,.nils],0⟩
def wv4:AV:=.str ⟨#[109,117,116,101,120]⟩
def wv5:AV:=wvI 0
def wv6:List AV:=[wv5,wv5]
def wv7:AV:=.str ⟨#[97]⟩
def wv8:AV:=wvI 4
def wv9:AV:=.str ⟨#[59]⟩
def wv10:AV:=.str ⟨#[102,117,110,99]⟩
def Tt:AV:=.str ⟨#[109,97,105,110]⟩
def Gf:AV:=.str ⟨#[40]⟩
def Gg:AV:=.str ⟨#[41]⟩
def wv14:AV:=.str ⟨#[123]⟩
def XV:AV:=.str ⟨#[102]⟩
def wv16:AV:=.str ⟨#[125]⟩
def wv17:AV:=.str ⟨#[114,101,116,117,114,110]⟩
def BL:AV:=.str ⟨#[]⟩
def uC:AV:=.vec 0 []
def EH:AV:=.bool false
def MS:List AV:=[uC,uC]
def wv22:AV:=.vec 2 (wvI 5::BL::wvP wv6 (BL::uC::wv7::wvP MS (wvP MS (wvI 3::XV::wvP wv6 (BL::uC::BL::wvP MS MS)))))
def wv23:AV:=.vec 1 (wvI 9::BL::wvP wv6 (BL::uC::BL::wvP MS MS))
def Tu:List AV:=[uC,.vec 1 [wv7,EH,wv5],.vec 2 [Tt,uC,wv22,XV,uC,wv23]]
def nM:Blk:=⟨0,false,27,3,Tu,0⟩
def NM:Blk:=⟨0,false,30,4,[.nils,.nils,.nils,wv5],0⟩
def XW:Blk:=⟨0,false,66,3,[wv7,EH,wv5],0⟩
def XX:Blk:=⟨0,false,136,3,[Tt,uC,wv22],0⟩
def Gh:Blk:=⟨0,false,136,3,[XV,uC,wv23],0⟩
def wv30:List AV:=[uC,.vec 1 [wv7,EH,wv5],.vec 2 (Tt::wvP wv6 (wv5::(.vec 3 (wv8::wv5::EH::wvP wv6 (BL::uC::EH::wv5::wvP MS (uC::wvI 2::wvI 1::EH::wvP wv6 (BL::uC::EH::wv5::wvP MS (uC::wvI 8::wv5::EH::wvP wv6 (BL::uC::EH::wv5::wvP MS [uC])))))))::XV::wvP wv6 [wv5,.vec 2 (wvI 8::wv5::EH::wvP wv6 (BL::uC::EH::wv5::wvP MS (uC::wvI 8::wv5::EH::wvP wv6 (BL::uC::EH::wv5::wvP MS [uC]))))])),wv5]
def wv31:Blk:=⟨0,false,30,4,wv30,0⟩
def wv32:List AV:=[.vec 2 [wv5,uC,wvI 1,uC],.vec 2 [.vec 3 [wvI (-1),wvI 1,wvI (-1)],.vec 2 [wvI (-1),wvI (-1)]],.vec 1 [wv5]]
def plainF (f:FuncId):Bool:=Nat.beq f 130||Nat.beq f 131||Nat.beq f 132||Nat.beq f 137||Nat.beq f 138||Nat.beq f 139||Nat.beq f 140||Nat.beq f 141||Nat.beq f 142||Nat.beq f 159||Nat.beq f 160||Nat.beq f 161||Nat.beq f 162||Nat.beq f 163||Nat.beq f 164||Nat.beq f 170||Nat.beq f 179||Nat.beq f 180||Nat.beq f 181||Nat.beq f 182||Nat.beq f 183||Nat.beq f 184||Nat.beq f 188||Nat.beq f 189
def XY:F0:=[]
theorem MT:gK Tryz.prog cfg XY:=W5
noncomputable def evalH:eG:=r8 cfg kL 100
theorem VF:evalH.ok Tryz.prog cfg:=zN u4 aG 100
noncomputable def lS:eG:=YS plainF (pC XY evalH)
theorem dC:lS.ok Tryz.prog cfg:=OW (dZ MT VF)
def Fb:F0:=[]
theorem BM:gK Tryz.prog cfg Fb:=W5
def mA1:List AV:=wv1
def mH1:c6:=[wv2,wv3]
def mX1:AV:=.tup [.vec 25 (wvI 3::wv4::wvP wv6 [wvI 1,wv7,wv5,wvI 6,wv8,wv9,wv5,wvI 7,wvI 3,wv10,wv5,wvI 9,wvI 1,Tt,wv5,wvI 14,wv8,Gf,wv5,wvI 18,wv8,Gg,wv5,wvI 19,wv8,wv14,wv5,wvI 21,wvI 3,.str ⟨#[108,111,99,107]⟩,wv5,wvI 23,wvI 1,wv7,wv5,wvI 28,wv8,wv9,wv5,wvI 29,wvI 1,XV,wv5,wvI 31,wv8,Gf,wv5,wvI 32,wv8,Gg,wv5,wvI 33,wv8,wv9,wv5,wvI 34,wv8,wv16,wv5,wvI 36,wvI 3,wv10,wv5,wvI 38,wvI 1,XV,wv5,wvI 43,wv8,Gf,wv5,wvI 44,wv8,Gg,wv5,wvI 45,wv8,wv14,wv5,wvI 47,wvI 3,wv17,wv5,wvI 49,wv8,wv9,wv5,wvI 55,wv8,wv16,wv5,wvI 57,wvI 5,BL,wv5,wvI 58]),wvI 58,wv5]
def mK1:c6:=[wv2,wv3]
theorem m1:W4 cfg kL (pC Fb lS) 95 mA1 mH1=some (mX1,mK1):=by kernel_rfl
def Fc:F0:=(95,mA1,mH1,mX1,mK1)::Fb
theorem BN:gK Tryz.prog cfg Fc:=dS (gU u4 aG (dZ BM dC)) m1 BM
end Go.Proofs.YtonbocmibeikmaaGreat
end
