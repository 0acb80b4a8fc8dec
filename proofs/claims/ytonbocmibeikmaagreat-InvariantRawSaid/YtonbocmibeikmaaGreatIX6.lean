/- My own texts, put together by a program of mine. -/
import Derived.Laws.BitsLemmas
import Derived.Test.YtonbocmibeikmaaGreatIX5
set_option linter.unusedSimpArgs false
set_option linter.unusedVariables false
set_option maxRecDepth 100000
set_option maxHeartbeats 4000000
section
namespace Go.Proofs.YtonbocmibeikmaaGreat
open Go.Ab Go.Un
variable {p:Go.Un.Pg}{f:Fu}
theorem KF (h:GH p)(hf:f∈p.funcs):∀x∈f.params,uR x.name=false:=by
  obtain ⟨i,hi,rfl⟩:=cU (d:=j7) hf;intro x hx;have hm:x.name∈(p.funcs.getD i j7).params.map (·.name):=List.mem_map.2 ⟨x,hx,rfl⟩;rcases (h.fn i hi).2.2 with e | e | e<;>rw[e]at hm<;>simp at hm
  · rw[hm];exact U4 1 (by omega)
  · rcases hm with e | e<;>rw[e]
    · exact U4 2 (by omega)
    · exact U4 1 (by omega)
variable {i:Nat}
theorem oJ {α:Type}(f:α→List AV)(K j:Nat)(hK:∀a,(f a).length=K)(hj:j<K)(d:α){l:List α}(h:i<l.length):List.take 1 (List.drop (i*K+j) (l.flatMap f))=List.take 1 (List.drop j (f (l.getD i d))):=by rw[←dP f K hK d h,List.drop_take,List.take_take,List.drop_drop,Nat.min_eq_left (by omega)]
theorem TH {l:List Gl}(h:i<l.length):List.take 1 (List.drop (i*2) (u0 l))=[.str (l.getD i mU).name]:=oJ EA 2 0 (fun _=>rfl) (by omega) mU h
theorem TJ {l:List Gl}(h:i<l.length):List.take 1 (List.drop (i*2+1) (u0 l))=[.int .i64 (l.getD i mU).init]:=oJ EA 2 1 (fun _=>rfl) (by omega) mU h
variable {l:List Pm}
theorem TK (h:i<l.length):List.take 1 (List.drop (i*2) (aC l))=[.str (l.getD i jL).name]:=oJ DZ 2 0 (fun _=>rfl) (by omega) jL h
theorem TL (h:i<l.length):List.take 1 (List.drop (i*2+1) (aC l))=[.bool (l.getD i jL).mu]:=oJ DZ 2 1 (fun _=>rfl) (by omega) jL h
theorem txtGl_0 {l:List Gl}(h:(l.getD i mU).init=0):mD l (i+1)=mD l i++M3++(l.getD i mU).name++sB:=by rw[mD,if_pos h]
theorem txtGl_1 {l:List Gl}(h:¬(l.getD i mU).init=0):mD l (i+1)=mD l i++M3++(l.getD i mU).name++QV++ED (l.getD i mU).init++sB:=by rw[mD,if_neg h]
variable {out:BA}
theorem TM {l:List Mx}(h1:(l.getD i aA).re=false)(h:¬0<(l.getD i aA).size):fF l out (i+1)=fF l out i++cN++(l.getD i aA).name++sB:=by rw[fF,if_neg h,if_neg (by rw[h1];decide)]
theorem TN {l:List Mx}(h1:(l.getD i aA).re=true)(h:¬0<(l.getD i aA).size):fF l out (i+1)=fF l out i++t_r++cN++(l.getD i aA).name++sB:=by rw[fF,if_neg h,if_pos h1]
theorem TO {l:List Mx}(h1:(l.getD i aA).re=false)(h:0<(l.getD i aA).size):fF l out (i+1)=fF l out i++cN++(l.getD i aA).name++OS++ED (l.getD i aA).size++OT++sB:=by rw[fF,if_pos h,if_neg (by rw[h1];decide)]
theorem TP {l:List Mx}(h1:(l.getD i aA).re=true)(h:0<(l.getD i aA).size):fF l out (i+1)=fF l out i++t_r++cN++(l.getD i aA).name++OS++ED (l.getD i aA).size++OT++sB:=by rw[fF,if_pos h,if_pos h1]
theorem TQ (h1:(l.getD i jL).mu=false)(h:¬0<i):gY l out (i+1)=gY l out i++(l.getD i jL).name:=by rw[gY,if_neg h,if_neg (by rw[h1];decide)]
theorem TR (h1:(l.getD i jL).mu=true)(h:¬0<i):gY l out (i+1)=gY l out i++cN++(l.getD i jL).name:=by rw[gY,if_neg h,if_pos h1]
theorem TS (h1:(l.getD i jL).mu=false)(h:0<i):gY l out (i+1)=gY l out i++nB++(l.getD i jL).name:=by rw[gY,if_pos h,if_neg (by rw[h1];decide)]
theorem TU (h1:(l.getD i jL).mu=true)(h:0<i):gY l out (i+1)=gY l out i++nB++cN++(l.getD i jL).name:=by rw[gY,if_pos h,if_pos h1]
theorem GHgres (h:GH p)(hf:f∈p.funcs):sK (RA p f):=by
  refine ⟨⟨fun m hm=>?_,fun x hx=>?_⟩,fun x hx=>?_⟩
  · obtain ⟨i,hi,rfl⟩:=cU (d:=aA) hm
    show uR (p.c4.getD i aA).name=false;rw[(h.mn i hi).1];exact JO i (by have:=h.ml;have hi2:i<p.c4.length:=hi;omega)
  · exact KF h hf x hx
  · obtain ⟨g,hg,rfl⟩:=List.mem_map.1 hx
    obtain ⟨i,hi,rfl⟩:=cU (d:=j7) hg;show uR (p.funcs.getD i j7).name=false;rw[(h.fn i hi).1];exact JP i (by have:=h.fl;omega)
theorem KG (h:GH p)(hf:f∈p.funcs):aV (RC p f):=by
  intro x hx;refine ⟨h.Ap hf x hx,?_⟩;rcases List.mem_append.1 hx with hx | hx
  · obtain ⟨g,hg,rfl⟩:=List.mem_map.1 hx
    obtain ⟨i,hi,rfl⟩:=cU (d:=mU) hg;rw[(h.gn i hi).1];exact JN i (by have:=h.gl;omega)
  · obtain ⟨g,hg,rfl⟩:=List.mem_map.1 hx
    exact KF h hf g (List.mem_filter.1 hg).1
theorem V3 {l:List Fu}(h:i<l.length):(l.getD i j7).body.wt≤tP l l.length:=by
  have key:∀n,i<n→(l.getD i j7).body.wt≤tP l n:=by
    intro n hn;induction n with
    | zero=>omega
    | succ n ih=>
      rw[tP];by_cases e:i=n
      · rw[e];omega
      · have:=ih (by omega);omega
  exact key _ h
variable {h:c6}
theorem c_lexF {L:Bs}(hx:LX L 4000)(hl:L.length≤262144):CB 95 [.vec L.length (uQ L)] h (.tup [.any,.int .i64 L.length,.int .i64 0]):=
  N2 rfl ((c_lex0 L 4000 hx (Nat.le_refl _) hl).mono fun _ _ h=>h.1) h
theorem encB_8 {b:BA}:b.toList.map (fun c=>AV.int .u8 ((c.toNat:Nat):Int))=uQ (L8 b):=by rw[ByteArray.toList_eq];rfl
theorem c_lexB {b:BA}(hx:LX (L8 b) 4000)(hl:b.size≤262144):CB 95 [.vec b.size (b.toList.map fun c=>AV.int .u8 ((c.toNat:Nat):Int))] h (.tup [.any,.int .i64 b.size,.int .i64 0]):=by rw[encB_8,mC];exact c_lexF hx (by rw[←mC];exact hl)
attribute [local go_sem] oH bE o7 cB dQ cD l8 eO n6 bX bK Int.natCast_nonneg Int.natCast_inj List.length_map wrap64 EL nF D7 bD nR eq_mk nS Nat.reduceMul TH TJ TK TL C1 wE fE
theorem BM {l:List Pm}(hn:∀x∈l,isName (L8 x.name))(out:BA):∀i,i≤l.length→(gY l out i).size≤out.size+30*i
  | 0,_=>Nat.le_refl _
  | i+1,hi=>by
    have ih:=BM hn out i (by omega);have hs:=aP (hn _ (j0 (d:=jL) (show i<l.length from by omega)));have e1:cN.size=6:=rfl;have e2:nB.size=2:=rfl;unfold gY;repeat' split
    all_goals simp only[bD]
    all_goals omega
theorem KH {l:List Fu}:∀{a b:Nat},a≤b→tP l a≤tP l b:=by
  intro a b h;induction h with
  | refl=>exact Nat.le_refl _
  | step _ ih=>rw[tP];omega
theorem c_progT (hp:GP p):CB 132 [.agg [.vec p.globals.length (u0 p.globals),.vec p.c4.length (g6 p.c4),.vec p.funcs.length (o8 p.funcs)]] h (.str (txtP p)):=by
  refine .bz Tryz.f132 131 ?_;have hgl:=uL hp.toGH p.globals.length (Nat.le_refl _);have hmx:=uM hp.toGH hgl.1 p.c4.length (Nat.le_refl _);have hgl0:=hp.gl;have hml0:=hp.ml;have hfl0:=hp.fl;have htot:=hp.wt;have hwm:∀i,i≤p.funcs.length→tP p.funcs i≤48:=fun i hi=>Nat.le_trans (KH hi) htot;refine c49z ?_;refine .aR (fun m st=>∃(i:Nat),(m=p.globals.length-i∧i≤p.globals.length)∧st=⟨mkS 131 [(1,AV.ptr h.length 0 0),(3,AV.str (mD p.globals i)),(4,AV.int .i64 ((i:Nat):Int))],h++[⟨0,false,27,3,[.vec p.globals.length (u0 p.globals),.vec p.c4.length (g6 p.c4),.vec p.funcs.length (o8 p.funcs)],0⟩]⟩) _ (.v ⟨0,⟨rfl,by omega⟩,rfl⟩ (hs:=t64)) ?_;rintro m sl h' ⟨i,⟨hm,hi⟩,hst⟩;obtain ⟨rfl,rfl⟩:=St.mk.inj hst;have hsz:=(uL hp.toGH i hi).2;refine c1z ?_;refine u2z ?_ ?_
  ·intro e1 qe1;refine c3z ?_;have hgn:=gB (hp.toGH.IE (j0 (d:=mU) (l:=p.globals) (i:=i) (by omega)));have hgi:=(hp.gn i (by omega)).2;refine c244z ?_;refine .c7 [1,3,4] ?_;refine .z ?_;refine u2z ?_ ?_
   ·intro e2 qe2;have hns:=(wH hgi.1 hgi.2).2;refine c98z ?_;refine c235z ?_;refine .c7 [1,3,4] ?_;refine c67z ?_;exact ⟨_,by omega,.v ⟨(i+1),⟨rfl,by omega⟩,rfl⟩ (hs:=t64)⟩
   intro e2 qe2;refine .sk ?_;refine c113z ?_;exact ⟨_,by omega,.v ⟨(i+1),⟨rfl,by omega⟩,rfl⟩ (hs:=t64)⟩
  intro e1 qe1;refine .exit ?_;obtain rfl:i=p.globals.length:=by omega
  change c9 ..;refine c7z ?_;refine .aN (fun m st=>∃(i:Nat),(m=p.c4.length-i∧i≤p.c4.length)∧st=⟨mkS 131 [(1,AV.ptr h.length 0 0),(3,AV.str (fF p.c4 (mD p.globals p.globals.length) i)),(5,AV.int .i64 ((i:Nat):Int))],h++[⟨0,false,27,3,[.vec p.globals.length (u0 p.globals),.vec p.c4.length (g6 p.c4),.vec p.funcs.length (o8 p.funcs)],0⟩]⟩) (.v ⟨0,⟨rfl,by omega⟩,rfl⟩ (hs:=t24)) ?_;rintro m sl h' ⟨i,⟨hm,hi⟩,hst⟩;obtain ⟨rfl,rfl⟩:=St.mk.inj hst;clear hst;have hsz:=(uM hp.toGH hgl.1 i hi).2;refine c1z ?_;refine u2z ?_ ?_
  ·intro e3 qe3;refine c3z ?_;have hmn:=gB (hp.toGH.RG (j0 (d:=aA) (l:=p.c4) (i:=i) (by omega)));have hmi:=(hp.mn i (by omega)).2;refine c23z ?_;refine .c7 [1,3,5,6] ?_;refine .z ?_;refine u2z ?_ ?_
   ·intro e4 qe4;refine c2z ?_;refine c23z ?_;refine .c7 [1,3,5,6] ?_;refine .z ?_;refine u2z ?_ ?_
    ·intro e5 qe5;have hns:=(wH (n:=(p.c4.getD i aA).size) (by omega) (by omega)).2;refine c186z ?_;refine c235z ?_;refine .c7 [1,3,5] ?_;refine c67z ?_;exact ⟨_,by omega,.v ⟨(i+1),⟨rfl,by omega⟩,rfl⟩ (he:=t44) (hs:=t24)⟩
    intro e5 qe5;refine .sk ?_;refine c67z ?_;exact ⟨_,by omega,.v ⟨(i+1),⟨rfl,by omega⟩,rfl⟩ (he:=t44) (hs:=t24)⟩
   intro e4 qe4;refine .sk ?_;refine c108z ?_;refine u2z ?_ ?_
   ·intro e6 qe6;refine .c7 [1,3,5,6] ?_;have hns:=(wH (n:=(p.c4.getD i aA).size) (by omega) (by omega)).2;refine c186z ?_;refine c235z ?_;refine .c7 [1,3,5] ?_;refine c67z ?_;exact ⟨_,by omega,.v ⟨(i+1),⟨rfl,by omega⟩,rfl⟩ (he:=t44) (hs:=t24)⟩
   intro e6 qe6;refine .sk ?_;refine .c7 [1,3,5] ?_;refine c67z ?_;exact ⟨_,by omega,.v ⟨(i+1),⟨rfl,by omega⟩,rfl⟩ (he:=t44) (hs:=t24)⟩
  intro e3 qe3;refine .exit ?_;obtain rfl:i=p.c4.length:=by omega
  change c9 ..;refine c7z ?_;refine .aN (fun m st=>∃(i:Nat),(m=p.funcs.length-i∧i≤p.funcs.length)∧st=⟨mkS 131 [(1,AV.ptr h.length 0 0),(3,AV.str (tN p.funcs (fF p.c4 (mD p.globals p.globals.length) p.c4.length) i)),(7,AV.int .i64 ((i:Nat):Int))],h++[⟨0,false,27,3,[.vec p.globals.length (u0 p.globals),.vec p.c4.length (g6 p.c4),.vec p.funcs.length (o8 p.funcs)],0⟩]⟩) (.v ⟨0,⟨rfl,by omega⟩,rfl⟩) ?_;rintro m sl h' ⟨i,⟨hm,hi⟩,hst⟩;obtain ⟨rfl,rfl⟩:=St.mk.inj hst;clear hst;have hsz:=(C8 hp hmx.1 i hi).2;have hwi:=hwm i hi;refine c1z ?_;refine u2z ?_ ?_
  ·intro e7 qe7;refine c3z ?_;have hfm:=j0 (d:=j7) (l:=p.funcs) (i:=i) (by omega);have hfn:=gB (hp.toGH.IF hfm);have hpn:=hp.toGH.qT hfm;have hbd:=hp.body i (by omega);have hwt:=V3 (l:=p.funcs) (i:=i) (by omega);have hww:=hp.wt;have hlw:=eH (p.funcs.getD i j7).body;refine .z ?_;refine .c7 [1,3,7,8] ?_;refine c16z ?_;refine .aR (fun m st=>∃(j:Nat),(m=(p.funcs.getD i j7).params.length-j∧j≤(p.funcs.getD i j7).params.length)∧st=⟨mkS 131 [(1,AV.ptr h.length 0 0),(3,AV.str (gY (p.funcs.getD i j7).params (tN p.funcs (fF p.c4 (mD p.globals p.globals.length) p.c4.length) i++tC++(p.funcs.getD i j7).name++yI) j)),(7,AV.int .i64 ((i:Nat):Int)),(8,AV.ptr (h.length+1) 0 0),(9,AV.int .i64 ((j:Nat):Int))],h++[⟨0,false,27,3,[.vec p.globals.length (u0 p.globals),.vec p.c4.length (g6 p.c4),.vec p.funcs.length (o8 p.funcs)],0⟩,⟨0,false,136,3,[.str (p.funcs.getD i j7).name,.vec (p.funcs.getD i j7).params.length (aC (p.funcs.getD i j7).params),.vec (p.funcs.getD i j7).body.len (s4 (p.funcs.getD i j7).body)],0⟩]⟩) _ (.v ⟨0,⟨rfl,by omega⟩,rfl⟩ (hs:=t33)) ?_;rintro m sl h' ⟨j,⟨hm,hj⟩,hst⟩;obtain ⟨rfl,rfl⟩:=St.mk.inj hst;have hsp:=BM (l:=(p.funcs.getD i j7).params) hpn.2 (tN p.funcs (fF p.c4 (mD p.globals p.globals.length) p.c4.length) i++tC++(p.funcs.getD i j7).name++yI) j hj;have hs0:(tN p.funcs (fF p.c4 (mD p.globals p.globals.length) p.c4.length) i++tC++(p.funcs.getD i j7).name++yI).size≤(tN p.funcs (fF p.c4 (mD p.globals p.globals.length) p.c4.length) i).size+30:=by simp only[bD];have e1:tC.size=5:=rfl;have e2:yI.size=1:=rfl;omega
   refine c1z ?_;refine u2z ?_ ?_
   ·intro e8 qe8;refine c3z ?_;refine c1z ?_;refine u2z ?_ ?_
    ·intro e9 qe9;refine c2z ?_;refine .seq ?_;refine .c7 [1,3,7,8,9] ?_;have hpj:=gB (hpn.2 _ (j0 (d:=jL) (l:=(p.funcs.getD i j7).params) (i:=j) (by omega)));refine .z ?_;refine u2z ?_ ?_
     ·intro e10 qe10;refine c2z ?_;refine .c7 [1,3,7,8,9] ?_;refine c240z ?_;refine .rz ?_;exact ⟨_,by omega,.v ⟨(j+1),⟨rfl,by omega⟩,rfl⟩ (hs:=t33)⟩
     intro e10 qe10;refine .sk ?_;refine c240z ?_;refine .rz ?_;exact ⟨_,by omega,.v ⟨(j+1),⟨rfl,by omega⟩,rfl⟩ (hs:=t33)⟩
    intro e9 qe9;refine c137z ?_;have hpj:=gB (hpn.2 _ (j0 (d:=jL) (l:=(p.funcs.getD i j7).params) (i:=j) (by omega)));refine .z ?_;refine u2z ?_ ?_
    ·intro e11 qe11;refine .c7 [1,3,7,8,9] ?_;refine c2z ?_;refine c240z ?_;refine .rz ?_;exact ⟨_,by omega,.v ⟨(j+1),⟨rfl,by omega⟩,rfl⟩ (hs:=t33)⟩
    intro e11 qe11;refine .sk ?_;refine .c7 [1,3,7,8,9] ?_;refine c240z ?_;refine .rz ?_;exact ⟨_,by omega,.v ⟨(j+1),⟨rfl,by omega⟩,rfl⟩ (hs:=t33)⟩
   intro e8 qe8;refine .exit ?_;obtain rfl:j=(p.funcs.getD i j7).params.length:=by omega
   change c9 ..;have htab:iX.size=1:=rfl;have hbs:=(kY (hp.toGH.genv hfm) (p.funcs.getD i j7).body _ iX ByteArray.empty 0 (hp.toGH.Ap hfm) hbd.1 (by omega) M4 Cl.nil).2;have he0:ByteArray.empty.size=0:=rfl;refine c186z ?_;refine .ca rfl rfl (JQ (hp.toGH.genv hfm) 1000 _ (by omega) (Nat.le_refl _) _ iX (KG hp.toGH hfm) hbd.1 (by omega) M4 _) ?_;refine c25z ?_;refine .c7 [1,3,7] ?_;refine .rz ?_;exact ⟨_,by omega,.v ⟨(i+1),⟨rfl,by omega⟩,rfl⟩ (he:=t44)⟩
  intro e7 qe7;refine .exit ?_;obtain rfl:i=p.funcs.length:=by omega
  change c9 ..;refine .z ?_;exact .ret (.ex (hq:=by rfl))
theorem c_valid (hp:GP p):CB 87 [.agg [.vec p.globals.length (u0 p.globals),.vec p.c4.length (g6 p.c4),.vec p.funcs.length (o8 p.funcs)]] h (.bool true):=by
  refine .bz Tryz.f87 140 ?_;have hgl0:=hp.gl;have hml0:=hp.ml;have hfl0:=hp.fl;refine c23z ?_;refine c29z ?_;refine .spl 16 rfl rfl (fun e1=>by exfalso;have q:=fact e1;omega) (fun e1=>?_);try simp only[e1]
  have qe1:=fact e1;refine .k 6 [(4,16)] ?_;refine .spl 22 rfl rfl (fun e2=>by exfalso;have q:=fact e2;omega) (fun e2=>?_);try simp only[e2]
  have qe2:=fact e2;refine .m [(10,22)] ?_;refine uFbz ?_;intro e3 qe3;refine c137z ?_;refine .c7 [1] ?_;refine c15z ?_;refine .aR (fun m st=>∃(i:Nat),(m=p.globals.length-i∧i≤p.globals.length)∧st=⟨mkS 140 [(1,AV.ptr h.length 0 0),(3,AV.int .i64 ((i:Nat):Int))],h++[⟨0,false,27,3,[.vec p.globals.length (u0 p.globals),.vec p.c4.length (g6 p.c4),.vec p.funcs.length (o8 p.funcs)],0⟩]⟩) _ (.v ⟨0,⟨rfl,by omega⟩,rfl⟩) ?_;rintro m sl h' ⟨i,⟨hm,hi⟩,hst⟩;obtain ⟨rfl,rfl⟩:=St.mk.inj hst;refine c1z ?_;refine u2z ?_ ?_
  ·intro e4 qe4;refine c3z ?_;have hgi:=(hp.gn i (by omega)).2;have hgr:uR (p.globals.getD i mU).name=false:=by rw[(hp.gn i (by omega)).1];exact JN i (by omega)
   refine c133z ?_;refine .ca rfl rfl (nQ _ (hp.toGH.IE (j0 (d:=mU) (l:=p.globals) (i:=i) (by omega))) hgr) ?_;refine .k 8 [(8,43)] ?_;refine .m [(8,43)] ?_;refine uFbz ?_;intro e5 qe5;refine c5z ?_;refine .c7 [1,3] ?_;refine .rz ?_;exact ⟨_,by omega,.v ⟨(i+1),⟨rfl,by omega⟩,rfl⟩⟩
  intro e4 qe4;refine c8z ?_;refine c7z ?_;refine .aN (fun m st=>∃(i:Nat),(m=p.c4.length-i∧i≤p.c4.length)∧st=⟨mkS 140 [(1,AV.ptr h.length 0 0),(4,AV.int .i64 ((i:Nat):Int))],h++[⟨0,false,27,3,[.vec p.globals.length (u0 p.globals),.vec p.c4.length (g6 p.c4),.vec p.funcs.length (o8 p.funcs)],0⟩]⟩) (.v ⟨0,⟨rfl,by omega⟩,rfl⟩) ?_;rintro m sl h' ⟨i,⟨hm,hi⟩,hst⟩;obtain ⟨rfl,rfl⟩:=St.mk.inj hst;clear hst;refine c1z ?_;refine u2z ?_ ?_
  ·intro e6 qe6;refine c3z ?_;have hmi:=(hp.mn i (by omega)).2;have hmr:uR (p.c4.getD i aA).name=false:=by rw[(hp.mn i (by omega)).1];exact JO i (by omega)
   refine .z ?_;refine .c7 [1,4,5] ?_;refine c17z ?_;refine .ca rfl rfl (nQ _ (hp.toGH.RG (j0 (d:=aA) (l:=p.c4) (i:=i) (by omega))) hmr) ?_;refine .k 7 [(4,68)] ?_;refine .spl 73 rfl rfl (fun e7=>by exfalso;have q:=fact e7;omega) (fun e7=>?_);try simp only[e7]
   have qe7:=fact e7;refine .k 5 [(9,73)] ?_;refine .spl 78 rfl rfl (fun e8=>by exfalso;have q:=fact e8;omega) (fun e8=>?_);try simp only[e8]
   have qe8:=fact e8;refine .k 3 [(14,78)] ?_;refine .spl 81 rfl rfl (fun e9=>?_) (fun e9=>?_)
   ·try simp only[e9]
    have qe9:=fact e9;refine .m [(14,78),(17,81)] ?_;refine .spl 86 rfl rfl (fun e10=>by exfalso;have q:=fact e10;have:=hmi.2.2 (by assumption);omega) (fun e10=>?_);try simp only[e10]
    have qe10:=fact e10;refine c48z ?_;refine .c7 [1,4] ?_;refine .rz ?_;exact ⟨_,by omega,.v ⟨(i+1),⟨rfl,by omega⟩,rfl⟩ (he:=t44)⟩
   try simp only[e9]
   have qe9:=fact e9;refine .m [(14,78),(17,81)] ?_;refine c48z ?_;refine .c7 [1,4] ?_;refine .rz ?_;exact ⟨_,by omega,.v ⟨(i+1),⟨rfl,by omega⟩,rfl⟩ (he:=t44)⟩
  intro e6 qe6;refine c8z ?_;refine c7z ?_;refine .aN (fun m st=>∃(i:Nat),(m=p.funcs.length-i∧i≤p.funcs.length)∧st=⟨mkS 140 [(1,AV.ptr h.length 0 0),(6,AV.int .i64 ((i:Nat):Int))],h++[⟨0,false,27,3,[.vec p.globals.length (u0 p.globals),.vec p.c4.length (g6 p.c4),.vec p.funcs.length (o8 p.funcs)],0⟩]⟩) (.v ⟨0,⟨rfl,by omega⟩,rfl⟩) ?_;rintro m sl h' ⟨i,⟨hm,hi⟩,hst⟩;obtain ⟨rfl,rfl⟩:=St.mk.inj hst;clear hst;refine c1z ?_;refine u2z ?_ ?_
  ·intro e11 qe11;refine c3z ?_;have hfm:=j0 (d:=j7) (l:=p.funcs) (i:=i) (by omega);have hfn:=gB (hp.toGH.IF hfm);have hpn:=hp.toGH.qT hfm;have hbd:=hp.body i (by omega);have hwt:=V3 (l:=p.funcs) (i:=i) (by omega);have hww:=hp.wt;have hlw:=eH (p.funcs.getD i j7).body;have hfr:uR (p.funcs.getD i j7).name=false:=by rw[(hp.fn i (by omega)).1];exact JP i (by omega)
   refine c23z ?_;refine .c7 [1,6,7] ?_;refine c17z ?_;refine .ca rfl rfl (nQ _ (hp.toGH.IF hfm) hfr) ?_;refine .k 8 [(4,103)] ?_;refine .spl 109 rfl rfl (fun e12=>by exfalso;have q:=fact e12;omega) (fun e12=>?_);try simp only[e12]
   have qe12:=fact e12;refine .k 2 [(10,109)] ?_;refine .ca rfl rfl (c_okS (hp.toGH.genv hfm) (GHgres hp.toGH hfm) 1000 _ (by omega) (Nat.le_refl _) _ 0 (KG hp.toGH hfm) hbd.1 (by omega) (by omega) _) ?_;refine .m [(10,109)] ?_;refine c20z ?_;refine .c7 [1,6,7] ?_;refine c15z ?_;refine .aR (fun m st=>∃(j:Nat),(m=(p.funcs.getD i j7).params.length-j∧j≤(p.funcs.getD i j7).params.length)∧st=⟨mkS 140 [(1,AV.ptr h.length 0 0),(6,AV.int .i64 ((i:Nat):Int)),(7,AV.ptr (h.length+1) 0 0),(8,AV.int .i64 ((j:Nat):Int))],h++[⟨0,false,27,3,[.vec p.globals.length (u0 p.globals),.vec p.c4.length (g6 p.c4),.vec p.funcs.length (o8 p.funcs)],0⟩,⟨0,false,136,3,[.str (p.funcs.getD i j7).name,.vec (p.funcs.getD i j7).params.length (aC (p.funcs.getD i j7).params),.vec (p.funcs.getD i j7).body.len (s4 (p.funcs.getD i j7).body)],0⟩]⟩) _ (.v ⟨0,⟨rfl,by omega⟩,rfl⟩) ?_;rintro m sl h' ⟨j,⟨hm,hj⟩,hst⟩;obtain ⟨rfl,rfl⟩:=St.mk.inj hst;refine c1z ?_;refine u2z ?_ ?_
   ·intro e13 qe13;refine c3z ?_;refine c133z ?_;refine .ca rfl rfl (nQ _ (hpn.2 _ (j0 (d:=jL) (l:=(p.funcs.getD i j7).params) (i:=j) (by omega))) (KF hp.toGH hfm _ (j0 (d:=jL) (l:=(p.funcs.getD i j7).params) (i:=j) (by omega)))) ?_;refine .n ?_;refine c48z ?_;refine .c7 [1,6,7,8] ?_;refine .rz ?_;exact ⟨_,by omega,.v ⟨(j+1),⟨rfl,by omega⟩,rfl⟩⟩
   intro e13 qe13;refine c8z ?_;refine .rz ?_;exact ⟨_,by omega,.v ⟨(i+1),⟨rfl,by omega⟩,rfl⟩ (he:=t44)⟩
  intro e11 qe11;refine c8z ?_;have htx:=txtP_ok hp;refine c66z ?_;refine .ca rfl rfl (c_progT hp) ?_;refine .e 1 ?_;refine .ca rfl rfl (c_lexB htx.1 htx.2) ?_;refine .n ?_;refine .c7 [11] ?_;refine .z ?_;exact .ret (.ex (hq:=by rfl))
end Go.Proofs.YtonbocmibeikmaaGreat
end
section
namespace Go.Proofs.YtonbocmibeikmaaGreat
open Go.Ab Go.Un
def sc1:AV→AV
  | .bool b=>.bool b
  | .int k n=>.int k n
  | .str s=>.str s
  | _=>.any
def sc2:AV→AV
  | .agg cs=>.agg (cs.map sc1)
  | x=>sc1 x
def De:AV→AV
  | .tup xs=>.tup (xs.map sc2)
  | x=>sc2 x
section
variable {h1 h2:c6}{φ1 φ2:Map}{w:World}{v:Value}{x:AV}
theorem KI (r:Rel h1 φ1 w v x):Rel h2 φ2 w v (sc1 x):=by
  unfold sc1;split
  · cases r.bP;exact .bW _
  · cases r.z5;exact .bY _ _
  · cases r.eX;exact .pX _
  · exact .jW _
theorem KJ (r:Rel h1 φ1 w v x):Rel h2 φ2 w v (sc2 x):=by
  unfold sc2;split
  · rename_i cs
    obtain ⟨a,rfl,ha,hc,hr⟩:=r.kR;refine .agg a _ (by simp[ha]) hc fun j u z hu hz=>?_;rw[List.getElem?_map]at hz;obtain ⟨y,hy,rfl⟩:=Option.map_eq_some_iff.1 hz;exact KI (hr j u y hu hy)
  · exact KI r
theorem KK (r:Rel h1 φ1 w v x):Rel h2 φ2 w v (De x):=by
  unfold De;split
  · rename_i xs
    obtain ⟨a,rfl,ha,hr⟩:=r.nG;refine .tup a _ (by simp[ha]) fun j u z hu hz=>?_;rw[List.getElem?_map]at hz;obtain ⟨y,hy,rfl⟩:=Option.map_eq_some_iff.1 hz;exact KJ (hr j u y hu hy)
  · exact KJ r
end
variable {h:c6}
theorem borrowD {f:FuncId}{args args':List AV}{x:AV}(ha:OQ 0 h args' args)(r:CallA Tryz.prog cfg f args' (z4 0 h) fun y _=>y=x):CallA Tryz.prog cfg f args h fun y k=>y=De x∧k=h:=by
  intro B φ w cargs i hs hr;obtain ⟨i',_⟩:=B1 0 i;obtain ⟨k1,k2⟩:=ha.get;refine (r B φ w cargs i' t221 fun j v y h1 h2=>?_).mono fun e w' hp=>?_
  · have hj:j<args.length:=by rw[←k1];exact (List.getElem?_eq_some_iff.1 h2).1
    have e1:args'.getD j .any=y:=by simp[List.getD,h2]
    have e2:args.getD j .any=args[j]:=by simp[List.getD,hj]
    rcases k2 j with h | h
    · rw[e1]at h
      rw[h];exact .jW _
    · rw[e1,e2]at h
      exact B2 i 0 h (hr j v _ h1 (List.getElem?_eq_getElem hj))
  · obtain ⟨v,y,h',φ',rfl,h1,h2,h3,rfl⟩:=hp
    have hfree:∀k,k<w.heap.size→X6 (z4 0 h) φ w k:=fun k hk=>⟨hk,fun β b hb hv=>by
      rcases dO hb with ⟨hn,_⟩ | ⟨_,b',_,rfl⟩
      · omega
      · cases hv⟩
    have hk:∀k,k<w.heap.size→w'.heap[k]?=w.heap[k]?:=fun k hk=>(h2.lU k (hfree k hk)).1;have ev:Ev h φ w h φ w':=⟨h2.os,h2.tape,h2.output,h2.size,fun k hs=>⟨hk k hs.1,Nat.lt_of_lt_of_le hs.1 h2.size,hs.2⟩,fun k j hs=>⟨World.cell?_of_block (hk k hs.1),Nat.lt_of_lt_of_le hs.1 h2.size,hs.2⟩,Nat.le_refl _,fun β b b' e1 e2=>by rw[e1]at e2;cases e2;exact ⟨Nat.le_refl _,fun _=>⟨rfl,rfl,rfl⟩⟩⟩;refine ⟨v,_,h,φ,rfl,⟨fun β b hb hv=>?_,i.inj,i.base,i.cQ,Nat.le_trans i.room h2.size,fun g=>ev.H8 (i.eJ g)⟩,ev,KK h3,rfl,rfl⟩;obtain ⟨cur,q1,q2,q3,q4⟩:=i.blk β b hb hv;exact ⟨cur,(hk _ (Array.getElem?_eq_some_iff.1 q1).1).trans q1,q2,q3,fun j v x a d=>⟨(q4 j v x a d).1,ev.rel (q4 j v x a d).2⟩⟩
variable {g n:Nat}
theorem F4 {H:c6}{β:Nat}{l:List Ent}{x:BA}(hb:H[β]?=some (s8 145 3 g (j8 l)))(hn:l.length=n)(hl:l.length<1000000)(hf:cO l x=none):CB 89 [.own β g 0 n,.str x] H (.tup [.agg [.str ByteArray.empty,.int .i64 0,.int .i64 0],.bool false]):=by subst hn;have e:pJ 0 H (.own β g 0 l.length)=some (.vec l.length (j8 l)):=lJ hb (Nat.zero_le _) (by rw[v7];omega) (by omega) ((sJ l).frz _ _ _);have ha:OQ 0 H [.vec l.length (j8 l),.str x] [.own β g 0 l.length,.str x]:=And.intro (.inr e) (And.intro (.inr rfl) trivial);exact borrowD ha ((JW hf hl).mono fun _ _ h=>h.1)
variable {p:Go.Un.Pg}
theorem rD:(bL p).length=p.globals.length+(p.c4.length+p.funcs.length):=by simp[bL]
variable {i:Nat}
theorem TV (h:i<(bL p).length):(bL p).getD i kX=if i<p.globals.length then ⟨(p.globals.getD i mU).name,1,(i:Int)⟩ else if i-p.globals.length<p.c4.length then ⟨(p.c4.getD (i-p.globals.length) aA).name,2,((i-p.globals.length:Nat):Int)⟩ else ⟨(p.funcs.getD (i-p.globals.length-p.c4.length) j7).name,3,((i-p.globals.length-p.c4.length:Nat):Int)⟩:=by
  rw[rD]at h;unfold bL;rw[List.getD_eq_getElem?_getD];by_cases h1:i<p.globals.length
  · rw[if_pos h1,List.getElem?_append_left t141]
    simp[h1]
  · rw[if_neg h1,List.getElem?_append_right (by simpa using Nat.le_of_not_lt h1)]
    simp only[List.length_map,List.length_range];by_cases h2:i-p.globals.length<p.c4.length
    · rw[if_pos h2,List.getElem?_append_left t115]
      simp[h2]
    · rw[if_neg h2,List.getElem?_append_right (by simpa using Nat.le_of_not_lt h2)]
      simp only[List.length_map,List.length_range];have h3:i-p.globals.length-p.c4.length<p.funcs.length:=by omega
      simp[h3]
theorem KL (h:i<(bL p).length):(bL p).getD i kX=if i<p.globals.length then ⟨(p.globals.getD i mU).name,1,(i:Int)⟩ else if (i:Int)-p.globals.length<p.c4.length then ⟨(p.c4.getD ((i:Int)-p.globals.length).toNat aA).name,2,(i:Int)-p.globals.length⟩ else ⟨(p.funcs.getD ((i:Int)-p.globals.length-p.c4.length).toNat j7).name,3,(i:Int)-p.globals.length-p.c4.length⟩:=by
  rw[TV h];by_cases h1:i<p.globals.length
  · rw[if_pos h1,if_pos h1]
  · rw[if_neg h1,if_neg h1,show ((i:Int)-p.globals.length).toNat=i-p.globals.length from by omega,show ((i:Int)-p.globals.length-p.c4.length).toNat=i-p.globals.length-p.c4.length from by omega]
    by_cases h2:i-p.globals.length<p.c4.length
    · rw[if_pos h2,if_pos (by omega),show ((i-p.globals.length:Nat):Int)=(i:Int)-p.globals.length from by omega]
    · rw[if_neg h2,if_neg (by omega),show ((i-p.globals.length-p.c4.length:Nat):Int)=(i:Int)-p.globals.length-p.c4.length from by omega]
theorem KM {l:List Ent}(hn:(l.map (·.name)).Nodup)(hi:i<l.length):cO (l.take i) (l.getD i kX).name=none:=by
  refine wI fun h=>?_;obtain ⟨e,he,hx⟩:=List.mem_map.1 h;obtain ⟨j,hj,rfl⟩:=List.mem_iff_getElem.1 he;simp only[List.length_take]at hj;have hjl:j<l.length:=by omega
  simp only[List.getElem_take]at hx;have e1:l.getD i kX=l[i]:=by simp[List.getD,hi]
  rw[e1]at hx;have:=(List.pairwise_iff_getElem.1 hn) j i (by simpa using hjl) (by simpa using hi) (by omega);simp only[List.getElem_map]at this;exact this hx
theorem zF (h:GP p):((bL p).map (·.name)).Nodup:=by have h1:=(wK h.toGH (i:=0) (by have:=h.fl;omega)).nodup wJ;rw[List.map_append]at h1;exact (List.nodup_append.1 h1).1
theorem takeD {l:List Ent}(h:i<l.length):l.take (i+1)=l.take i++[l.getD i kX]:=by rw[List.take_add_one];simp[List.getD,h]
theorem O4 {l:List Ent}{x:Ent}:j8 (l++[x])=j8 l++[.str x.name,.int .i64 x.kind,.int .i64 x.n]:=by simp[j8,jY]
variable {b0 b2 b3:Blk}{es:List Ent}
theorem app_ent {l:c6}{x:BA}{k m:Int}(hn:es.length=n)(hl:n<100000):j9 cfg 145 (h++(b0::s8 145 3 g (j8 es)::b2::b3::⟨0,false,145,3,[.str x,.int .i64 k,.int .i64 m],0⟩::l)) (.own (h.length+1) g 0 n) (.own (h.length+4) 0 0 1)=some (.own (h.length+1) (g+1) 0 (n+1),h++(b0::s8 145 3 (g+1) (j8 (es++[⟨x,k,m⟩]))::b2::b3::⟨0,false,145,3,[.str x,.int .i64 k,.int .i64 m],0⟩::l)):=by subst hn;rw[aJ (C:=cfg) (K:=3) (m:=1) (new:=[.str x,.int .i64 k,.int .i64 m]) (zs:=j8 es) t36 rfl (by omega) (by rw[v7];omega) rfl (by omega) t155 rfl (by decide) (by omega),O4,s3];rfl
theorem TW {l:List Gl}(h:i<l.length):List.take 1 (List.drop (i*2) (u0 l))=[.str (l.getD i mU).name]:=ES EA 2 0 (fun _=>rfl) (by omega) mU h
theorem TX {l:List Mx}(h:i<l.length):List.take 1 (List.drop (i*3) (g6 l))=[.str (l.getD i aA).name]:=ES QR 3 0 (fun _=>rfl) (by omega) aA h
theorem TY {l:List Fu}(h:i<l.length):List.take 1 (List.drop (i*3) (o8 l))=[.str (l.getD i j7).name]:=ES fE 3 0 (fun _=>rfl) (by omega) j7 h
attribute [local go_sem] rd v7 o7 cB dQ p7 bN iA eO n6 bX bK l8 cD Int.natCast_nonneg Int.natCast_inj List.length_map wrap64 iF kP kQ AQ M7 T7 AR D0 max2 gM dY cG Nat.reduceMul oG lL aW jY qZ mL wY TW TX TY app_ent
theorem c_decl (hp:GP p):CB 88 [.agg [.vec p.globals.length (u0 p.globals),.vec p.c4.length (g6 p.c4),.vec p.funcs.length (o8 p.funcs)]] h (.tup [.vec (bL p).length (j8 (bL p)),.int .i64 (-1)]):=by
  refine .bz Tryz.f88 94 ?_;have hdl:=rD (p:=p);have hnd:=zF hp;have hgl:=hp.gl;have hml:=hp.ml;have hfl:=hp.fl;refine c75z ?_;refine .z ?_;refine c244z ?_;refine .c7 [1,4,5,6] ?_;refine c15z ?_;refine c9.wC 4 rfl ?_;refine .aN (fun m st=>∃(i:Nat),(m=(bL p).length-i∧i≤(bL p).length)∧st=⟨mkS 94 [(1,AV.ptr h.length 0 0),(4,AV.own (h.length+1) i 0 i),(5,AV.int .i64 (-1)),(6,AV.int .i64 ((bL p).length:Int)),(7,AV.int .i64 ((i:Nat):Int))],h++[⟨0,false,27,3,[.vec p.globals.length (u0 p.globals),.vec p.c4.length (g6 p.c4),.vec p.funcs.length (o8 p.funcs)],0⟩,s8 145 3 i (j8 ((bL p).take i))]⟩) (.v ⟨0,⟨rfl,by omega⟩,rfl⟩ (hs:=t54)) ?_;rintro m sl h' ⟨i,⟨hm,hi⟩,hst⟩;obtain ⟨rfl,rfl⟩:=St.mk.inj hst;clear hst;have htl:((bL p).take i).length=i:=by simp;omega
  refine c1z ?_;refine u2z ?_ ?_
  ·intro e1 qe1;refine c3z ?_;refine c23z ?_;have hat:=KL (p:=p) (i:=i) (by omega);have hfn:=KM hnd (i:=i) (by omega);refine c15z ?_;refine .c7 [1,4,5,6,7,8,9] ?_;refine .z ?_;refine u2z ?_ ?_
   ·intro e2 qe2;refine c115z ?_;refine .seq ?_;refine .c7 [1,4,5,6,7,8] ?_;rw[if_pos (by omega)]at hat;rw[hat]at hfn;refine c230z ?_;refine .n ?_;refine c250z ?_;refine c20z ?_;refine c2z ?_;refine .c7 [1,4,5,6,7] ?_;refine .rz ?_;exact ⟨_,by omega,.v ⟨(i+1),⟨rfl,by omega⟩,rfl⟩ (he:=t118) (hk:=t116) (hs:=t54)⟩
   intro e2 qe2;refine .z ?_;refine u2z ?_ ?_
   ·intro e3 qe3;refine .c7 [1,4,5,6,7,8,9] ?_;refine c115z ?_;refine .seq ?_;refine .c7 [1,4,5,6,7,8] ?_;rw[if_neg (by omega),if_pos (by omega)]at hat;rw[hat]at hfn;refine c230z ?_;refine .n ?_;refine c250z ?_;refine c20z ?_;refine c2z ?_;refine .c7 [1,4,5,6,7] ?_;refine .rz ?_;exact ⟨_,by omega,.v ⟨(i+1),⟨rfl,by omega⟩,rfl⟩ (he:=t118) (hk:=t116) (hs:=t54)⟩
   intro e3 qe3;refine .c7 [1,4,5,6,7,8,9] ?_;refine .so z8 (mkP 17 [0,1,0,0,8,24,60,127,255,511,0,0,2048,6144,15360,32767,65535] [16]) ?_;refine .k 8 [] ?_;refine c47z ?_;change c9 ..;refine .seq ?_;refine .c7 [1,4,5,6,7,8] ?_;rw[if_neg (by omega),if_neg (by omega)]at hat;rw[hat]at hfn;refine c230z ?_;refine .n ?_;refine c250z ?_;refine c20z ?_;refine c2z ?_;refine .c7 [1,4,5,6,7] ?_;refine .rz ?_;exact ⟨_,by omega,.v ⟨(i+1),⟨rfl,by omega⟩,rfl⟩ (he:=t118) (hk:=t116) (hs:=t54)⟩
  intro e1 qe1;refine .exit ?_;obtain rfl:i=(bL p).length:=by omega
  rw[List.take_length];refine c9.tA (t:=4) (γ:=h.length+1) (len:=(bL p).length) t36 (by rw[v7];omega) (by omega) (sJ _) (kT (by decide) rfl) ?_;rw[cA];simp only[s3,List.set_cons_succ,List.set_cons_zero];change c9 ..;refine .z ?_;exact .ret (.ex (hq:=by rfl))
def s0F (p:Go.Un.Pg)(f:Fu):Sco:=⟨p,bL p++mV f.params 0 0,(iD f.params:Int),0,[],[]⟩
def s1F (p:Go.Un.Pg)(f:Fu):Sco:=dT (s0F p f).l (s0F p f) f.body
def s2F (p:Go.Un.Pg)(f:Fu):Sco:=p8 (s1F p f) ⟨8,0,false,l9,cS,[],[]⟩ (s1F p f).st
variable {a b c d:Blk}{s:Sco}{r:c6}
theorem TZ:(h++(a::b::c::d::aW (h.length+4) s::s8 54 12 (s).code.length (s5 (s).code)::s8 3 1 (s).sites.length (g8 (s).sites)::r))=hT ⟨h++[a,b,c,d],r⟩ (aW (h.length+4) s) s.code s.sites:=by simp[hT]
theorem hF_k:Frm.k ⟨h++[a,b,c,d],r⟩=h.length+4:=by simp[Frm.k]
theorem UA {E:Env}{cx:Ctx}{S:Sl}(hw:S.wt≤1000){vars:List BA}(sc:SC E cx vars s.l)(hG:GS E S vars)(bd:Bd E cx s.p)(B:Bnd s S.wt):CH 133 [.ptr (h.length+4) 0 0,.vec S.len (s4 S)] (h++(a::b::c::d::aW (h.length+4) s::s8 54 12 (s).code.length (s5 (s).code)::s8 3 1 (s).sites.length (g8 (s).sites)::r)) (.tup []) (h++(a::b::c::d::aW (h.length+4) (dT s.l s S)::s8 54 12 ((dT s.l s S)).code.length (s5 ((dT s.l s S)).code)::s8 3 1 ((dT s.l s S)).sites.length (g8 ((dT s.l s S)).sites)::r)):=by have:=BL 1000 S hw (Nat.le_refl _) vars s sc hG bd B ⟨h++[a,b,c,d],r⟩;rw[hF_k,←TZ,←TZ]at this;exact this
theorem c_putF (hc:s.code.length<10000)(hs:s.sites.length<10000)(i:Ins)(t:Int){zs:List AV}(hz:pV (fT i) zs):CH 134 [.ptr (h.length+4) 0 0,.agg zs,.int .i64 t] (h++(a::b::c::d::aW (h.length+4) s::s8 54 12 (s).code.length (s5 (s).code)::s8 3 1 (s).sites.length (g8 (s).sites)::r)) (.int .i64 ((s.code.length:Nat):Int)) (h++(a::b::c::d::aW (h.length+4) (p8 s i t)::s8 54 12 ((p8 s i t)).code.length (s5 ((p8 s i t)).code)::s8 3 1 ((p8 s i t)).sites.length (g8 ((p8 s i t)).sites)::r)):=by have:=nT (e:=⟨h++[a,b,c,d],r⟩) hc hs i t hz;rw[hF_k,←TZ,←TZ]at this;exact this
variable {b1:Blk}
theorem app_cpF {l:c6}(hz:es.length=n)(h0:0<n)(hn:n<1000):j9 cfg 145 (h++(b0::b1::b2::⟨0,false,145,3,[],0⟩::l)) (.own (h.length+3) 0 0 0) (.vec n (j8 es))=some (.own (h.length+3) 1 0 n,h++(b0::b1::b2::⟨1,false,145,3,j8 es,0⟩::l)):=by
  subst hz;have e1:cfg.sz 145=3:=rfl;have e2:(cfg.ti 145).bytes=32:=rfl;have hm:es.length≤maxLen:=by
    have:(1000:Nat)≤maxLen:=by decide
    omega
  have hb:es.length*32≤140737488355328:=by omega
  have h1:(j8 es).length=es.length*3:=by rw[v7];omega
  have h2:¬es.length=0:=by omega
  have h3:¬es.length*3=0:=by omega
  simp[j9,rd,lenOf,e1,e2,h1,hm,hb,v9,s3,h0,h2,h3]
variable {b4:Blk}
theorem app_onF {b5 b6 b7 b8:Blk}{l:c6}{x:BA}{k m:Int}(hz:es.length=n)(hn:n<1000):j9 cfg 145 (h++(b0::b1::b2::⟨g,false,145,3,j8 es,0⟩::b4::b5::b6::b7::b8::⟨0,false,145,3,[.str x,.int .i64 k,.int .i64 m],0⟩::l)) (.own (h.length+3) g 0 n) (.own (h.length+9) 0 0 1)=some (.own (h.length+3) (g+1) 0 (n+1),h++(b0::b1::b2::⟨g+1,false,145,3,j8 (es++[⟨x,k,m⟩]),0⟩::b4::b5::b6::b7::b8::⟨0,false,145,3,[.str x,.int .i64 k,.int .i64 m],0⟩::l)):=by
  subst hz;have e1:cfg.sz 145=3:=rfl;have e2:(cfg.ti 145).bytes=32:=rfl;have hm:es.length+1≤maxLen:=by
    have:(1001:Nat)≤maxLen:=by decide
    omega
  have hb:(es.length+1)*32≤140737488355328:=by omega
  have h1:(j8 es).length=es.length*3:=by rw[v7];omega
  have ht:List.take (es.length*3) (j8 es)=j8 es:=List.take_of_length_le (by omega);have hnl:¬(es.length+1)*3≤es.length*3:=by omega
  have hs:j8 (es++[⟨x,k,m⟩])=j8 es++[.str x,.int .i64 k,.int .i64 m]:=by simp[j8,jY]
  simp[j9,rd,lenOf,e1,e2,h1,hm,hb,ht,hnl,v9,s3,hs]
theorem rE:∀{l:List Pm} {x:Pm} {a b:Nat},mV (l++[x]) a b=mV l a b++[if x.mu then ⟨x.name,5,((b+bT l:Nat):Int)⟩ else ⟨x.name,4,((a+iD l:Nat):Int)⟩]
  | [],x,a,b=>by simp[mV,bT,iD];split<;>rfl
  | y::l,x,a,b=>by
    simp only[List.cons_append,mV];cases hy:y.mu with
    | true=>
      simp only[if_true,rE (l:=l),List.cons_append,bT,iD,List.filter_cons,hy,Bool.not_true,Bool.false_eq_true,if_false,List.length_cons];rw[show b+1+(l.filter fun x=>x.mu).length=b+((l.filter fun x=>x.mu).length+1) from by omega]
    | false=>
      simp only[Bool.false_eq_true,if_false,rE (l:=l),List.cons_append,bT,iD,List.filter_cons,hy,Bool.not_false,if_true,List.length_cons];rw[show a+1+(l.filter fun x=>! x.mu).length=a+((l.filter fun x=>! x.mu).length+1) from by omega]
variable {l:List Pm}
theorem BN {a b:Nat}:(mV l a b).length=l.length:=by have:=congrArg List.length (jR l a b);simpa using this
theorem BO:iD l≤l.length:=List.length_filter_le _ _
theorem sL (h:i<l.length):l.take (i+1)=l.take i++[l.getD i jL]:=by rw[List.take_add_one];simp[List.getD,h]
theorem zG {x:Pm}:iD (l++[x])=iD l+(if x.mu then 0 else 1):=by simp only[iD,List.filter_append,List.length_append];cases h:x.mu<;>simp[h]
theorem xD {x:Pm}:bT (l++[x])=bT l+(if x.mu then 1 else 0):=by simp only[bT,List.filter_append,List.length_append];cases h:x.mu<;>simp[h]
theorem drop_pm (hi:i<l.length):l.drop i=l.getD i jL::l.drop (i+1):=by rw[List.drop_eq_getElem_cons hi];simp[List.getD,hi]
theorem findP (hp:GP p){j:Nat}(hj:j<p.funcs.length)(hi:i<(p.funcs.getD j j7).params.length):cO (bL p++mV ((p.funcs.getD j j7).params.take i) 0 0) ((p.funcs.getD j j7).params.getD i jL).name=none:=by
  have hn:=(wK hp.toGH hj).nodup wJ;rw[List.map_append,jR]at hn;have hs:((p.funcs.getD j j7).params.map (·.name))=(((p.funcs.getD j j7).params.take i).map (·.name))++((p.funcs.getD j j7).params.getD i jL).name::(((p.funcs.getD j j7).params.drop (i+1)).map (·.name)):=by
    have h1:(p.funcs.getD j j7).params=(p.funcs.getD j j7).params.take i++((p.funcs.getD j j7).params.getD i jL::(p.funcs.getD j j7).params.drop (i+1)):=by have h2:=drop_pm hi;rw[←h2,List.take_append_drop]
    have h3:=congrArg (List.map (fun x:Pm=>x.name)) h1;rw[List.map_append,List.map_cons]at h3;exact h3
  rw[hs,←List.append_assoc]at hn;refine wI fun hm=>?_;rw[List.map_append,jR]at hm;exact (List.nodup_append.1 hn).2.2 _ hm _ (by simp) rfl
theorem bd_of (hp:GP p){f:Fu}:Bd (RA p f) (ctxP p f) p:=⟨rfl,rfl,rfl,fun x hx=>by obtain ⟨g,hg,rfl⟩:=List.mem_map.1 hx;exact (hp.toGH.qT hg).1⟩
theorem UB (h:i<l.length):List.take 1 (List.drop (i*2) (aC l))=[.str (l.getD i jL).name]:=ES DZ 2 0 (fun _=>rfl) (by omega) jL h
section
attribute [local go_sem] app_cpF app_onF F1 wZ xA F2 F3 sH oI UB
theorem c_func (hp:GP p){j:Nat}(hj:j<p.funcs.length):CB 90 [.agg [.vec p.globals.length (u0 p.globals),.vec p.c4.length (g6 p.c4),.vec p.funcs.length (o8 p.funcs)],.vec (bL p).length (j8 (bL p)),.agg (fE (p.funcs.getD j j7))] h (.tup [.agg (wF (oW p (p.funcs.getD j j7))),.vec (s2F p (p.funcs.getD j j7)).sites.length (g8 (s2F p (p.funcs.getD j j7)).sites),.int .i64 0,.int .i64 0]):=by
  unfold fE;refine .bz Tryz.f90 136 ?_;have hdl:=rD (p:=p);have hgl:=hp.gl;have hml:=hp.ml;have hfl:=hp.fl;have hpn:=(hp.toGH.qT (j0 (d:=j7) hj)).1;have hbd:=hp.body j hj;have hwt:=V3 (l:=p.funcs) hj;have hww:=hp.wt;refine .z ?_;refine .sg z8 (mkH 7 [0,0,0,6,15,31,63] [1,3,5] [] [0,2,10,42] [0]) 0 ?_;refine .rm [true] ?_;refine .en [true] [2,0] [_] ?_;refine .p 1 ?_;refine .en [true,false] [10,2,0] [_] ?_;refine .p 1 ?_;refine .en [true,false,false] [42,10,2,0] [_] ?_;refine .p 1 ?_;refine .po [false,true,true,true] ?_;refine aB.nil rfl ?_;refine .c7 [5,6,10] ?_;refine c9.oV (β:=h.length+4) (k:=8) t36 rfl ?_;simp only[List.append_assoc,List.cons_append,List.nil_append,v9,s3,List.set_cons_succ,List.set_cons_zero,List.length_append,List.length_cons,List.length_nil,Nat.reduceAdd,Nat.zero_add];refine c9.oV (β:=h.length+4) (k:=9) t36 rfl ?_;simp only[List.append_assoc,List.cons_append,List.nil_append,v9,s3,List.set_cons_succ,List.set_cons_zero,List.length_append,List.length_cons,List.length_nil,Nat.reduceAdd,Nat.zero_add];refine c16z ?_;refine .aN (fun m st=>∃(i:Nat),(m=(p.funcs.getD j j7).params.length-i∧i≤(p.funcs.getD j j7).params.length)∧st=⟨mkS 136 [(5,AV.ptr (h.length+1) 0 0),(6,AV.ptr (h.length+2) 0 0),(10,AV.ptr (h.length+4) 0 0),(11,AV.ptr (h.length+7) 0 0),(12,AV.int .i64 ((i:Nat):Int))],h++[⟨0,false,27,3,[.vec p.globals.length (u0 p.globals),.vec p.c4.length (g6 p.c4),.vec p.funcs.length (o8 p.funcs)],0⟩,⟨0,false,136,3,[.str (p.funcs.getD j j7).name,.vec (p.funcs.getD j j7).params.length (aC (p.funcs.getD j j7).params),.vec (p.funcs.getD j j7).body.len (s4 (p.funcs.getD j j7).body)],0⟩,⟨0,false,57,5,[.str ByteArray.empty,.int .i64 0,.int .i64 0,.int .i64 0,.j4],0⟩,⟨1+i,false,145,3,j8 (bL p++mV ((p.funcs.getD j j7).params.take i) 0 0),0⟩,⟨0,false,198,10,[.vec p.globals.length (u0 p.globals),.vec p.c4.length (g6 p.c4),.vec p.funcs.length (o8 p.funcs),.own (h.length+3) (1+i) 0 ((bL p).length+i),.int .i64 0,.int .i64 0,.int .i64 0,.int .i64 0,.own (h.length+5) 0 0 0,.own (h.length+6) 0 0 0],0⟩,⟨0,true,0,0,[],0⟩,⟨0,true,0,0,[],0⟩,⟨0,false,57,5,[.str (p.funcs.getD j j7).name,.int .i64 ((iD ((p.funcs.getD j j7).params.take i):Nat):Int),.int .i64 ((bT ((p.funcs.getD j j7).params.take i):Nat):Int),.int .i64 0,.j4],0⟩]⟩) (.v ⟨0,⟨rfl,by omega⟩,rfl⟩) ?_ (he:=by (simp[mV,iD,bT]));rintro m sl h' ⟨i,⟨hm,hi⟩,hst⟩;obtain ⟨rfl,rfl⟩:=St.mk.inj hst;clear hst;have hLl:(bL p++mV ((p.funcs.getD j j7).params.take i) 0 0).length=(bL p).length+i:=by simp only[List.length_append,BN,List.length_take];omega
  have hpl:(mV ((p.funcs.getD j j7).params.take i) 0 0).length=i:=by simp only[BN,List.length_take];omega
  have hne:j8 (bL p++mV ((p.funcs.getD j j7).params.take i) 0 0)≠[]:=by intro h0;have:=congrArg List.length h0;rw[v7]at this;replace this:=s7z this;omega
  have hni:=BO (l:=(p.funcs.getD j j7).params.take i);have hnl:=M6 (l:=(p.funcs.getD j j7).params.take i);rw[List.length_take]at hni hnl;refine c1z ?_;refine u2z ?_ ?_
  ·intro e1 qe1;refine c3z ?_;refine .seq ?_;have hfn:=findP hp hj (i:=i) (by omega);refine .sg z8 (mkH 17 [0,1,3,7,0,16,0,112,240,496,1023,2047,4095,4095,0,24575,65535] [10,14,15] [(14,0)] [0,1024,16384,17408,50176] [0,1,2,3,4,5,6,7,8,9,10,11,12,13]) 1 ?_;refine aB.aG t28 ?_;refine .p 3 ?_;refine c110z ?_;refine c260z ?_;refine .cm [true] [1024,0] [_] rfl rfl (by simp only[lH,and_true,List.cons_append,List.nil_append];exact F4 t225 hLl (by omega) hfn) ?_;refine .p 3 ?_;refine .en [true,true] [17408,16384,1024,0] [_,_] ?_;refine .en [true,false,false,false] [50176,17408,16384,1024,0] [_] ?_;refine .p 1 ?_;refine aB.pop [false,false,true,false,true] (by kernel_rfl) (by simp only[sY,and_true,List.cons_append,List.nil_append];exact ⟨eB.u9 rfl rfl rfl rfl hb89 (F4 t225 hLl (by omega) hfn) rfl,eB.u9 rfl rfl rfl rfl hb89 (F4 t225 hLl (by omega) hfn) rfl⟩) ?_;refine c162z ?_;refine .po [false,false,true,false,true] ?_;refine aB.nil rfl ?_;refine .c7 [5,6,10,11,12,14] ?_;refine c6z ?_;refine .sk ?_;refine .z ?_;refine u2z ?_ ?_
   ·intro e2 qe2;refine .c7 [5,6,10,11,12] ?_;refine .sg z8 (mkH 19 [0,0,2,6,14,0,32,0,224,480,992,0,2048,8160,16352,32766,65535,131071,262143] [14,15,18] [] [0,16384,49152,311296] [0,1,2,3,4]) 0 ?_;refine .p 4 ?_;refine c189z ?_;refine c111z ?_;refine c72z ?_;refine c72z ?_;refine .en [true] [16384,0] [_] ?_;refine .en [true,false] [49152,16384,0] [_] ?_;refine .p 2 ?_;refine .en [true,false,false] [311296,49152,16384,0] [_] ?_;refine c31z ?_;refine .c7 [5,6,10,11,12,57] ?_;refine c67z ?_;have hmu:((p.funcs.getD j j7).params.getD i jL).mu=true:=by simp_all
    have hs1:mV ((p.funcs.getD j j7).params.take (i+1)) 0 0=mV ((p.funcs.getD j j7).params.take i) 0 0++[⟨((p.funcs.getD j j7).params.getD i jL).name,5,((bT ((p.funcs.getD j j7).params.take i):Nat):Int)⟩]:=by rw[sL (by omega),rE,hmu];simp
    have hs2:iD ((p.funcs.getD j j7).params.take (i+1))=iD ((p.funcs.getD j j7).params.take i)+0:=by rw[sL (by omega),zG,hmu];rfl
    have hs3:bT ((p.funcs.getD j j7).params.take (i+1))=bT ((p.funcs.getD j j7).params.take i)+1:=by rw[sL (by omega),xD,hmu];rfl
    exact ⟨_,by omega,.v ⟨(i+1),⟨rfl,by omega⟩,rfl⟩ (he:=t143) (hk:=t84)⟩
   intro e2 qe2;refine .c7 [5,6,10,11,12] ?_;refine .sg z8 (mkH 19 [0,0,2,6,14,0,32,0,224,480,992,0,2048,8160,16352,32766,65535,131071,262143] [14,15,18] [] [0,16384,49152,311296] [0,1,2,3,4]) 0 ?_;refine .p 4 ?_;refine c189z ?_;refine c111z ?_;refine c72z ?_;refine c72z ?_;refine .en [true] [16384,0] [_] ?_;refine .en [true,false] [49152,16384,0] [_] ?_;refine .p 2 ?_;refine .en [true,false,false] [311296,49152,16384,0] [_] ?_;refine c31z ?_;refine .c7 [5,6,10,11,12] ?_;refine c67z ?_;have hmu:((p.funcs.getD j j7).params.getD i jL).mu=false:=by simp_all
   have hs1:mV ((p.funcs.getD j j7).params.take (i+1)) 0 0=mV ((p.funcs.getD j j7).params.take i) 0 0++[⟨((p.funcs.getD j j7).params.getD i jL).name,4,((iD ((p.funcs.getD j j7).params.take i):Nat):Int)⟩]:=by rw[sL (by omega),rE,hmu];simp
   have hs2:iD ((p.funcs.getD j j7).params.take (i+1))=iD ((p.funcs.getD j j7).params.take i)+1:=by rw[sL (by omega),zG,hmu];rfl
   have hs3:bT ((p.funcs.getD j j7).params.take (i+1))=bT ((p.funcs.getD j j7).params.take i)+0:=by rw[sL (by omega),xD,hmu];rfl
   exact ⟨_,by omega,.v ⟨(i+1),⟨rfl,by omega⟩,rfl⟩ (he:=t143) (hk:=t84)⟩
  intro e1 qe1;refine .exit ?_;obtain rfl:i=(p.funcs.getD j j7).params.length:=by omega
  rw[List.take_length]at hLl hne ⊢;rw[←hLl];refine c9.L2 (γ:=h.length+3) (β:=h.length+4) (k:=3) (off:=0) (len:=(bL p++mV (p.funcs.getD j j7).params 0 0).length) (cs:=j8 (bL p++mV (p.funcs.getD j j7).params 0 0)) t36 rfl (by simp only[v7];omega) (by rw[List.drop_zero,List.take_of_length_le (by simp only[v7];omega)];exact (sJ _).WN) t36 (by omega) rfl ?_;refine c22z ?_;refine .z ?_;refine .c7 [5,6,10,11] ?_;refine c9.aG (h++[⟨0,false,27,3,[.vec p.globals.length (u0 p.globals),.vec p.c4.length (g6 p.c4),.vec p.funcs.length (o8 p.funcs)],0⟩,⟨0,false,136,3,[.str (p.funcs.getD j j7).name,.vec (p.funcs.getD j j7).params.length (aC (p.funcs.getD j j7).params),.vec (p.funcs.getD j j7).body.len (s4 (p.funcs.getD j j7).body)],0⟩,⟨0,false,57,5,[.str ByteArray.empty,.int .i64 0,.int .i64 0,.int .i64 0,.j4],0⟩,eM ⟨1+(p.funcs.getD j j7).params.length,false,145,3,j8 (bL p++mV (p.funcs.getD j j7).params 0 0),0⟩ (0+(bL p++mV (p.funcs.getD j j7).params 0 0).length*3),aW (h.length+4) (s0F p (p.funcs.getD j j7)),s8 54 12 (s0F p (p.funcs.getD j j7)).code.length (s5 (s0F p (p.funcs.getD j j7)).code),s8 3 1 (s0F p (p.funcs.getD j j7)).sites.length (g8 (s0F p (p.funcs.getD j j7)).sites),⟨0,false,57,5,[.str (p.funcs.getD j j7).name,.int .i64 ((iD (p.funcs.getD j j7).params:Nat):Int),.int .i64 ((bT (p.funcs.getD j j7).params:Nat):Int),.int .i64 0,.j4],0⟩]) (by simp only[s0F,aW,List.length_append,Nat.zero_add];rfl) ?_;generalize eM ⟨1+(p.funcs.getD j j7).params.length,false,145,3,j8 (bL p++mV (p.funcs.getD j j7).params 0 0),0⟩ (0+(bL p++mV (p.funcs.getD j j7).params 0 0).length*3)=Lb;have hni2:=BO (l:=(p.funcs.getD j j7).params);have hB0:Bnd (s0F p (p.funcs.getD j j7)) (p.funcs.getD j j7).body.wt:=⟨by show 0<(bL p++mV (p.funcs.getD j j7).params 0 0).length;omega,by show (bL p++mV (p.funcs.getD j j7).params 0 0).length+_≤_;omega,by show 0+_≤_;omega,by show 0+_≤_;omega,by show 0≤((iD (p.funcs.getD j j7).params:Nat):Int);omega,by show ((iD (p.funcs.getD j j7).params:Nat):Int)+_≤_;omega,Int.le_refl _,by show 0+_≤_;omega⟩;refine c12z ?_;refine .ch rfl rfl (UA (s:=(s0F p (p.funcs.getD j j7))) (by omega) (sc_of hp.toGH hj) hbd.1 (bd_of hp) hB0) ?_;refine .nil ?_;have hc1:=kA (l0:=(s0F p (p.funcs.getD j j7)).l) (s:=(s0F p (p.funcs.getD j j7))) (S:=(p.funcs.getD j j7).body);have hc2:=jT (l0:=(s0F p (p.funcs.getD j j7)).l) (s:=(s0F p (p.funcs.getD j j7))) (S:=(p.funcs.getD j j7).body);change _≤(s1F p (p.funcs.getD j j7)).code.length∧(s1F p (p.funcs.getD j j7)).code.length≤0+_ at hc1;change _≤(s1F p (p.funcs.getD j j7)).sites.length∧(s1F p (p.funcs.getD j j7)).sites.length≤0+_ at hc2;refine c9.aG (h++[⟨0,false,27,3,[.vec p.globals.length (u0 p.globals),.vec p.c4.length (g6 p.c4),.vec p.funcs.length (o8 p.funcs)],0⟩,⟨0,false,136,3,[.str (p.funcs.getD j j7).name,.vec (p.funcs.getD j j7).params.length (aC (p.funcs.getD j j7).params),.vec (p.funcs.getD j j7).body.len (s4 (p.funcs.getD j j7).body)],0⟩,⟨0,false,57,5,[.str ByteArray.empty,.int .i64 0,.int .i64 0,.int .i64 0,.j4],0⟩,Lb,aW (h.length+4) (s1F p (p.funcs.getD j j7)),s8 54 12 (s1F p (p.funcs.getD j j7)).code.length (s5 (s1F p (p.funcs.getD j j7)).code),s8 3 1 (s1F p (p.funcs.getD j j7)).sites.length (g8 (s1F p (p.funcs.getD j j7)).sites),⟨0,false,57,5,[.str (p.funcs.getD j j7).name,.int .i64 ((iD (p.funcs.getD j j7).params:Nat):Int),.int .i64 ((bT (p.funcs.getD j j7).params:Nat):Int),.int .i64 0,.j4],0⟩]) rfl ?_;refine c133z ?_;refine .ch rfl rfl (c_putF (s:=(s1F p (p.funcs.getD j j7))) (by omega) (by omega) ⟨8,0,false,l9,cS,[],[]⟩ _ (by repeat' (first | exact trivial | exact pV.refl _ | exact .inl rfl | exact .inr ⟨rfl,rfl⟩ | refine ⟨?_,?_⟩))) ?_;refine .nil ?_;refine .c7 [6,10,11] ?_;refine c9.aG (h++[⟨0,false,27,3,[.vec p.globals.length (u0 p.globals),.vec p.c4.length (g6 p.c4),.vec p.funcs.length (o8 p.funcs)],0⟩,⟨0,false,136,3,[.str (p.funcs.getD j j7).name,.vec (p.funcs.getD j j7).params.length (aC (p.funcs.getD j j7).params),.vec (p.funcs.getD j j7).body.len (s4 (p.funcs.getD j j7).body)],0⟩,⟨0,false,57,5,[.str ByteArray.empty,.int .i64 0,.int .i64 0,.int .i64 0,.j4],0⟩,Lb,aW (h.length+4) (s2F p (p.funcs.getD j j7)),s8 54 12 (s2F p (p.funcs.getD j j7)).code.length (s5 (s2F p (p.funcs.getD j j7)).code),s8 3 1 (s2F p (p.funcs.getD j j7)).sites.length (g8 (s2F p (p.funcs.getD j j7)).sites),⟨0,false,57,5,[.str (p.funcs.getD j j7).name,.int .i64 ((iD (p.funcs.getD j j7).params:Nat):Int),.int .i64 ((bT (p.funcs.getD j j7).params:Nat):Int),.int .i64 0,.j4],0⟩]) rfl ?_;refine c9.qQ (γ:=h.length+5) (β:=h.length+4) (k:=8) (len:=(s2F p (p.funcs.getD j j7)).code.length) t36 (by rw[p7];omega) (by omega) (XU _) t36 (by omega) rfl ?_;simp only[F1,wZ,xA,F2,F3,sH,List.append_assoc,List.cons_append,List.nil_append,v9,s3,List.set_cons_succ,List.set_cons_zero,List.length_append,List.length_cons,List.length_nil,Nat.reduceAdd,Nat.zero_add];generalize gK 54 12 (s2F p (p.funcs.getD j j7)).code.length (s5 (s2F p (p.funcs.getD j j7)).code) ((s2F p (p.funcs.getD j j7)).code.length*12)=Cb;refine c9.qQ (γ:=h.length+6) (β:=h.length+4) (k:=9) (len:=(s2F p (p.funcs.getD j j7)).sites.length) t36 (by rw[l8];omega) (by omega) (yJ _) t36 (by omega) rfl ?_;simp only[List.append_assoc,List.cons_append,List.nil_append,v9,s3,List.set_cons_succ,List.set_cons_zero,List.length_append,List.length_cons,List.length_nil,Nat.reduceAdd,Nat.zero_add];generalize gK 3 1 (s2F p (p.funcs.getD j j7)).sites.length (g8 (s2F p (p.funcs.getD j j7)).sites) ((s2F p (p.funcs.getD j j7)).sites.length*1)=Sb;refine .sg z8 (mkH 12 [0,1,3,7,0,16,48,112,15,271,1023,2047] [9,11] [] [0,512,2560] [4,5,6,7]) 0 ?_;refine .p 3 ?_;refine c111z ?_;refine c189z ?_;refine .en [true] [512,0] [_] ?_;refine .p 1 ?_;refine .en [true,false] [2560,512,0] [_] ?_;refine c200z ?_;refine .c7 [6,10,11] ?_;refine .sg z8 (mkH 17 [0,0,2,6,14,0,32,96,224,0,512,1536,3584,1,8223,25087,65535] [13] [] [0,8192] [1,2,3,4,5,6,7,8,9,10,11,12]) 0 ?_;refine c111z ?_;refine .rm [true] ?_;refine c260z ?_;refine c260z ?_;refine .en [true] [8192,0] [_] ?_;refine .p 3 ?_;refine .po [true,true] ?_;refine .po [true,true] ?_;refine .po [true,true] ?_;refine aB.nil rfl ?_;exact .ret (.ex (hq:=by rfl))
end
theorem plnMx (l:List Mx):z7 (g6 l):=z7.flat fun _=>z7.cons .str (z7.cons .bool (z7.cons .int .nil))
theorem plnPr (l:List Pr):z7 (l4 l):=z7.flat fun _=>z7.cons .str (z7.cons .int (z7.cons .int (z7.cons .int (z7.cons .vec .nil))))
theorem V4 {l:List Pr}{x:Pr}:l4 (l++[x])=l4 l++wF x:=by simp[l4]
theorem EV {l:List Gl}(h:i<l.length):List.take 1 (List.drop (i*2+1) (u0 l))=[.int .i64 (l.getD i mU).init]:=ES EA 2 1 (fun _=>rfl) (by omega) mU h
theorem app_cpM {l:c6}{ms:List Mx}(hz:ms.length=n)(h0:0<n)(hn:n<1000):j9 cfg 66 (h++(b0::b1::b2::⟨1,false,66,3,[],0⟩::l)) (.own (h.length+3) 1 0 0) (.vec n (g6 ms))=some (.own (h.length+3) 2 0 n,h++(b0::b1::b2::⟨2,false,66,3,g6 ms,0⟩::l)):=by
  subst hz;have e1:cfg.sz 66=3:=rfl;have e2:(cfg.ti 66).bytes=32:=rfl;have hm:ms.length≤maxLen:=by
    have:(1000:Nat)≤maxLen:=by decide
    omega
  have hb:ms.length*32≤140737488355328:=by omega
  have h1:(g6 ms).length=ms.length*3:=by rw[n6];omega
  have h2:¬ms.length=0:=by omega
  have h3:¬ms.length*3=0:=by omega
  simp[j9,rd,lenOf,e1,e2,h1,hm,hb,v9,s3,h0,h2,h3]
theorem app_gi {l:c6}{is:List Int}{x:Int}(hn:is.length=n)(hl:n<100000):j9 cfg 3 (h++(b0::b1::b2::b3::b4::s8 3 1 g (g8 is)::⟨0,false,3,1,[.int .i64 x],0⟩::l)) (.own (h.length+5) g 0 n) (.own (h.length+6) 0 0 1)=some (.own (h.length+5) (g+1) 0 (n+1),h++(b0::b1::b2::b3::b4::s8 3 1 (g+1) (g8 (is++[x]))::⟨0,false,3,1,[.int .i64 x],0⟩::l)):=by subst hn;rw[aJ (C:=cfg) (K:=1) (m:=1) (new:=[.int .i64 x]) (zs:=g8 is) t36 rfl (by omega) (by rw[l8,Nat.mul_one]) rfl (by omega) t155 rfl (by decide) (by omega),←rA,s3];rfl
theorem app_pr {b5 b7:Blk}{l:c6}{ps:List Pr}{x:Pr}(hn:ps.length=n)(hl:n<100000):j9 cfg 57 (h++(b0::b1::b2::b3::b4::b5::s8 57 5 g (l4 ps)::b7::⟨0,false,57,5,wF x,0⟩::l)) (.own (h.length+6) g 0 n) (.own (h.length+8) 0 0 1)=some (.own (h.length+6) (g+1) 0 (n+1),h++(b0::b1::b2::b3::b4::b5::s8 57 5 (g+1) (l4 (ps++[x]))::b7::⟨0,false,57,5,wF x,0⟩::l)):=by subst hn;rw[aJ (C:=cfg) (K:=5) (m:=1) (new:=wF x) (zs:=l4 ps) t36 rfl (by omega) (by rw[u6,Nat.mul_comm]) rfl (by omega) (by simp[rd,v9,wF]) rfl (by decide) (by omega),←V4,s3];rfl
theorem UC {l:List Fu}(h:0<l.length):List.take 1 (List.drop 1 (o8 l))=[AV.vec (l.getD 0 j7).params.length (aC (l.getD 0 j7).params)]:=oI (i:=0) h
theorem KN (hp:GP p):cO (bL p) ⟨#[109,97,105,110]⟩=some ⟨⟨#[109,97,105,110]⟩,3,0⟩:=by have hf:=hp.fl.1;have hn:(p.funcs.getD 0 j7).name=⟨#[109,97,105,110]⟩:=(hp.fn 0 (by omega)).1;have:=sD (zF hp) (e:=⟨(p.funcs.getD 0 j7).name,3,((0:Nat):Int)⟩) (List.mem_append.2 (.inr (List.mem_append.2 (.inr (List.mem_map.2 ⟨0,List.mem_range.2 (by omega),rfl⟩)))));rw[hn]at this;exact this
theorem taken {α:Type}{l:List α}{d:α}(h:i<l.length):l.take (i+1)=l.take i++[l.getD i d]:=by rw[List.take_add_one];simp[List.getD,h]
theorem KO {x:Pr}:(wF x).length=5:=rfl
theorem takePr {x:Pr}:List.take 5 (wF x)=wF x:=rfl
section
attribute [local go_sem] app_cpM app_gi app_pr oI UC EV wE KO takePr
theorem c_lower (hp:GP p):CB 54 [.agg [.vec p.globals.length (u0 p.globals),.vec p.c4.length (g6 p.c4),.vec p.funcs.length (o8 p.funcs)]] h (.tup [.agg (encUn (eF p)),.int .i64 0,.int .i64 0,.int .i64 0]):=by
  refine .bz Tryz.f54 112 ?_;have hdl:=rD (p:=p);have hgl:=hp.gl;have hml:=hp.ml;have hfl:=hp.fl;have hmain:=KN hp;have hz0:(p.funcs.getD 0 j7).params.length=0:=by rw[(hp.fn 0 (by omega)).2.1 rfl];rfl
  refine c23z ?_;refine c66z ?_;refine .ca rfl rfl (c_valid hp) ?_;refine .n ?_;refine c20z ?_;refine c66z ?_;refine .ca rfl rfl (c_decl hp) ?_;refine c27z ?_;refine .c7 [1,2,6,7] ?_;refine c6z ?_;refine .sk ?_;refine c66z ?_;refine .ca rfl rfl (V0 hmain (by omega)) ?_;refine c27z ?_;refine .s ?_;refine .k 8 [(2,37)] ?_;refine .k 8 [(7,42)] ?_;refine .m [(7,42)] ?_;refine uFbz ?_;intro e1 qe1;refine .sk ?_;refine .c7 [1,2,6,8,30] ?_;refine .sg z8 (mkH 9 [0,1,0,0,8,28,63,0,255] [2,5,7,8] [(2,0),(7,1)] [0,4,36,128,132,164,420] [0,1,2,3,4,5,6]) 2 ?_;refine c36z ?_;refine .em [true] [4,0] [_] ?_;refine .p 1 ?_;refine .rm [true,true] ?_;refine .em [true,false] [36,4,0] [_] ?_;refine .p 1 ?_;refine .en [true,true,true] [164,132,128,36,4,0] [_,_,_] ?_;refine .en [true,false,false,false,false,false] [420,164,132,128,36,4,0] [_] ?_;refine .po [false,false,true,false,false,true,false] ?_;refine .po [false,false,true,true,false,true,true] ?_;refine .po [false,false,false,true,false,false,true] ?_;refine .po [false,true,true,true,true,true,true] ?_;refine aB.nil rfl ?_;refine .seq ?_;refine .c7 [1,2,6,10,30] ?_;refine c15z ?_;refine c9.oV (β:=h.length+4) (k:=0) t36 rfl ?_;simp only[List.append_assoc,List.cons_append,List.nil_append,v9,s3,List.set_cons_succ,List.set_cons_zero,List.length_append,List.length_cons,List.length_nil,Nat.reduceAdd,Nat.zero_add];refine .aN (fun m st=>∃(i:Nat),(m=p.globals.length-i∧i≤p.globals.length)∧st=⟨mkS 112 [(1,AV.ptr h.length 0 0),(2,AV.ptr (h.length+1) 0 0),(6,AV.vec (bL p).length (j8 (bL p))),(10,AV.ptr (h.length+4) 1 0),(11,AV.int .i64 ((i:Nat):Int))],h++[⟨0,false,27,3,[.vec p.globals.length (u0 p.globals),.vec p.c4.length (g6 p.c4),.vec p.funcs.length (o8 p.funcs)],0⟩,⟨0,false,30,4,[.j4,.j4,.j4,.int .i64 0],0⟩,⟨0,false,145,3,[.str ⟨#[109,97,105,110]⟩,.int .i64 3,.int .i64 0],0⟩,⟨2,false,66,3,g6 p.c4,0⟩,⟨1,false,30,4,[.own (h.length+5) i 0 i,.own (h.length+3) 2 0 p.c4.length,.j4,.int .i64 0],0⟩,s8 3 1 i (g8 ((eF p).globals.take i))]⟩) (.v ⟨0,⟨rfl,by omega⟩,rfl⟩) ?_;rintro m sl h' ⟨i,⟨hm,hi⟩,hst⟩;obtain ⟨rfl,rfl⟩:=St.mk.inj hst;clear hst;have htl:((eF p).globals.take i).length=i:=by simp[eF];omega
  refine c1z ?_;refine u2z ?_ ?_
  ·intro e2 qe2;refine c3z ?_;refine .og z8 (mkH 12 [0,1,0,4,0,28,60,124,252,511,1023,2047] [8,9,11] [] [0,256,768,2816] [0,1]) 0 ?_;refine c36z ?_;refine .p 1 ?_;refine c111z ?_;refine .rn [true] ?_;refine .en [true] [256,0] [_] ?_;refine .en [true,false] [768,256,0] [_] ?_;refine .p 1 ?_;refine .en [true,false,false] [2816,768,256,0] [_] ?_;refine c165z ?_;refine .c7 [1,2,6,10,11] ?_;refine .rz ?_;exact ⟨_,by omega,.v ⟨(i+1),⟨rfl,by omega⟩,rfl⟩ (he:=by (rw[taken (d:=0) (l:=(eF p).globals) (by simp[eF];omega),show (eF p).globals.getD i 0=(p.globals.getD i mU).init from getD_map (by omega)];simp only[List.append_assoc,List.cons_append,List.nil_append];rfl)) (hk:=by exact (aI.refl _).app rfl ⟨.inl rfl,.inl rfl,.inl rfl,.inl rfl,.inr (iW.get ⟨.own _ _ _ _ (by simp),.own _ _ _ _ (by simp),.j4,.int _ _,trivial⟩),.inr (by rw[o9];exact (yJ _).refs _),trivial⟩)⟩
  intro e2 qe2;refine .exit ?_;obtain rfl:i=p.globals.length:=by omega
  change c9 ..;refine c7z ?_;refine c9.oV (β:=h.length+4) (k:=2) t36 rfl ?_;simp only[List.append_assoc,List.cons_append,List.nil_append,v9,s3,List.set_cons_succ,List.set_cons_zero,List.length_append,List.length_cons,List.length_nil,Nat.reduceAdd,Nat.zero_add];refine .aN (fun m st=>∃(i:Nat),(m=p.funcs.length-i∧i≤p.funcs.length)∧st=⟨mkS 112 [(1,AV.ptr h.length 0 0),(2,AV.ptr (h.length+1) 0 0),(6,AV.vec (bL p).length (j8 (bL p))),(10,AV.ptr (h.length+4) 1 0),(12,AV.int .i64 ((i:Nat):Int))],h++[⟨0,false,27,3,[.vec p.globals.length (u0 p.globals),.vec p.c4.length (g6 p.c4),.vec p.funcs.length (o8 p.funcs)],0⟩,⟨0,false,30,4,[.j4,.j4,.j4,.int .i64 0],0⟩,⟨0,false,145,3,[.str ⟨#[109,97,105,110]⟩,.int .i64 3,.int .i64 0],0⟩,⟨2,false,66,3,g6 p.c4,0⟩,⟨1,false,30,4,[.own (h.length+5) p.globals.length 0 p.globals.length,.own (h.length+3) 2 0 p.c4.length,.own (h.length+6) i 0 i,.int .i64 0],0⟩,s8 3 1 p.globals.length (g8 ((eF p).globals.take p.globals.length)),s8 57 5 i (l4 ((eF p).procs.take i))]⟩) (.v ⟨0,⟨rfl,by omega⟩,rfl⟩) ?_;rintro m sl h' ⟨i,⟨hm,hi⟩,hst⟩;obtain ⟨rfl,rfl⟩:=St.mk.inj hst;clear hst;have htl:((eF p).procs.take i).length=i:=by simp[eF];omega
  refine c1z ?_;refine u2z ?_ ?_
  ·intro e3 qe3;refine c3z ?_;refine .sg z8 (mkH 18 [0,0,0,4,0,28,60,127,255,511,511,511,511,0,9215,26623,61439,131071] [13,14] [] [0,8192,24576] [0,1,2,3,4,5,6,7,8,9,10,11,12]) 0 ?_;refine .rm [true] ?_;refine .p 2 ?_;refine .rm [true] ?_;refine .p 2 ?_;refine .rm [true] ?_;refine .cl rfl rfl (fun _=>c_func hp (by omega)) ?_;refine .p 5 ?_;refine .en [true] [8192,0] [_] ?_;refine .en [true,false] [24576,8192,0] [_] ?_;refine .p 3 ?_;refine c32z ?_;refine c200z ?_;refine .seq ?_;refine .c7 [1,2,6,10,12,13,15,16] ?_;refine c6z ?_;refine .sk ?_;refine c2z ?_;refine .c7 [1,2,6,10,12] ?_;refine .rz ?_;exact ⟨_,by omega,.v ⟨(i+1),⟨rfl,by omega⟩,rfl⟩ (he:=by (rw[taken (d:=qS) (l:=(eF p).procs) (by simp[eF];omega),show (eF p).procs.getD i qS=oW p (p.funcs.getD i j7) from getD_map (by omega)];simp only[List.append_assoc,List.cons_append,List.nil_append];rfl)) (hk:=by exact (aI.refl _).app rfl ⟨.inl rfl,.inl rfl,.inl rfl,.inl rfl,.inr (iW.get ⟨.own _ _ _ _ (by simp),.own _ _ _ _ (by simp),.own _ _ _ _ (by simp),.int _ _,trivial⟩),.inl rfl,.inr (by rw[o9];exact (plnPr _).refs _),trivial⟩)⟩
  intro e3 qe3;refine .exit ?_;obtain rfl:i=p.funcs.length:=by omega
  have hgt:(eF p).globals.take p.globals.length=(eF p).globals:=List.take_of_length_le (by simp[eF]);have hpt:(eF p).procs.take p.funcs.length=(eF p).procs:=List.take_of_length_le (by simp[eF]);rw[hgt,hpt];have hgl2:(eF p).globals.length=p.globals.length:=by simp[eF]
  have hpl2:(eF p).procs.length=p.funcs.length:=by simp[eF]
  refine c9.qQ (γ:=h.length+5) (β:=h.length+4) (k:=0) (len:=p.globals.length) t36 (by rw[l8,hgl2,Nat.mul_one]) (by omega) (yJ _) t36 (by omega) rfl ?_;simp only[List.append_assoc,List.cons_append,List.nil_append,v9,s3,List.set_cons_succ,List.set_cons_zero,List.length_append,List.length_cons,List.length_nil,Nat.reduceAdd,Nat.zero_add];generalize gK 3 1 p.globals.length (g8 (eF p).globals) (p.globals.length*1)=Gb;refine c9.qQ (γ:=h.length+6) (β:=h.length+4) (k:=2) (len:=p.funcs.length) t36 (by rw[u6,hpl2,Nat.mul_comm]) (by omega) (plnPr _) t36 (by omega) rfl ?_;simp only[List.append_assoc,List.cons_append,List.nil_append,v9,s3,List.set_cons_succ,List.set_cons_zero,List.length_append,List.length_cons,List.length_nil,Nat.reduceAdd,Nat.zero_add];generalize gK 57 5 p.funcs.length (l4 (eF p).procs) (p.funcs.length*5)=Pb;refine c9.L2 (γ:=h.length+3) (β:=h.length+4) (k:=1) (off:=0) (len:=p.c4.length) (cs:=g6 p.c4) t36 rfl (by simp only[n6];omega) (by rw[List.drop_zero,List.take_of_length_le (by simp only[n6];omega)];exact (plnMx _).WN) t36 (by omega) rfl ?_;refine c22z ?_;refine .c7 [2,10] ?_;refine .z ?_;exact .ret (.ex (hq:=by (simp only[encUn,hgl2,hpl2];rfl)))
end
end Go.Proofs.YtonbocmibeikmaaGreat
end
section
namespace Go.Proofs.YtonbocmibeikmaaGreat
open Go.Ab Go.Un
variable {a b:List Int}{i:Nat}
theorem ne_at (h:a.getD i 0≠b.getD i 0):¬a=b:=fun e=>h (by rw[e])
theorem eq_all (hl:a.length=b.length)(h:∀d,d<a.length→a.getD d 0=b.getD d 0):a=b:=by refine List.ext_getElem hl fun i h1 h2=>?_;have:=h i h1;simpa [List.getD,h1,h2] using this
theorem all_nx (h:∀d,d<i→a.getD d 0=b.getD d 0)(e:a.getD i 0=b.getD i 0):∀d,d<i+1→a.getD d 0=b.getD d 0:=fun d hd=>by
  by_cases hdi:d=i
  · rw[hdi];exact e
  · exact h d (by omega)
variable {l:List Int}{n:Int}
theorem no_nx (h:∀d,d<i→l.getD d 0≠n)(e:l.getD i 0≠n):∀d,d<i+1→l.getD d 0≠n:=fun d hd=>by
  by_cases hdi:d=i
  · rw[hdi];exact e
  · exact h d (by omega)
theorem no_mem (h:∀d,d<l.length→l.getD d 0≠n):¬n∈l:=fun hm=>by obtain ⟨i,hi,rfl⟩:=cU (d:=(0:Int)) hm;exact h i hi rfl
theorem take_I {k:Nat}:List.take k (g8 l)=g8 (l.take k):=by simp[g8,List.map_take]
theorem dropt_I {k:Nat}:List.take (l.length-k) (List.drop k (g8 l))=g8 (l.drop k):=by rw[g8,←List.map_drop,List.take_of_length_le (by simp)];rfl
theorem gD (h:i<l.length):List.take 1 (List.drop i (g8 l))=[.int .i64 (l.getD i 0)]:=by
  have h2:i<(g8 l).length:=by rw[l8];exact h
  rw[List.drop_eq_getElem_cons h2];simp[g8,List.getD,h]
def gW (g n:Nat):Nat:=if n=0 then g else g+1
def kW (l:List Int)(n:Int):Nat:=(l.takeWhile fun x=>decide (x<n)).length
def lA (l:List Int)(n:Int):List Int:=if n∈l then l else l.take (kW l n)++n::l.drop (kW l n)
theorem kW_at:∀{k:Nat},k≤l.length→(∀d,d<k→l.getD d 0<n)→(k<l.length→¬l.getD k 0<n)→k=kW l n:=by
  induction l with
  | nil=>intro k hk _ _;simp at hk;subst hk;rfl
  | cons x l ih=>
    intro k hk h1 h2;cases k with
    | zero=>
      have:=h2 (by simp);simp only[List.getD_cons_zero]at this;simp[kW,List.takeWhile,this]
    | succ k=>
      have h0:=h1 0 (by omega);simp only[List.getD_cons_zero]at h0;have:=ih (k:=k) (by simpa using hk) (fun d hd=>by have:=h1 (d+1) (by omega);simpa using this) (fun hl=>by have:=h2 (by simpa using hl);simpa using this);rw[kW,List.takeWhile_cons_of_pos (by simpa using h0),List.length_cons,this];rfl
theorem lt_nx (h:∀d,d<i→l.getD d 0<n)(e:l.getD i 0<n):∀d,d<i+1→l.getD d 0<n:=fun d hd=>by
  by_cases hdi:d=i
  · rw[hdi];exact e
  · exact h d (by omega)
variable {h:c6}{g:Nat}
theorem app_w {l:c6}{n m:Nat}(ha:a.length=n)(hb:b.length=m)(hn:n<150000)(hm:m<100000):j9 cfg 3 (h++(⟨g,false,3,1,g8 a,0⟩::l)) (.own h.length g 0 n) (.vec m (g8 b))=some (.own h.length (gW g m) 0 (n+m),h++(⟨gW g m,false,3,1,g8 (a++b),0⟩::l)):=by
  subst ha hb;have e1:cfg.sz 3=1:=rfl;have e2:(cfg.ti 3).bytes=8:=rfl;have h1:a.length+b.length≤maxLen:=by
    have:(300000:Nat)≤maxLen:=by decide
    omega
  have h2:(a.length+b.length)*8≤140737488355328:=by omega
  have ht:List.take a.length (g8 a)=g8 a:=List.take_of_length_le t215;have hs:g8 (a++b)=g8 a++g8 b:=by simp[g8]
  cases b with
  | nil=>
    simp only[List.length_nil,Nat.add_zero]at h1 h2;simp[j9,rd,lenOf,e1,e2,gW,hs,g8,h1,h2]
  | cons x b=>
    simp only[List.length_cons]at h1 h2;have h3:¬a.length+(b.length+1)≤a.length:=by omega
    simp[j9,rd,lenOf,e1,e2,l8,h1,h2,ht,h3,gW,hs,jI,zZ]
theorem app_w0 {l:c6}{m:Nat}(hb:b.length=m)(hm:m<100000):j9 cfg 3 (h++(⟨g,false,3,1,[],0⟩::l)) (.own h.length g 0 0) (.vec m (g8 b))=some (.own h.length (gW g m) 0 m,h++(⟨gW g m,false,3,1,g8 b,0⟩::l)):=by have:=app_w (h:=h) (l:=l) (a:=[]) (b:=b) (g:=g) (n:=0) rfl hb (by omega) hm;rw[Nat.zero_add]at this;exact this
theorem app_w1 {l:c6}{x:Int}{n:Nat}(ha:a.length=n)(hn:n<100000):j9 cfg 3 (h++(⟨g,false,3,1,g8 a,0⟩::⟨1,false,3,1,[.int .i64 x],0⟩::l)) (.own h.length g 0 n) (.own (h.length+1) 1 0 1)=some (.own h.length (g+1) 0 (n+1),h++(⟨g+1,false,3,1,g8 (a++[x]),0⟩::⟨1,false,3,1,[.int .i64 x],0⟩::l)):=by
  subst ha;have e1:cfg.sz 3=1:=rfl;have e2:(cfg.ti 3).bytes=8:=rfl;have h1:a.length+1≤maxLen:=by
    have:(200000:Nat)≤maxLen:=by decide
    omega
  have h2:(a.length+1)*8≤140737488355328:=by omega
  have ht:List.take a.length (g8 a)=g8 a:=List.take_of_length_le t215;have hs:g8 (a++[x])=g8 a++[.int .i64 x]:=rA;have h3:¬a.length+1≤a.length:=by omega
  simp[j9,rd,lenOf,e1,e2,l8,h1,h2,ht,h3,hs,v9,jI,zZ]
theorem frz_I {n d:Nat}{H:c6}:o6 (iT n H (d+1)) (g8 l)=some (g8 l):=(yJ l).frz _ _ _
theorem O5 {n β len:Nat}{H:c6}(hb:H[β]?=some ⟨g,false,3,1,g8 a,0⟩)(hn:n≤β)(hl:a.length=len):jQ n H 6 (.own β g 0 len)=some (.vec len (g8 a)):=by subst hl;rw[dW,if_neg (by omega),eN,hb];simp only[hn,and_self,if_true,Bool.false_eq_true,if_false,Nat.zero_add,Nat.mul_one,l8,Nat.le_refl,List.drop_zero];rw[List.take_of_length_le t215,frz_I]
def fI:List aO→aO→Int
  | [],_ => -1
  | a::l,x=>if a=x then 0 else if fI l x<0 then -1 else fI l x+1
theorem fI_at:∀{l:List aO} {x:aO} {i:Nat},i<l.length→(∀d,d<i→l.getD d n8≠x)→l.getD i n8=x→fI l x=i
  | [],x,i,h,_,_=>by simp at h
  | a::l,x,0,_,_,h=>by simp only[List.getD_cons_zero]at h;rw[fI,if_pos h];rfl
  | a::l,x,i+1,hi,h1,h2=>by have h0:=h1 0 (by omega);simp only[List.getD_cons_zero]at h0;have ih:=fI_at (l:=l) (x:=x) (i:=i) (by simpa using hi) (fun d hd=>by have:=h1 (d+1) (by omega);simpa using this) (by simpa using h2);rw[fI,if_neg h0,ih,if_neg (by omega)];omega
theorem Dp:∀{l:List aO} {x:aO},(∀d,d<l.length→l.getD d n8≠x)→fI l x = -1
  | [],x,_=>rfl
  | a::l,x,h=>by have h0:=h 0 (by simp);simp only[List.getD_cons_zero]at h0;have ih:=Dp (l:=l) (x:=x) (fun d hd=>by have:=h (d+1) (by simpa using hd);simpa using this);rw[fI,if_neg h0,ih,if_pos (by omega)]
theorem BP:∀{l:List aO} {x:aO},x∈l→0≤fI l x∧fI l x<l.length∧l.getD (fI l x).toNat n8=x
  | [],x,h=>by simp at h
  | a::l,x,h=>by
    by_cases hx:a=x
    · rw[fI,if_pos hx];simp[hx]
    · have ih:=BP (l:=l) (x:=x) (by simpa [Ne.symm hx] using h)
      rw[fI,if_neg hx,if_neg (by omega)];refine ⟨by omega,t65,?_⟩;rw[show (fI l x+1).toNat=(fI l x).toNat+1 from by omega];simpa using ih.2.2
variable {x:aO}
theorem fI_not {l:List aO}(h:x∉l):fI l x = -1:=Dp fun d hd e=>h (e▸j0 hd)
theorem it_ne {l:List aO}(h:∀d,d<i→l.getD d n8≠x)(e:l.getD i n8≠x):∀d,d<i+1→l.getD d n8≠x:=fun d hd=>by
  by_cases hdi:d=i
  · rw[hdi];exact e
  · exact h d (by omega)
theorem it_ne1 {l:List aO}(h:¬(l.getD i n8).proc=x.proc):l.getD i n8≠x:=fun e=>h (by rw[e])
theorem it_ne2 {l:List aO}(h:¬(l.getD i n8).j5=x.j5):l.getD i n8≠x:=fun e=>h (by rw[e])
theorem oK {l:List aO}(h:i<l.length):List.take 1 (List.drop (i*2) (l7 l))=[.int .i64 (l.getD i n8).proc]:=ES EB 2 0 (fun _=>rfl) (by omega) n8 h
theorem BQ {l:List aO}(h:i<l.length):List.take 1 (List.drop (i*2+1) (l7 l))=[.vec (l.getD i n8).j5.length (g8 (l.getD i n8).j5)]:=ES EB 2 1 (fun _=>rfl) (by omega) n8 h
theorem oL {l:List aO}(h:i<l.length):List.take 2 (List.drop (i*2) (l7 l))=[.int .i64 (l.getD i n8).proc,.vec (l.getD i n8).j5.length (g8 (l.getD i n8).j5)]:=HV h
variable {u:Un}{it:aO}
theorem aD (h:it.proc.toNat<u.procs.length):List.take 1 (List.drop (it.proc.toNat*5+4) (l4 u.procs))=[.vec (c8 u it).length (s5 (c8 u it))]:=ES wF 5 4 (fun _=>rfl) (by omega) qS h
theorem cJ {l:List Ins}(h:i<l.length):List.take 1 (List.drop (i*12) (s5 l))=[.int .i64 (l.getD i g0).op]:=by rw[show i*12=i*12+0 from rfl,s5,ES fT 12 0 bN (by omega) g0 h,mM];rfl
theorem UE {l:List Ins}(h:i<l.length):List.take 1 (List.drop (i*12+1) (s5 l))=[.int .i64 (l.getD i g0).target]:=by rw[s5,ES fT 12 1 bN (by omega) g0 h,mM];rfl
theorem UF {l:List Ins}(h:i<l.length):List.take 1 (List.drop (i*12+11) (s5 l))=[.vec (l.getD i g0).aY.length (eS (l.getD i g0).aY)]:=by rw[s5,ES fT 12 11 bN (by omega) g0 h,mM];rfl
theorem UG {l:List Pl}(h:i<l.length):List.take 3 (List.drop (i*3) (eS l))=[.bool (l.getD i cS).param,.int .i64 (l.getD i cS).index,.vec (l.getD i cS).at'.length (o2 (l.getD i cS).at')]:=read_pl h
theorem app_lk {b0 b1 b2 b3:Blk}{l:c6}{is:List Int}{x:Int}{n:Nat}(hn:is.length=n)(hl:n<100000):j9 cfg 3 (h++(b0::b1::b2::b3::s8 3 1 g (g8 is)::⟨0,false,3,1,[.int .i64 x],0⟩::l)) (.own (h.length+4) g 0 n) (.own (h.length+5) 0 0 1)=some (.own (h.length+4) (g+1) 0 (n+1),h++(b0::b1::b2::b3::s8 3 1 (g+1) (g8 (is++[x]))::⟨0,false,3,1,[.int .i64 x],0⟩::l)):=by subst hn;rw[aJ (C:=cfg) (K:=1) (m:=1) (new:=[.int .i64 x]) (zs:=g8 is) t36 rfl (by omega) (by rw[l8,Nat.mul_one]) rfl (by omega) t155 rfl (by decide) (by omega),←rA,s3];rfl
attribute [local go_sem] rd v7 o7 cB dQ p7 bN iA eO n6 bX bK l8 cD Int.natCast_nonneg Int.natCast_inj List.length_map wrap64 iF kP kQ AQ M7 T7 AR D0 max2 gM dY cG Nat.reduceMul oG lL jY wY gD app_w app_w0 app_w1 Nat.sub_zero Option.bind_eq_bind take_I dropt_I oK BQ oL aD cJ UE UF UG app_lk r7 u6
theorem XW (a b:List Int)(hl:a.length<1000000):CB 31 [.vec a.length (g8 a),.vec b.length (g8 b)] h (.bool (decide (a=b))):=by
  refine .bz Tryz.f31 26 ?_;refine c108z ?_;refine u2z ?_ ?_
  ·intro e1 qe1;refine c158z ?_;exact ⟨[],_,(List.append_nil _).symm,t42,t60⟩
  intro e1 qe1;refine .sk ?_;refine c7z ?_;refine .aR (fun m st=>∃(i:Nat),(m=a.length-i∧((∀d,d<i→a.getD d 0=b.getD d 0)∧i≤a.length))∧st=⟨mkS 26 [(0,AV.vec a.length (g8 a)),(1,AV.vec b.length (g8 b)),(5,AV.int .i64 ((i:Nat):Int))],h⟩) _ (.v ⟨0,⟨rfl,⟨t78,by omega⟩⟩,rfl⟩) ?_;rintro m sl h' ⟨i,⟨hm,⟨hI,hi⟩⟩,hst⟩;obtain ⟨rfl,rfl⟩:=St.mk.inj hst;refine c1z ?_;refine u2z ?_ ?_
  ·intro e2 qe2;refine c3z ?_;refine .ss z8 (mkP 9 [0,0,3,7,0,0,48,112,255] []) ?_;refine c47z ?_;refine u2z ?_ ?_
   ·intro e3 qe3;refine c158z ?_;exact ⟨[],_,(List.append_nil _).symm,t42,t60⟩
   intro e3 qe3;refine c270z ?_;exact ⟨_,by omega,.v ⟨(i+1),⟨rfl,⟨all_nx hI (by omega),by omega⟩⟩,rfl⟩⟩
  intro e2 qe2;refine c63z ?_;exact ⟨[],_,(List.append_nil _).symm,t42,t60⟩
theorem XX (l:List Int)(n:Int)(hl:l.length<1000000):CB 109 [.vec l.length (g8 l),.int .i64 n] h (.bool (decide (n∈l))):=by
  refine .bz Tryz.f109 18 ?_;refine c16z ?_;refine .aR (fun m st=>∃(i:Nat),(m=l.length-i∧((∀d,d<i→l.getD d 0≠n)∧i≤l.length))∧st=⟨mkS 18 [(0,AV.vec l.length (g8 l)),(1,AV.int .i64 n),(5,AV.int .i64 ((i:Nat):Int))],h⟩) _ (.v ⟨0,⟨rfl,⟨t78,by omega⟩⟩,rfl⟩) ?_;rintro m sl h' ⟨i,⟨hm,⟨hI,hi⟩⟩,hst⟩;obtain ⟨rfl,rfl⟩:=St.mk.inj hst;refine c1z ?_;refine u2z ?_ ?_
  ·intro e1 qe1;refine c131z ?_;refine u2z ?_ ?_
   ·intro e2 qe2;refine c158z ?_;exact ⟨[],_,(List.append_nil _).symm,t42,t114⟩
   intro e2 qe2;refine c270z ?_;exact ⟨_,by omega,.v ⟨(i+1),⟨rfl,⟨no_nx hI (by omega),by omega⟩⟩,rfl⟩⟩
  intro e1 qe1;refine c63z ?_;exact ⟨[],_,(List.append_nil _).symm,t42,t114⟩
theorem c_hasY (hm:n∈l)(hl:l.length<1000000):CB 109 [.vec l.length (g8 l),.int .i64 n] h (.bool true):=by have:=XX (h:=h) l n hl;rw[decide_eq_true hm]at this;exact this
theorem c_hasN (hm:n∉l)(hl:l.length<1000000):CB 109 [.vec l.length (g8 l),.int .i64 n] h (.bool false):=by have:=XX (h:=h) l n hl;rw[decide_eq_false hm]at this;exact this
theorem c_withY (l:List Int)(n:Int)(hl:l.length<100000)(hmem:n∈l):CB 69 [.vec l.length (g8 l),.int .i64 n] h (.vec (lA l n).length (g8 (lA l n))):=by refine .bz Tryz.f69 36 ?_;refine c23z ?_;refine c17z ?_;refine .ca rfl rfl (c_hasY hmem (by omega)) ?_;refine .nil ?_;refine .T ?_;refine .z ?_;exact .ret (.ex (hq:=by (rw[lA,if_pos hmem])))
theorem c_withN (l:List Int)(n:Int)(hl:l.length<100000)(hmem:n∉l):CB 69 [.vec l.length (g8 l),.int .i64 n] h (.vec (lA l n).length (g8 (lA l n))):=by
  refine .bz Tryz.f69 36 ?_;refine c23z ?_;refine c17z ?_;refine .ca rfl rfl (c_hasN hmem (by omega)) ?_;refine .nil ?_;refine c152z ?_;refine .sb ?_;refine .aR (fun m st=>∃(i:Nat),(m=l.length-i∧((∀d,d<i→l.getD d 0<n)∧i≤l.length))∧st=⟨mkS 36 [(0,AV.vec l.length (g8 l)),(1,AV.int .i64 n),(5,AV.int .i64 ((i:Nat):Int))],h⟩) _ (.v ⟨0,⟨rfl,⟨t78,by omega⟩⟩,rfl⟩) ?_;rintro m sl h' ⟨i,⟨hm,⟨hI,hi⟩⟩,hst⟩;obtain ⟨rfl,rfl⟩:=St.mk.inj hst;refine .seq ?_;refine c29z ?_;refine .spl 14 rfl rfl (fun e1=>?_) (fun e1=>?_)
  ·try simp only[e1]
   have qe1:=fact e1;refine .m [(4,14)] ?_;refine u2z ?_ ?_
   ·intro e2 qe2;refine c178z ?_;refine c153z ?_;exact ⟨_,by omega,.v ⟨(i+1),⟨rfl,⟨lt_nx hI (by omega),by omega⟩⟩,rfl⟩⟩
   intro e2 qe2;refine .exit ?_;have hkw:i=kW l n:=kW_at hi hI (by intro _;omega);have hdl:(l.drop i).length=l.length-i:=List.length_drop;have htl:(l.take i).length=i:=by rw[List.length_take];omega
   have hcl:(l.take i++[n]).length=i+1:=by rw[List.length_append,htl];rfl
   change c9 ..;refine .c7 [0,1,5] ?_;refine .sg z8 (mkH 13 [0,0,0,6,15,0,32,127,0,0,768,2047,4095] [0,4,6,7,11] [(0,0),(6,1)] [0,1,17,64,65,81,209,2257] [0,1,2,3,4]) 2 ?_;refine .em [true] [1,0] [_] ?_;refine .p 3 ?_;refine .em [true,false] [17,1,0] [_] ?_;refine .p 1 ?_;refine .en [true,true,true] [81,65,64,17,1,0] [_,_,_] ?_;refine .en [true,false,false,false,false,false] [209,81,65,64,17,1,0] [_] ?_;refine .p 3 ?_;refine .en [true,false,false,false,false,false,false] [2257,209,81,65,64,17,1,0] [_] ?_;refine .p 1 ?_;refine c106z ?_;refine aB.nil rfl ?_;refine c4z ?_;exact ⟨_,_,rfl,O5 t156 (Nat.le_refl _) t121,t171⟩
  try simp only[e1]
  have qe1:=fact e1;refine .m [(4,14)] ?_;refine .F ?_;refine .exit ?_;have hkw:i=kW l n:=kW_at hi hI (by intro _;omega);have hdl:(l.drop i).length=l.length-i:=List.length_drop;have htl:(l.take i).length=i:=by rw[List.length_take];omega
  have hcl:(l.take i++[n]).length=i+1:=by rw[List.length_append,htl];rfl
  change c9 ..;refine .c7 [0,1,5] ?_;refine .sg z8 (mkH 13 [0,0,0,6,15,0,32,127,0,0,768,2047,4095] [0,4,6,7,11] [(0,0),(6,1)] [0,1,17,64,65,81,209,2257] [0,1,2,3,4]) 2 ?_;refine .em [true] [1,0] [_] ?_;refine .p 3 ?_;refine .em [true,false] [17,1,0] [_] ?_;refine .p 1 ?_;refine .en [true,true,true] [81,65,64,17,1,0] [_,_,_] ?_;refine .en [true,false,false,false,false,false] [209,81,65,64,17,1,0] [_] ?_;refine .p 3 ?_;refine .en [true,false,false,false,false,false,false] [2257,209,81,65,64,17,1,0] [_] ?_;refine .p 1 ?_;refine c106z ?_;refine aB.nil rfl ?_;refine c4z ?_;exact ⟨_,_,rfl,O5 t156 (Nat.le_refl _) t121,t171⟩
theorem KP (l:List Int)(n:Int)(hl:l.length<100000):CB 69 [.vec l.length (g8 l),.int .i64 n] h (.vec (lA l n).length (g8 (lA l n))):=by
  by_cases hm:n∈l
  · exact c_withY l n hl hm
  · exact c_withN l n hl hm
theorem KQ (it:aO)(p:Pl)(hp:p.param=true→0≤p.index∧p.index.toNat<it.j5.length):CB 135 [.agg [.int .i64 it.proc,.vec it.j5.length (g8 it.j5)],.agg [.bool p.param,.int .i64 p.index,.vec p.at'.length (o2 p.at')]] h (.int .i64 (yX it p)):=by
  refine .bz Tryz.f135 15 ?_;refine c108z ?_;refine u2z ?_ ?_
  ·intro e1 qe1;have hpp:=hp (by assumption);refine .z ?_;exact .ret (.ex (hq:=by (unfold yX;simp_all)))
  intro e1 qe1;refine .sk ?_;refine .z ?_;exact .ret (.ex (hq:=by (unfold yX;simp_all)))
theorem q9 (hu:WU u)(w:WIt u it):(c8 u it).length≤1664:=by have:=(wL hu (l:=[it]) (by simp) (by simpa using w)).2;simpa using this
variable {pc:Nat}
theorem KR (hu:WU u)(w:WIt u it)(hpc:pc<(c8 u it).length)(hc:jZ ((c8 u it).getD pc g0)):∀p∈((c8 u it).getD pc g0).aY,p.param=true→0≤p.index∧p.index.toNat<it.j5.length:=by
  obtain ⟨_,_,_,hh⟩:=(dU hu w).2.2 pc hpc;intro p hp hpar;obtain ⟨h0,⟨_,h2⟩ | ⟨h1,_⟩⟩:=(hh hc).2.2 p hp
  · refine ⟨h0,?_⟩
    rw[w.len];simp only at h2;omega
  · rw[hpar]at h1;cases h1
theorem EW (hu:WU u)(w:WIt u it)(hpc:pc<(c8 u it).length)(hc:jZ ((c8 u it).getD pc g0)):((c8 u it).getD pc g0).aY.length≤2:=by have h1:=yY hu w hpc hc;have h2:=h1.len;have h3:=hu.j5 (eZ u it pc).proc.toNat (by have:=h1.lo;have:=h1.hi;omega);simp only[eZ,List.length_map]at h2 h3;omega
theorem KS (hu:WU u)(w:WIt u it)(hpc:pc<(c8 u it).length)(hc:¬jZ ((c8 u it).getD pc g0)):CB 91 [.agg [.vec u.globals.length (g8 u.globals),.vec u.c4.length (g6 u.c4),.vec u.procs.length (l4 u.procs),.int .i64 u.main],.agg [.int .i64 it.proc,.vec it.j5.length (g8 it.j5)],.int .i64 ((pc:Nat):Int)] h (.tup [.agg [.int .i64 0,.vec 0 []],.bool false]):=by
  refine .bz Tryz.f91 75 ?_;have w1:=w.lo;have w2:=w.hi;have hsz:(c8 u it).length≤1664:=q9 hu w;refine c239z ?_;refine .c7 [2,4,6,8] ?_;refine c12z ?_;refine .spl 20 rfl rfl (fun e1=>by exfalso;have q:=fact e1;omega) (fun e1=>?_);try simp only[e1]
  have qe1:=fact e1;refine .k 6 [(2,20)] ?_;refine .spl 26 rfl rfl (fun e2=>by exfalso;have q:=fact e2;omega) (fun e2=>?_);try simp only[e2]
  have qe2:=fact e2;refine .k 7 [(8,26)] ?_;refine .spl 33 rfl rfl (fun e3=>?_) (fun e3=>by exfalso;have q:=fact e3;exact hc (.inl (by omega)));try simp only[e3]
  have qe3:=fact e3;refine .m [(8,26),(15,33)] ?_;refine .spl 41 rfl rfl (fun e4=>?_) (fun e4=>by exfalso;have q:=fact e4;exact hc (.inr (by omega)));try simp only[e4]
  have qe4:=fact e4;refine .T ?_;refine .c7 [6] ?_;refine .z ?_;exact .ret (.ex (hq:=by rfl))
theorem KT (hu:WU u)(w:WIt u it)(hpc:pc<(c8 u it).length)(hc:jZ ((c8 u it).getD pc g0)):CB 91 [.agg [.vec u.globals.length (g8 u.globals),.vec u.c4.length (g6 u.c4),.vec u.procs.length (l4 u.procs),.int .i64 u.main],.agg [.int .i64 it.proc,.vec it.j5.length (g8 it.j5)],.int .i64 ((pc:Nat):Int)] h (.tup [.agg [.int .i64 (eZ u it pc).proc,.vec (eZ u it pc).j5.length (g8 (eZ u it pc).j5)],.bool true]):=by
  refine .bz Tryz.f91 75 ?_;have w1:=w.lo;have w2:=w.hi;have hsz:(c8 u it).length≤1664:=q9 hu w;have hpl:=KR hu w hpc hc;have hpn:=EW hu w hpc hc;refine c239z ?_;refine .c7 [2,4,6,8] ?_;refine c12z ?_;refine .spl 20 rfl rfl (fun e1=>by exfalso;have q:=fact e1;omega) (fun e1=>?_);try simp only[e1]
  have qe1:=fact e1;refine .k 6 [(2,20)] ?_;refine .spl 26 rfl rfl (fun e2=>by exfalso;have q:=fact e2;omega) (fun e2=>?_);try simp only[e2]
  have qe2:=fact e2;refine .k 7 [(8,26)] ?_;refine .spl 33 rfl rfl (fun e3=>?_) (fun e3=>?_)
  ·try simp only[e3]
   have qe3:=fact e3;refine .m [(8,26),(15,33)] ?_;refine .spl 41 rfl rfl (fun e4=>by exfalso;have q:=fact e4;rcases hc with hc | hc<;>omega) (fun e4=>?_);try simp only[e4]
   have qe4:=fact e4;refine c20z ?_;refine .c7 [2,4,6,8] ?_;refine c16z ?_;refine c9.oV (β:=h.length+3) (k:=1) t36 rfl ?_;simp only[List.append_assoc,List.cons_append,List.nil_append,v9,s3,List.set_cons_succ,List.set_cons_zero,List.length_append,List.length_cons,List.length_nil,Nat.reduceAdd,Nat.zero_add];refine .aN (fun m st=>∃(q:Nat),(m=((c8 u it).getD pc g0).aY.length-q∧q≤((c8 u it).getD pc g0).aY.length)∧st=⟨mkS 75 [(2,AV.int .i64 ((pc:Nat):Int)),(4,AV.ptr (h.length+1) 0 0),(6,AV.ptr (h.length+2) 0 0),(8,AV.vec (c8 u it).length (s5 (c8 u it))),(9,AV.ptr (h.length+3) 0 0),(10,AV.int .i64 ((q:Nat):Int))],h++[⟨0,false,30,4,[.vec u.globals.length (g8 u.globals),.vec u.c4.length (g6 u.c4),.vec u.procs.length (l4 u.procs),.int .i64 u.main],0⟩,⟨0,false,46,2,[.int .i64 it.proc,.vec it.j5.length (g8 it.j5)],0⟩,⟨0,false,46,2,[.int .i64 0,.j4],0⟩,⟨0,false,46,2,[.int .i64 ((c8 u it).getD pc g0).target,.own (h.length+4) q 0 q],0⟩,s8 3 1 q (g8 ((((c8 u it).getD pc g0).aY.take q).map (yX it)))]⟩) (.v ⟨0,⟨rfl,by omega⟩,rfl⟩) ?_;rintro m sl h' ⟨q,⟨hm,hq⟩,hst⟩;obtain ⟨rfl,rfl⟩:=St.mk.inj hst;clear hst;have htl:((((c8 u it).getD pc g0).aY.take q).map (yX it)).length=q:=by rw[List.length_map,List.length_take];omega
   refine c1z ?_;refine u2z ?_ ?_
   ·intro e5 qe5;refine c3z ?_;refine .c7 [2,4,6,8,9,10] ?_;refine .og z8 (mkH 16 [0,1,0,0,0,24,56,120,0,504,1016,2044,4092,8191,16383,32767] [12,13,15] [] [0,4096,12288,45056] [0,1]) 0 ?_;refine c36z ?_;refine c221z ?_;refine c188z ?_;refine .rn [true] ?_;refine .cl rfl rfl (fun _=>KQ it (((c8 u it).getD pc g0).aY.getD q cS) (hpl _ (j0 (d:=cS) (i:=q) (by omega)))) ?_;refine .en [true] [4096,0] [_] ?_;refine .en [true,false] [12288,4096,0] [_] ?_;refine .p 1 ?_;refine .en [true,false,false] [45056,12288,4096,0] [_] ?_;refine c165z ?_;refine .c7 [2,4,6,8,9,10] ?_;refine .rz ?_;exact ⟨_,by omega,.v ⟨(q+1),⟨rfl,by omega⟩,rfl⟩ (he:=t138) (hk:=t123)⟩
   intro e5 qe5;refine .exit ?_;obtain rfl:q=((c8 u it).getD pc g0).aY.length:=by omega
   rw[List.take_length]at htl ⊢;refine c9.qQ (γ:=h.length+4) (β:=h.length+3) (k:=1) (len:=((c8 u it).getD pc g0).aY.length) t36 (by rw[l8,htl,Nat.mul_one]) (by omega) (yJ _) t36 (by omega) rfl ?_;refine c22z ?_;refine c257z ?_;exact .ret (.ex (hq:=by (simp only[eZ,List.length_map])))
  try simp only[e3]
  have qe3:=fact e3;refine .m [(8,26),(15,33)] ?_;refine c20z ?_;refine .c7 [2,4,6,8] ?_;refine c16z ?_;refine c9.oV (β:=h.length+3) (k:=1) t36 rfl ?_;simp only[List.append_assoc,List.cons_append,List.nil_append,v9,s3,List.set_cons_succ,List.set_cons_zero,List.length_append,List.length_cons,List.length_nil,Nat.reduceAdd,Nat.zero_add];refine .aN (fun m st=>∃(q:Nat),(m=((c8 u it).getD pc g0).aY.length-q∧q≤((c8 u it).getD pc g0).aY.length)∧st=⟨mkS 75 [(2,AV.int .i64 ((pc:Nat):Int)),(4,AV.ptr (h.length+1) 0 0),(6,AV.ptr (h.length+2) 0 0),(8,AV.vec (c8 u it).length (s5 (c8 u it))),(9,AV.ptr (h.length+3) 0 0),(10,AV.int .i64 ((q:Nat):Int))],h++[⟨0,false,30,4,[.vec u.globals.length (g8 u.globals),.vec u.c4.length (g6 u.c4),.vec u.procs.length (l4 u.procs),.int .i64 u.main],0⟩,⟨0,false,46,2,[.int .i64 it.proc,.vec it.j5.length (g8 it.j5)],0⟩,⟨0,false,46,2,[.int .i64 0,.j4],0⟩,⟨0,false,46,2,[.int .i64 ((c8 u it).getD pc g0).target,.own (h.length+4) q 0 q],0⟩,s8 3 1 q (g8 ((((c8 u it).getD pc g0).aY.take q).map (yX it)))]⟩) (.v ⟨0,⟨rfl,by omega⟩,rfl⟩) ?_;rintro m sl h' ⟨q,⟨hm,hq⟩,hst⟩;obtain ⟨rfl,rfl⟩:=St.mk.inj hst;clear hst;have htl:((((c8 u it).getD pc g0).aY.take q).map (yX it)).length=q:=by rw[List.length_map,List.length_take];omega
  refine c1z ?_;refine u2z ?_ ?_
  ·intro e6 qe6;refine c3z ?_;refine .c7 [2,4,6,8,9,10] ?_;refine .og z8 (mkH 16 [0,1,0,0,0,24,56,120,0,504,1016,2044,4092,8191,16383,32767] [12,13,15] [] [0,4096,12288,45056] [0,1]) 0 ?_;refine c36z ?_;refine c221z ?_;refine c188z ?_;refine .rn [true] ?_;refine .cl rfl rfl (fun _=>KQ it (((c8 u it).getD pc g0).aY.getD q cS) (hpl _ (j0 (d:=cS) (i:=q) (by omega)))) ?_;refine .en [true] [4096,0] [_] ?_;refine .en [true,false] [12288,4096,0] [_] ?_;refine .p 1 ?_;refine .en [true,false,false] [45056,12288,4096,0] [_] ?_;refine c165z ?_;refine .c7 [2,4,6,8,9,10] ?_;refine .rz ?_;exact ⟨_,by omega,.v ⟨(q+1),⟨rfl,by omega⟩,rfl⟩ (he:=t138) (hk:=t123)⟩
  intro e6 qe6;refine .exit ?_;obtain rfl:q=((c8 u it).getD pc g0).aY.length:=by omega
  rw[List.take_length]at htl ⊢;refine c9.qQ (γ:=h.length+4) (β:=h.length+3) (k:=1) (len:=((c8 u it).getD pc g0).aY.length) t36 (by rw[l8,htl,Nat.mul_one]) (by omega) (yJ _) t36 (by omega) rfl ?_;refine c22z ?_;refine c257z ?_;exact .ret (.ex (hq:=by (simp only[eZ,List.length_map])))
theorem c_findI (l:List aO)(x:aO){n2 n3:Nat}{z2 z3:List AV}(hl:l.length<1000000)(hk:∀y∈l,y.j5.length<1000000):CB 92 [.agg [.vec l.length (l7 l),.vec n2 z2,.vec n3 z3],.agg [.int .i64 x.proc,.vec x.j5.length (g8 x.j5)]] h (.int .i64 (fI l x)):=by
  refine .bz Tryz.f92 34 ?_;refine c16z ?_;refine .aR (fun m st=>∃(i:Nat),(m=l.length-i∧((∀d,d<i→l.getD d n8≠x)∧i≤l.length))∧st=⟨mkS 34 [(2,AV.ptr h.length 0 0),(3,AV.ptr (h.length+1) 0 0),(5,AV.int .i64 ((i:Nat):Int))],h++[⟨0,false,34,3,[.vec l.length (l7 l),.vec n2 z2,.vec n3 z3],0⟩,⟨0,false,46,2,[.int .i64 x.proc,.vec x.j5.length (g8 x.j5)],0⟩]⟩) _ (.v ⟨0,⟨rfl,⟨t78,by omega⟩⟩,rfl⟩) ?_;rintro m sl h' ⟨i,⟨hm,⟨hI,hi⟩⟩,hst⟩;obtain ⟨rfl,rfl⟩:=St.mk.inj hst;refine c1z ?_;refine u2z ?_ ?_
  ·intro e1 qe1;refine c3z ?_;refine .ss z8 (mkP 20 [0,1,0,7,15,31,0,64,255,511,1023,2047,1023,8191,16383,32767,1023,66559,262143,524287] []) ?_;refine .k 8 [] ?_;refine .k 2 [] ?_;refine .spl 22 rfl rfl (fun e2=>?_) (fun e2=>?_)
   ·try simp only[e2]
    have qe2:=fact e2;refine .k 8 [(9,22)] ?_;refine .ca rfl rfl (XW _ _ (hk _ (j0 (by omega)))) ?_;refine .n [] ?_;refine u2z ?_ ?_
    ·intro e3 qe3;refine .c7 [5] ?_;refine .z ?_;exact .ret (.ex (hq:=t122))
    intro e3 qe3;refine c5z ?_;refine .c7 [2,3,5] ?_;refine .rz ?_;exact ⟨_,by omega,.v ⟨(i+1),⟨rfl,⟨it_ne hI t223,by omega⟩⟩,rfl⟩⟩
   try simp only[e2]
   have qe2:=fact e2;refine .k 8 [(9,22)] ?_;refine .n [(9,22)] ?_;refine c48z ?_;refine .c7 [2,3,5] ?_;refine .rz ?_;exact ⟨_,by omega,.v ⟨(i+1),⟨rfl,⟨it_ne hI t223,by omega⟩⟩,rfl⟩⟩
  intro e1 qe1;refine c8z ?_;refine c10z ?_;exact .ret (.ex (hq:=t122))
end Go.Proofs.YtonbocmibeikmaaGreat
end
section
namespace Go.Proofs.YtonbocmibeikmaaGreat
open Go.Ab Go.Un
theorem o4.cx {P:Program}{C:Cfg}{h:c6}{ops:Array Oper}{o:Oper}{rest:List Oper}{Q:St→Prop}{n d:Nat}{l:List (Nat×AV)}{c:Call}{f:FuncId}{args:List AV}{K:AV→c6→Prop}(ho:o.op=.call c)(ht:aH C (DW C n l) c=some (f,args))(hb:p9 C f=true)
    (hc:CallA P C f args h K) (hk:∀y h',K y h'→o4 P C ops rest ⟨mkS n ((d,y)::l),h'⟩ Q) (hw:B9 ops n l o=some true:=by rfl) (hd:o.dst=some d:=by rfl):o4 P C ops (o::rest) ⟨mkS n l,h⟩ Q:=
  o4.call (uE▸hw) ho (rY▸ht) hb (hc.mono fun y h' hq=>by rw[hd];show o4 P C ops rest ⟨(mkS n l).set d y,h'⟩ Q;rw[cA];exact hk y h' hq)
def rF (u:Un)(L:List aO)(it:aO)(cs:List Int)(n:Nat):Prop:=∀j,j<n→
  (jZ ((c8 u it).getD j g0)→0≤cs.getD j 0∧cs.getD j 0<L.length∧L.getD (cs.getD j 0).toNat n8=eZ u it j)∧(¬jZ ((c8 u it).getD j g0)→cs.getD j 0 = -1)
structure LI (u:Un)(L:List aO):Prop where
  w:∀it∈L,WIt u it
  nd:L.Nodup
  z:0<L.length∧L.getD 0 n8=⟨0,[]⟩
structure RI (L:List aO)(R:List Int):Prop where
  p:1≤R.length
  r:∀x∈R,0≤x∧x<L.length
  s:R.Pairwise (·<·)
def PI (u:Un)(L:List aO)(CS:List (List Int))(i:Nat):Prop:=∀j,j<i→(CS.getD j []).length=(c8 u (L.getD j n8)).length∧rF u L (L.getD j n8) (CS.getD j []) (c8 u (L.getD j n8)).length
def lN (u:Un)(L:List aO)(i:Nat):Nat:=((L.take i).map fun it=>(c8 u it).length).sum
variable {i:Nat}
theorem oM {α:Type}{l m:List α}{d:α}(h:i<l.length):(l++m).getD i d=l.getD i d:=by simp[List.getD,List.getElem?_append_left h]
variable {u:Un}{L M:List aO}{it:aO}{n:Nat}
theorem rF.app {cs:List Int}(h:rF u L it cs n):rF u (L++M) it cs n:=fun j hj=>by obtain ⟨h1,h2⟩:=h j hj;refine ⟨fun hc=>?_,h2⟩;obtain ⟨q1,q2,q3⟩:=h1 hc;exact ⟨q1,by rw[List.length_append];omega,by rw[oM (by omega),q3]⟩
theorem rF.set {cs:List Int}{x:Int}(h:rF u L it cs n)(hn:n<cs.length)(hx:(jZ ((c8 u it).getD n g0)→0≤x∧x<L.length∧L.getD x.toNat n8=eZ u it n)∧(¬jZ ((c8 u it).getD n g0)→x = -1)):rF u L it (cs.set n x) (n+1):=fun j hj=>by
  by_cases hjn:j=n
  · subst hjn
    have:(cs.set j x).getD j 0=x:=by simp[List.getD,hn]
    rw[this];exact hx
  · have:(cs.set n x).getD j 0=cs.getD j 0:=by simp[List.getD,List.getElem?_set_ne (Ne.symm hjn)]
    rw[this];exact h j (by omega)
variable {x:aO}
theorem LI.snoc (h:LI u L)(hx:WIt u x)(hn:x∉L):LI u (L++[x]):=by
  refine ⟨fun it hit=>?_,?_,by simp,?_⟩
  · rcases List.mem_append.1 hit with hit | hit
    · exact h.w it hit
    · replace hit:=s9z hit
      subst hit;exact hx
  · rw[List.nodup_append]
    exact ⟨h.nd,by simp,fun a ha b hb=>by replace hb:=s9z hb;subst hb;exact fun e=>hn (e▸ha)⟩
  · rw[oM h.z.1];exact h.z.2
theorem LI.few (hu:WU u)(h:LI u L):L.length≤64:=(wL hu h.nd h.w).1
theorem LI.sites (hu:WU u)(h:LI u L)(i:Nat):lN u L i≤1664:=by have h1:=(wL hu (l:=L.take i) (h.nd.sublist (List.take_sublist _ _)) (fun it hit=>h.w it (List.mem_of_mem_take hit))).2;exact h1
theorem LI.j5 (hu:WU u)(h:LI u L):∀y∈L,y.j5.length≤2:=fun y hy=>by have w:=h.w y hy;have h1:=w.len;have h3:=hu.j5 y.proc.toNat (by have:=w.lo;have:=w.hi;omega);omega
variable {R:List Int}
theorem RI.app (h:RI L R):RI (L++M) R:=⟨h.p,fun x hx=>by have:=h.r x hx;rw[List.length_append];omega,h.s⟩
variable {l:List Int}
theorem KU {n x:Int}:x∈lA l n↔x∈l∨x=n:=by
  unfold lA;split
  · rename_i h
    constructor
    · exact .inl
    · rintro (h1 | rfl)
      · exact h1
      · exact h
  · rw[List.mem_append,List.mem_cons]
    constructor
    · rintro (h | h | h)
      · exact .inl (List.mem_of_mem_take h)
      · exact .inr h
      · exact .inl (List.mem_of_mem_drop h)
    · rintro (h | h)
      · rw[←List.take_append_drop (kW l n) l,List.mem_append]at h
        rcases h with h | h
        · exact .inl h
        · exact .inr (.inr h)
      · exact .inr (.inl h)
theorem take_kW {n:Int}:l.take (kW l n)=l.takeWhile fun x=>decide (x<n):=by
  conv=>lhs;rw[←List.takeWhile_append_dropWhile (p:=fun x=>decide (x<n)) (l:=l)]
  rw[List.take_append_of_le_length (by simp[kW])];exact List.take_of_length_le (by simp[kW])
theorem drop_kW {n:Int}:l.drop (kW l n)=l.dropWhile fun x=>decide (x<n):=by
  conv=>lhs;rw[←List.takeWhile_append_dropWhile (p:=fun x=>decide (x<n)) (l:=l)]
  rw[List.drop_append_of_le_length (by simp[kW])];rw[List.drop_of_length_le (by simp[kW]),List.nil_append]
theorem tF:∀{l:List Int} {n:Int},l.Pairwise (·<·)→n∉l→(l.takeWhile (fun x=>decide (x<n))++n::l.dropWhile (fun x=>decide (x<n))).Pairwise (·<·)
  | [],n,_,_=>by simp
  | x::l,n,h,hn=>by
    rw[List.pairwise_cons]at h;by_cases hx:x<n
    · have ih:=tF (l:=l) (n:=n) h.2 (fun hm=>hn (List.mem_cons_of_mem _ hm))
      rw[List.takeWhile_cons_of_pos t217,List.dropWhile_cons_of_pos t217,List.cons_append,List.pairwise_cons];refine ⟨fun y hy=>?_,ih⟩;rcases List.mem_append.1 hy with hy | hy
      · exact h.1 y ((List.takeWhile_sublist _).subset hy)
      · rcases List.mem_cons.1 hy with rfl | hy
        · exact hx
        · exact h.1 y ((List.dropWhile_sublist _).subset hy)
    · have hne:n≠x:=fun e=>hn (by rw[e];simp)
      rw[List.takeWhile_cons_of_neg t217,List.dropWhile_cons_of_neg t217,List.nil_append,List.pairwise_cons];refine ⟨fun y hy=>?_,List.pairwise_cons.2 h⟩;rcases List.mem_cons.1 hy with rfl | hy
      · omega
      · have:=h.1 y hy;omega
theorem RI.with (h:RI L R){n:Int}(hn:0≤n∧n<L.length):RI L (lA R n):=by
  refine ⟨?_,fun x hx=>?_,?_⟩
  · unfold lA
    split
    · exact h.p
    · simp only[List.length_append,List.length_cons];omega
  · rcases KU.1 hx with hx | rfl
    · exact h.r x hx
    · exact hn
  · unfold lA
    split
    · exact h.s
    · rename_i hm
      rw[take_kW,drop_kW];exact tF h.s hm
theorem aT:∀{R:List Int} {a b:Int},R.Pairwise (·<·)→(∀x∈R,a≤x∧x<b)→R.length≤(b-a).toNat
  | [],a,b,_,_=>by simp
  | x::R,a,b,h,hr=>by rw[List.pairwise_cons]at h;have h0:=hr x (by simp);have ih:=aT (R:=R) (a:=x+1) (b:=b) h.2 (fun y hy=>⟨by have:=h.1 y hy;omega,(hr y (by simp[hy])).2⟩);simp only[List.length_cons];omega
theorem RI.len (hu:WU u)(hl:LI u L)(h:RI L R):R.length≤64:=by have h1:=aT h.s (a:=0) (b:=(L.length:Int)) h.r;have h2:=hl.few hu;omega
theorem EX (h:i<L.length):lN u L (i+1)=lN u L i+(c8 u (L.getD i n8)).length:=by unfold lN;rw[taken (d:=n8) h];simp
variable {CS:List (List Int)}
theorem PI.step {v:List Int}(h:PI u L CS i)(hc:CS.length=i)(hi:i<L.length)(hv:v.length=(c8 u (L.getD i n8)).length)(hok:rF u (L++M) (L.getD i n8) v (c8 u (L.getD i n8)).length):PI u (L++M) (CS++[v]) (i+1):=fun j hj=>by
  by_cases hji:j=i
  · subst hji
    have e1:(CS++[v]).getD j []=v:=by subst hc;simp[List.getD]
    rw[e1,oM hi];exact ⟨hv,hok⟩
  · have e1:(CS++[v]).getD j []=CS.getD j []:=oM (by omega)
    obtain ⟨h1,h2⟩:=h j (by omega);rw[e1,oM (by omega)];exact ⟨h1,h2.app⟩
theorem V5 {l:List (List Int)}{x:List Int}:n4 (l++[x])=n4 l++[.vec x.length (g8 x)]:=by simp[n4]
theorem V6 {l:List aO}:l7 (l++[x])=l7 l++[.int .i64 x.proc,.vec x.j5.length (g8 x.j5)]:=by simp[l7,EB]
theorem UH (l:List (List Int)):z7 (n4 l):=z7.map fun _=>.vec
theorem UI (l:List aO):z7 (l7 l):=z7.flat fun _=>z7.cons .int (z7.cons .vec .nil)
variable {h:c6}{g:Nat}
theorem app_its {b0 b1 b3 b4 b5 b6 b7:Blk}{l:c6}(hz:L.length=n)(hn:n<1000):j9 cfg 46 (h++(b0::b1::⟨g,false,46,2,l7 L,0⟩::b3::b4::b5::b6::b7::⟨0,false,46,2,[.int .i64 x.proc,.vec x.j5.length (g8 x.j5)],0⟩::l)) (.own (h.length+2) g 0 n) (.own (h.length+8) 0 0 1)=some (.own (h.length+2) (g+1) 0 (n+1),h++(b0::b1::⟨g+1,false,46,2,l7 (L++[x]),0⟩::b3::b4::b5::b6::b7::⟨0,false,46,2,[.int .i64 x.proc,.vec x.j5.length (g8 x.j5)],0⟩::l)):=by
  subst hz;have e1:cfg.sz 46=2:=rfl;have e2:(cfg.ti 46).bytes=32:=rfl;have hm:L.length+1≤maxLen:=by
    have:(1001:Nat)≤maxLen:=by decide
    omega
  have hb:(L.length+1)*32≤140737488355328:=by omega
  have h1:(l7 L).length=L.length*2:=by rw[r7];omega
  have ht:List.take (L.length*2) (l7 L)=l7 L:=List.take_of_length_le (by omega);have hnl:¬(L.length+1)*2≤L.length*2:=by omega
  simp[j9,rd,lenOf,e1,e2,h1,hm,hb,ht,hnl,v9,s3,V6]
theorem app_cs {b0 b1 b2 b3 b4 b6:Blk}{l:c6}{x:List Int}{m:Nat}(hn:CS.length=n)(hx:x.length=m)(hl:n<100000):j9 cfg 22 (h++(b0::b1::b2::b3::b4::s8 22 1 g (n4 CS)::b6::⟨0,false,22,1,[.vec m (g8 x)],0⟩::l)) (.own (h.length+5) g 0 n) (.own (h.length+7) 0 0 1)=some (.own (h.length+5) (g+1) 0 (n+1),h++(b0::b1::b2::b3::b4::s8 22 1 (g+1) (n4 (CS++[x]))::b6::⟨0,false,22,1,[.vec m (g8 x)],0⟩::l)):=by subst hn hx;rw[aJ (C:=cfg) (K:=1) (m:=1) (new:=[.vec x.length (g8 x)]) (zs:=n4 CS) t36 rfl (by omega) (by simp[n4]) rfl (by omega) t155 rfl (by decide) (by omega),←V5,s3];rfl
theorem BS:∀{v:List Int} {i:Nat} {x:Int},i<v.length→List.take i (g8 v)++AV.int .i64 x::List.drop (i+1) (g8 v)=g8 (v.set i x)
  | y::v,0,x,_=>rfl
  | y::v,i+1,x,h=>by have ih:=BS (v:=v) (i:=i) (x:=x) (by simpa using h);simp only[g8,List.map_cons,List.set_cons_succ,List.take_succ_cons,List.drop_succ_cons,List.cons_append]at ih ⊢;rw[ih]
theorem zeros_I:(List.replicate n [AV.int .i64 0]).flatten=g8 (List.replicate n 0):=by
  induction n with
  | zero=>rfl
  | succ n ih=>rw[List.replicate_succ,List.flatten_cons,ih];simp[g8,List.replicate_succ]
theorem frz_its {d:Nat}{H:c6}{l:List aO}:o6 (iT n H (d+1)) (l7 l)=some (l7 l):=(UI l).frz _ _ _
theorem V7 {H:c6}{β γ n1 n2 n3:Nat}{z3:List AV}(hb:H[β]?=some ⟨g,false,46,2,l7 L,0⟩)(hc:H[γ]?=some (s8 22 1 i (n4 CS)))(h1:L.length=n1)(h2:CS.length=n2)(hl:L.length<1000000)(hk:∀y∈L,y.j5.length<1000000):CB 92 [.agg [.own β g 0 n1,.own γ i 0 n2,.vec n3 z3],.agg [.int .i64 x.proc,.vec x.j5.length (g8 x.j5)]] H (.int .i64 (fI L x)):=by
  subst h1 h2;have e1:iT 0 H 6 (.own β g 0 L.length)=some (.vec L.length (l7 L)):=by rw[eN,hb];simp only[Nat.zero_le,and_self,if_true,Bool.false_eq_true,if_false,Nat.zero_add];rw[if_pos (by rw[r7];omega),List.drop_zero,List.take_of_length_le (by rw[r7];omega),frz_its]
  have e2:iT 0 H 6 (.own γ i 0 CS.length)=some (.vec CS.length (n4 CS)):=lJ hc (Nat.zero_le _) (by simp[n4]) (by omega) ((UH CS).frz _ _ _);have e:pJ 0 H (.agg [.own β g 0 L.length,.own γ i 0 CS.length,.vec n3 z3])=some (.agg [.vec L.length (l7 L),.vec CS.length (n4 CS),.vec n3 z3]):=by simp only[pJ,o6,e1,e2,oE,Option.map_some]
  have ha:OQ 0 H [.agg [.vec L.length (l7 L),.vec CS.length (n4 CS),.vec n3 z3],.agg [.int .i64 x.proc,.vec x.j5.length (g8 x.j5)]] [.agg [.own β g 0 L.length,.own γ i 0 CS.length,.vec n3 z3],.agg [.int .i64 x.proc,.vec x.j5.length (g8 x.j5)]]:=And.intro (.inr e) (And.intro (.inr rfl) trivial);exact CallA.borrow ha ((c_findI L x hl hk).mono fun _ _ h=>h.1)
theorem z6 {l:List (List Int)}:(n4 l).length=l.length:=by simp[n4]
variable {pc:Nat}
theorem EY (hu:WU u)(w:WIt u it)(hpc:pc<(c8 u it).length)(hc:jZ ((c8 u it).getD pc g0)){y:aO}(hy:eZ u it pc=y):CB 91 [.agg [.vec u.globals.length (g8 u.globals),.vec u.c4.length (g6 u.c4),.vec u.procs.length (l4 u.procs),.int .i64 u.main],.agg [.int .i64 it.proc,.vec it.j5.length (g8 it.j5)],.int .i64 ((pc:Nat):Int)] h (.tup [.agg [.int .i64 y.proc,.vec y.j5.length (g8 y.j5)],.bool true]):=by subst hy;exact KT hu w hpc hc
theorem EZ (hu:WU u)(w:WIt u (L.getD i n8))(hi:L.getD i n8=it)(hpc:pc<(c8 u it).length)(hc:jZ ((c8 u it).getD pc g0)){y:aO}(hy:eZ u it pc=y):CB 91 [.agg [.vec u.globals.length (g8 u.globals),.vec u.c4.length (g6 u.c4),.vec u.procs.length (l4 u.procs),.int .i64 u.main],.agg [.int .i64 (L.getD i n8).proc,.vec (L.getD i n8).j5.length (g8 (L.getD i n8).j5)],.int .i64 ((pc:Nat):Int)] h (.tup [.agg [.int .i64 y.proc,.vec y.j5.length (g8 y.j5)],.bool true]):=by subst hi;exact EY hu w hpc hc hy
theorem FA (hu:WU u)(w:WIt u (L.getD i n8))(hi:L.getD i n8=it)(hpc:pc<(c8 u it).length)(hc:¬jZ ((c8 u it).getD pc g0)):CB 91 [.agg [.vec u.globals.length (g8 u.globals),.vec u.c4.length (g6 u.c4),.vec u.procs.length (l4 u.procs),.int .i64 u.main],.agg [.int .i64 (L.getD i n8).proc,.vec (L.getD i n8).j5.length (g8 (L.getD i n8).j5)],.int .i64 ((pc:Nat):Int)] h (.tup [.agg [.int .i64 0,.vec 0 []],.bool false]):=by subst hi;exact KS hu w hpc hc
theorem mx2000:(2000:Nat)≤maxLen:=by decide
theorem F5 {v:List Int}{i:Nat}{x:Int}(h:i<v.length):(v.set i x).getD i 0=x:=by simp[List.getD,h]
theorem UJ {v:List Int}{x:Int}(h:i<v.length):List.take 1 (List.drop i (g8 (v.set i x)))=[.int .i64 x]:=by rw[gD (by rw[List.length_set];exact h),F5 h]
theorem KV (h:i≤L.length):lN u (L++M) i=lN u L i:=by unfold lN;rw[List.take_append_of_le_length h]
theorem wit0 (hu:WU u):WIt u ⟨0,[]⟩:=by have:=hu.pl;refine ⟨Int.le_refl _,by show (0:Int)<u.procs.length;omega,?_,fun x hx=>by simp at hx⟩;show 0=(u.procs.getD 0 qS).j5.toNat;rw[hu.zero];rfl
theorem wc_of (hu:WU u)(hL:LI u L)(hR:RI L R)(hc:CS.length=L.length)(hP:PI u L CS L.length):WC u ⟨L,CS,R⟩:=
  ⟨⟨hL.z.1,hL.few hu⟩,hL.z.2,hL.w,hL.nd,hc,fun i hi=>(hP i hi).1,fun i hi pc hpc=>(hP i hi).2 pc hpc,hR.p,hR.r,hR.s⟩
attribute [local go_sem] rd v7 o7 cB dQ p7 bN iA eO n6 bX bK l8 cD Int.natCast_nonneg Int.natCast_inj List.length_map wrap64 iF kP kQ AQ M7 T7 AR D0 max2 gM dY cG Nat.reduceMul oG lL jY wY gD oK BQ oL aD cJ r7 u6 app_its app_cs BS zeros_I z6
section
attribute [local go_sem] UJ List.length_set
theorem c_close (hu:WU u):CallA Tryz.prog cfg 55 [.agg [.vec u.globals.length (g8 u.globals),.vec u.c4.length (g6 u.c4),.vec u.procs.length (l4 u.procs),.int .i64 u.main]] h (fun y' h'=>(∃c,WC u c∧y'=.tup [.agg (Af c),.int .i64 0])∧h'=h):=by
  refine .bz Tryz.f55 109 ?_;refine c75z ?_;refine .c7 [1,2,4] ?_;refine c9.lI (β:=h.length+2) [.int .i64 0,.vec 0 []] t36 ?_ ?_;exact ⟨.inl (by rw[hu.main]),.inr ⟨rfl,rfl⟩,trivial⟩;simp only[List.append_assoc,List.cons_append,List.nil_append,v9,s3,List.set_cons_succ,List.set_cons_zero,List.length_append,List.length_cons,List.length_nil,Nat.reduceAdd,Nat.zero_add];refine c9.oV (β:=h.length+4) (k:=1) t36 rfl ?_;simp only[List.append_assoc,List.cons_append,List.nil_append,v9,s3,List.set_cons_succ,List.set_cons_zero,List.length_append,List.length_cons,List.length_nil,Nat.reduceAdd,Nat.zero_add];refine c9.L2 (γ:=h.length+3) (β:=h.length+4) (k:=2) (off:=0) (len:=1) (cs:=[.int .i64 0]) t36 rfl (by simp) rfl t36 (by omega) rfl ?_;simp only[List.append_assoc,List.cons_append,List.nil_append,v9,s3,List.set_cons_succ,List.set_cons_zero,List.length_append,List.length_cons,List.length_nil,Nat.reduceAdd,Nat.zero_add];generalize eM _ _=Rb;refine c16z ?_;refine .aN (fun m st=>∃(i:Nat) (L:List aO) (g:Nat) (R:List Int) (CS:List (List Int)),(m=65-i∧(LI u L∧RI L R∧i≤L.length∧CS.length=i∧PI u L CS i))∧st=⟨mkS 109 [(1,AV.ptr h.length 0 0),(2,AV.ptr (h.length+1) 0 0),(4,AV.ptr (h.length+4) 0 0),(5,AV.int .i64 ((lN u L i:Nat):Int)),(6,AV.int .i64 ((i:Nat):Int))],h++[⟨0,false,30,4,[.vec u.globals.length (g8 u.globals),.vec u.c4.length (g6 u.c4),.vec u.procs.length (l4 u.procs),.int .i64 u.main],0⟩,⟨0,false,34,3,[.j4,.j4,.j4],0⟩,⟨g,false,46,2,l7 L,0⟩,Rb,⟨0,false,34,3,[.own (h.length+2) g 0 L.length,.own (h.length+5) i 0 i,.vec R.length (g8 R)],0⟩,s8 22 1 i (n4 CS)]⟩) (.v ⟨0,([⟨0,[]⟩]:List aO),0,([0]:List Int),([]:List (List Int)),⟨rfl,⟨⟨fun it hit=>by replace hit:=s9z hit;subst hit;exact wit0 hu,by simp,by simp⟩,⟨by simp,by simp,by simp⟩,by omega,rfl,fun j hj=>by omega⟩⟩,rfl⟩ (hs:=t109)) ?_;rintro m sl h' ⟨i,L,g,R,CS,⟨hm,⟨hL,hR,hi,hCS,hP⟩⟩,hst⟩;obtain ⟨rfl,rfl⟩:=St.mk.inj hst;clear hst;have hfew:=hL.few hu;have hrl:=hR.len hu hL;refine c1z ?_;refine u2z ?_ ?_
  ·intro e1 qe1;refine c3z ?_;have hw:WIt u (L.getD i n8):=hL.w _ (j0 (by omega));have hw1:=hw.lo;have hw2:=hw.hi;have hcd:=dU hu hw;have hs0:=hL.sites hu i;have hs1:lN u L (i+1)=lN u L i+(c8 u (L.getD i n8)).length:=by rw[EX (by omega)]
   have hs2:=hL.sites hu (i+1);refine .ss z8 (mkP 12 [0,1,0,4,0,28,60,124,255,511,1023,2047] []) ?_;refine c47z ?_;refine .c7 [1,2,4,5,6,7,34] ?_;refine c23z ?_;refine c12z ?_;refine .spl 42 rfl rfl (fun e2=>by exfalso;have q:=fact e2;omega) (fun e2=>?_);try simp only[e2]
   have qe2:=fact e2;refine .m [(2,42)] ?_;refine uFbz ?_;intro e3 qe3;refine .sk ?_;refine .c7 [1,2,4,5,6,7,34] ?_;have hcl1:=hcd.1;have hclm:(c8 u (L.getD i n8)).length≤2000:=by omega
   have hmx:((c8 u (L.getD i n8)).length:Int)≤(maxLen:Int):=Int.ofNat_le.2 (Nat.le_trans hclm mx2000);refine c16z ?_;refine .aN (fun m st=>∃(pc:Nat) (L1:List aO) (g1:Nat) (R1:List Int) (v:List Int),(m=(c8 u (L.getD i n8)).length-pc∧(LI u L1∧RI L1 R1∧(∃M,L1=L++M)∧pc≤(c8 u (L.getD i n8)).length∧v.length=(c8 u (L.getD i n8)).length∧rF u L1 (L.getD i n8) v pc))∧st=⟨mkS 109 [(1,AV.ptr h.length 0 0),(2,AV.ptr (h.length+1) 0 0),(4,AV.ptr (h.length+4) 0 0),(5,AV.int .i64 ((lN u L (i+1):Nat):Int)),(6,AV.int .i64 ((i:Nat):Int)),(7,AV.vec (c8 u (L.getD i n8)).length (s5 (c8 u (L.getD i n8)))),(8,AV.own (h.length+6) 0 0 (c8 u (L.getD i n8)).length),(9,AV.int .i64 ((pc:Nat):Int))],h++[⟨0,false,30,4,[.vec u.globals.length (g8 u.globals),.vec u.c4.length (g6 u.c4),.vec u.procs.length (l4 u.procs),.int .i64 u.main],0⟩,⟨0,false,34,3,[.j4,.j4,.j4],0⟩,⟨g1,false,46,2,l7 L1,0⟩,Rb,⟨0,false,34,3,[.own (h.length+2) g1 0 L1.length,.own (h.length+5) i 0 i,.vec R1.length (g8 R1)],0⟩,s8 22 1 i (n4 CS),⟨0,false,3,1,g8 v,0⟩]⟩) (.v ⟨0,L,g,R,(List.replicate (c8 u (L.getD i n8)).length 0),⟨rfl,⟨hL,hR,⟨[],by simp⟩,by omega,by simp,fun j hj=>by omega⟩⟩,rfl⟩) ?_;rintro m sl h' ⟨pc,L1,g1,R1,v,⟨hm,⟨hL1,hR1,⟨M,hM⟩,hpc,hv,hok⟩⟩,hst⟩;obtain ⟨rfl,rfl⟩:=St.mk.inj hst;clear hst;have hfew1:=hL1.few hu;have hrl1:=hR1.len hu hL1;have hit1:L1.getD i n8=L.getD i n8:=by rw[hM,oM (by omega)]
   have hw1:WIt u (L1.getD i n8):=by rw[hit1];exact hw
   have hil1:i<L1.length:=by rw[hM,List.length_append];omega
   refine c1z ?_;refine u2z ?_ ?_
   ·intro e4 qe4;refine c3z ?_;by_cases hcl:jZ ((c8 u (L.getD i n8)).getD pc g0)
    ·generalize hy:eZ u (L.getD i n8) pc=y;have hwy:WIt u y:=by rw[←hy];exact yY hu hw (by omega) hcl
     refine .sg z8 (mkH 14 [0,0,2,0,14,30,0,127,255,511,511,0,3071,8191] [11,12] [] [0,2048,6144] [0,1,2,3,4,5,6,7,8,9,10]) 0 ?_;refine c110z ?_;refine .p 2 ?_;refine c189z ?_;refine .cl rfl rfl (fun _=>EZ hu hw1 hit1 (by omega) hcl hy) ?_;refine .p 3 ?_;refine c191z ?_;refine .p 1 ?_;refine c32z ?_;refine c200z ?_;refine .seq ?_;refine .c7 [1,2,4,5,6,7,8,9,10,11] ?_;refine c6z ?_;refine c137z ?_;refine c17z ?_;refine .ca rfl rfl (V7 t36 t36 rfl hCS (by omega) (fun y hy=>Nat.lt_of_le_of_lt (LI.j5 hu hL1 y hy) (by omega))) ?_;refine .n ?_;refine u2z ?_ ?_
     ·intro e5 qe5;refine c2z ?_;refine .c7 [1,2,4,5,6,7,8,9,10] ?_;have hny:y∉L1:=fun hm=>by have:=BP hm;omega
      have hL2:=hL1.snoc hwy hny;have hfew2:=hL2.few hu;have hmy:y∈L1++[y]:=by simp
      have hR2:=hR1.app (M:=[y]);have hok2:=hok.app (M:=[y]);obtain ⟨hf1,hf2,hf3⟩:=BP hmy;have hsg:=@F5 v pc (fI (L1++[y]) y) (by omega);refine c30z ?_;refine .ca rfl rfl (V7 (L:=(L1++[y])) t36 t36 (by rw[List.length_append];rfl) hCS (by rw[List.length_append,List.length_singleton];omega) (fun y hy=>Nat.lt_of_le_of_lt (LI.j5 hu hL2 y hy) (by omega))) ?_;refine c286z ?_;refine u2z ?_ ?_
      ·intro e6 qe6;refine .c7 [1,2,4,5,6,7,8,9] ?_;refine .og z8 (mkH 9 [0,1,0,0,12,28,63,127,255] [8] [] [0,256] []) 0 ?_;refine .p 1 ?_;refine c111z ?_;refine .rn [true] ?_;refine .cl rfl rfl (fun _=>KP _ _ (by omega)) ?_;refine .p 1 ?_;refine .en [true] [256,0] [_] ?_;refine aB.nil rfl ?_;change c9 ..;refine c276z ?_;exact ⟨_,by omega,.v ⟨(pc+1),(L1++[y]),(g1+1),(lA R1 (fI (L1++[y]) y)),(v.set pc (fI (L1++[y]) y)),⟨rfl,⟨hL2,hR2.with ⟨hf1,hf2⟩,⟨M++[y],by rw[hM,List.append_assoc]⟩,by omega,t161,hok2.set (by omega) ⟨fun _=>⟨hf1,hf2,hf3.trans hy.symm⟩,fun hc=>absurd hcl hc⟩⟩⟩,rfl⟩ (he:=t41) (hk:=t37)⟩
      intro e6 qe6;refine c5z ?_;refine c276z ?_;exact ⟨_,by omega,.v ⟨(pc+1),(L1++[y]),(g1+1),R1,(v.set pc (fI (L1++[y]) y)),⟨rfl,⟨hL2,hR2,⟨M++[y],by rw[hM,List.append_assoc]⟩,by omega,t161,hok2.set (by omega) ⟨fun _=>⟨hf1,hf2,hf3.trans hy.symm⟩,fun hc=>absurd hcl hc⟩⟩⟩,rfl⟩ (he:=t41) (hk:=t37)⟩
     intro e5 qe5;refine .sk ?_;have hmy:y∈L1:=Classical.byContradiction fun hm=>by have:=fI_not hm;omega
     have hL2:=hL1;have hR2:=hR1;have hok2:=hok;obtain ⟨hf1,hf2,hf3⟩:=BP hmy;have hsg:=@F5 v pc (fI L1 y) (by omega);refine c30z ?_;refine .ca rfl rfl (V7 (L:=L1) t36 t36 rfl hCS (by omega) (fun y hy=>Nat.lt_of_le_of_lt (LI.j5 hu hL1 y hy) (by omega))) ?_;refine .n ?_;refine .c7 [1,2,4,5,6,7,8,9] ?_;refine .z ?_;refine u2z ?_ ?_
     ·intro e7 qe7;refine .og z8 (mkH 9 [0,1,0,0,12,28,63,127,255] [8] [] [0,256] []) 0 ?_;refine .p 1 ?_;refine c111z ?_;refine .rn [true] ?_;refine .cl rfl rfl (fun _=>KP _ _ (by omega)) ?_;refine .p 1 ?_;refine .en [true] [256,0] [_] ?_;refine aB.nil rfl ?_;change c9 ..;refine c276z ?_;exact ⟨_,by omega,.v ⟨(pc+1),L1,g1,(lA R1 (fI L1 y)),(v.set pc (fI L1 y)),⟨rfl,⟨hL2,hR2.with ⟨hf1,hf2⟩,⟨M,by rw[hM]⟩,by omega,t161,hok2.set (by omega) ⟨fun _=>⟨hf1,hf2,hf3.trans hy.symm⟩,fun hc=>absurd hcl hc⟩⟩⟩,rfl⟩ (he:=t41) (hk:=t37)⟩
     intro e7 qe7;refine c5z ?_;refine .rz ?_;exact ⟨_,by omega,.v ⟨(pc+1),L1,g1,R1,(v.set pc (fI L1 y)),⟨rfl,⟨hL2,hR2,⟨M,by rw[hM]⟩,by omega,t161,hok2.set (by omega) ⟨fun _=>⟨hf1,hf2,hf3.trans hy.symm⟩,fun hc=>absurd hcl hc⟩⟩⟩,rfl⟩ (he:=t41) (hk:=t37)⟩
    ·skip;refine .sg z8 (mkH 14 [0,0,2,0,14,30,0,127,255,511,511,0,3071,8191] [11,12] [] [0,2048,6144] [0,1,2,3,4,5,6,7,8,9,10]) 0 ?_;refine c110z ?_;refine .p 2 ?_;refine c189z ?_;refine .cl rfl rfl (fun _=>FA hu hw1 hit1 (by omega) hcl) ?_;refine .p 3 ?_;refine c191z ?_;refine .p 1 ?_;refine c32z ?_;refine c200z ?_;refine .seq ?_;refine .c7 [1,2,4,5,6,7,8,9,10,11] ?_;refine c71z ?_;refine .z ?_;refine c8z ?_;refine .rz ?_;exact ⟨_,by omega,.v ⟨(pc+1),L1,g1,R1,(v.set pc (-1)),⟨rfl,⟨hL1,hR1,⟨M,hM⟩,by omega,t161,hok.set (by omega) ⟨fun hc=>absurd hc hcl,fun _=>rfl⟩⟩⟩,rfl⟩ (he:=t41) (hk:=t37)⟩
   intro e4 qe4;refine .exit ?_;obtain rfl:pc=(c8 u (L.getD i n8)).length:=by omega
   refine c9.tA (t:=8) (γ:=h.length+6) (len:=(c8 u (L.getD i n8)).length) (by rw[v9];exact congrArg some (eE (by intro h0;have:=congrArg List.length h0;rw[l8]at this;replace this:=s7z this;omega)).symm) (by rw[l8,hv,Nat.mul_one]) (by omega) (yJ _) (kT (by decide) rfl) ?_;rw[cA];simp only[s3,List.set_cons_succ,List.set_cons_zero];generalize gK _ _ _ _ _=Vb;change c9 ..;refine c2z ?_;refine .c7 [1,2,4,5,6] ?_;refine .rz ?_;have hP1:PI u L1 (CS++[v]) (i+1):=by rw[hM];exact hP.step hCS (by omega) hv (by rw[←hM];exact hok)
   have hs3:lN u L1 (i+1)=lN u L (i+1):=by rw[hM,KV (by omega)]
   exact ⟨_,by omega,.v ⟨(i+1),L1,g1,R1,(CS++[v]),⟨rfl,⟨hL1,hR1,by omega,by simp[hCS],hP1⟩⟩,rfl⟩ (he:=by (simp only[List.append_assoc,List.cons_append,List.nil_append,List.length_append,List.length_cons,List.length_nil,hCS];rfl)) (hk:=by exact (aI.refl _).app rfl ⟨.inl rfl,.inl rfl,.inr ((UI _).refs _),.inl rfl,.inr (iW.get ⟨.own _ _ _ _ (by simp),.own _ _ _ _ (by simp),.vec _ _,trivial⟩),.inr (by rw[o9];exact (UH _).refs _),trivial⟩) (hs:=t109)⟩
  intro e1 qe1;refine .exit ?_;obtain rfl:i=L.length:=by omega
  refine c9.L2 (γ:=h.length+2) (β:=h.length+4) (k:=0) (off:=0) (len:=L.length) (cs:=l7 L) t36 rfl (by simp only[r7];omega) (by rw[List.drop_zero,List.take_of_length_le (by simp only[r7];omega)];exact (UI _).WN) t36 (by omega) rfl ?_;simp only[List.append_assoc,List.cons_append,List.nil_append,v9,s3,List.set_cons_succ,List.set_cons_zero,List.length_append,List.length_cons,List.length_nil,Nat.reduceAdd,Nat.zero_add];refine c9.qQ (γ:=h.length+5) (β:=h.length+4) (k:=1) (len:=L.length) t36 (by rw[z6,hCS,Nat.mul_one]) (by omega) (UH _) t36 (by omega) rfl ?_;refine c22z ?_;refine .c7 [2,4] ?_;refine .z ?_;exact .ret (.ex (hq:=by exact ⟨⟨L,CS,R⟩,wc_of hu hL hR hCS hP,by simp only[Af,hCS]⟩))
end
end Go.Proofs.YtonbocmibeikmaaGreat
end
section
namespace Go.Un
open Go.Ab
def shV (k:Nat)(n:Int)(d:Nat):Int:=if 0≤(d:Int)+n∧(d:Int)+n≤k then 2^((d:Int)+n).toNat else 0
def shI (k:Nat)(n:Int):List Int:=(List.range (k+1)).map (shV k n)
theorem KW {k:Nat}{n:Int}:(shI k n).length=k+1:=by simp[shI]
def chI (it:aO)(x:Ins)(m:Int):Int:=if x.op=4∧yX it x.pl=m then 1 else if x.op=5∧yX it x.pl=m then -1 else 0
variable {it:aO}{x:Ins}{m:Int}
theorem chI_1 (h:x.op=4)(h2:yX it x.pl=m):chI it x m=1:=by rw[chI,if_pos ⟨h,h2⟩]
theorem chI_2 (h:x.op=5)(h2:yX it x.pl=m):chI it x m = -1:=by rw[chI,if_neg (by omega),if_pos ⟨h,h2⟩]
theorem chI_0 (h:¬(x.op=4∧yX it x.pl=m))(h2:¬(x.op=5∧yX it x.pl=m)):chI it x m=0:=by rw[chI,if_neg h,if_neg h2]
theorem KX:chI it x m=1∨chI it x m = -1∨chI it x m=0:=by
 unfold chI;split
 ·exact .inl rfl
 ·split
  ·exact .inr (.inl rfl)
  ·exact .inr (.inr rfl)
def nD (m:Mx):Nat:=if m.size=0∧m.re=false then 1 else 8
theorem V8 {m:Mx}:nD m≤8:=by unfold nD;split<;>omega
variable {pc:Nat}
theorem KY {u:Un}(hu:WU u)(w:WIt u it)(hpc:pc<(c8 u it).length)(ho:((c8 u it).getD pc g0).op=4∨((c8 u it).getD pc g0).op=5):((c8 u it).getD pc g0).pl.param=true→0≤((c8 u it).getD pc g0).pl.index∧((c8 u it).getD pc g0).pl.index.toNat<it.j5.length:=by
 obtain ⟨_,_,h3,_⟩:=(dU hu w).2.2 pc hpc;intro hp;obtain ⟨h0,⟨_,h2⟩ | ⟨h1,_⟩⟩:=h3 ho
 ·refine ⟨h0,?_⟩;rw[w.len];simp only at h2;omega
 ·rw[hp]at h1;cases h1
def o3 (x:Ins)(pc:Nat):List Int:=if x.op=8 then [] else if x.op=7 then [x.target] else if x.op=6 then (if x.target=(pc:Int)+1 then [x.target] else [min x.target ((pc:Int)+1),max x.target ((pc:Int)+1)]) else [(pc:Int)+1]
def nE (x:Ins)(pc:Nat):AV:=.vec (o3 x pc).length (g8 (o3 x pc))
theorem KZ (h:x.op=8):nE x pc=.vec 0 []:=by simp[nE,o3,h,g8]
theorem LA (h:x.op=7):nE x pc=.vec 1 [.int .i64 x.target]:=by simp[nE,o3,h,g8]
theorem BT (h:x.op=6)(h2:x.target=(pc:Int)+1):nE x pc=.vec 1 [.int .i64 x.target]:=by simp[nE,o3,h,h2,g8]
theorem LB (h:x.op=6)(h2:¬x.target=(pc:Int)+1):nE x pc=.vec 2 [.int .i64 (min x.target ((pc:Int)+1)),.int .i64 (max x.target ((pc:Int)+1))]:=by simp[nE,o3,h,h2,g8]
theorem LC (h8:¬x.op=8)(h7:¬x.op=7)(h6:¬x.op=6):nE x pc=.vec 1 [.int .i64 ((pc:Int)+1)]:=by simp[nE,o3,h8,h7,h6,g8]
theorem kB:(o3 x pc).length≤2:=by
 unfold o3;split
 ·simp
 ·split
  ·simp
  ·split
   ·split<;>simp
   ·simp
theorem next_in {u:Un}(hu:WU u)(w:WIt u it)(hpc:pc<(c8 u it).length):∀d,d<(o3 ((c8 u it).getD pc g0) pc).length→0≤(o3 ((c8 u it).getD pc g0) pc).getD d 0∧(o3 ((c8 u it).getD pc g0) pc).getD d 0<(c8 u it).length:=by
 obtain ⟨h1,h2,h3⟩:=dU hu w;obtain ⟨_,h4,_⟩:=h3 pc hpc;have h5:¬((c8 u it).getD pc g0).op=8→pc+1<(c8 u it).length:=fun h8=>by
  by_cases e:pc=(c8 u it).length-1
  ·rw[←e]at h2;exact absurd h2 h8
  ·omega
 intro d hd;have key:∀x∈o3 ((c8 u it).getD pc g0) pc,0≤x∧x<(c8 u it).length:=by
  intro x hx;unfold o3 at hx;split at hx
  ·simp at hx
  ·rename_i h8;have h6:=h5 h8;split at hx
   ·rename_i h7;have:=h4 (.inr h7);replace hx:=s9z hx;omega
   ·split at hx
    ·rename_i h7;have:=h4 (.inl h7);split at hx
     ·replace hx:=s9z hx;omega
     ·replace hx:=s8z hx;omega
    ·replace hx:=s9z hx;omega
 exact key _ (j0 hd)
end Go.Un
end
section
namespace Go.Proofs.YtonbocmibeikmaaGreat
open Go.Ab Go.Un
variable {i:Nat}
theorem cW {l:List Ins}(h:i<l.length):List.take 12 (List.drop (i*12) (s5 l))=[.int .i64 (l.getD i g0).op,.int .i64 (l.getD i g0).target,.bool (l.getD i g0).global,.int .i64 (l.getD i g0).e.op,.int .i64 (l.getD i g0).e.num,.str (l.getD i g0).e.name,.vec (l.getD i g0).e.args.length (o2 (l.getD i g0).e.args),.bool (l.getD i g0).pl.param,.int .i64 (l.getD i g0).pl.index,.vec (l.getD i g0).pl.at'.length (o2 (l.getD i g0).pl.at'),.vec (l.getD i g0).ints.length (o2 (l.getD i g0).ints),.vec (l.getD i g0).aY.length (eS (l.getD i g0).aY)]:=by rw[read_in h,mM]
theorem cX {l:List Mx}(h:i<l.length):List.take 3 (List.drop (i*3) (g6 l))=[.str (l.getD i aA).name,.bool (l.getD i aA).re,.int .i64 (l.getD i aA).size]:=C1 h
theorem flat_I (n:Nat):(List.replicate n [AV.int .i64 0]).flatten=g8 (List.replicate n 0):=by
  induction n with
  | zero=>rfl
  | succ n ih=>simp only[List.replicate_succ,List.flatten_cons,ih];rfl
theorem Ea {e:Int}(h0:0≤e)(h1:e≤9):IntKind.wrap .i64 (1*2^(min e.toNat 64))=2^e.toNat:=by
  obtain ⟨m,rfl⟩:=Int.eq_ofNat_of_zero_le h0;have:m=0∨m=1∨m=2∨m=3∨m=4∨m=5∨m=6∨m=7∨m=8∨m=9:=by omega
  rcases this with rfl | rfl | rfl | rfl | rfl | rfl | rfl | rfl | rfl | rfl<;>decide
variable {m:Nat}
theorem shl1M (h1:m≤9):IntKind.wrap .i64 (1*2^(min m 64))=2^m:=by have:=Ea (e:=(m:Int)) (by omega) (by omega);simpa using this
def tR (v:Nat→Int)(i:Nat)(zs:List Int):Prop:=(∀d,d<i→zs.getD d 0=v d)∧(∀d,i≤d→zs.getD d 0=0)
theorem tR.zero (v:Nat→Int)(n:Nat):tR v 0 (List.replicate n 0):=by refine ⟨fun d hd=>by omega,fun d _=>?_⟩;rw[List.getD_eq_getElem?_getD,List.getElem?_replicate];split<;>rfl
variable {v:Nat→Int}{zs:List Int}
theorem tR.set {x:Int}(hi:i<zs.length)(h:tR v i zs)(hx:x=v i):tR v (i+1) (zs.set i x):=by
  refine ⟨fun d hd=>?_,fun d hd=>?_⟩
  · by_cases e:d=i
    · subst e;simp[List.getD,hi,hx]
    · have:=h.1 d (by omega)
      simp only[List.getD_eq_getElem?_getD,List.getElem?_set_ne (Ne.symm e)]at this ⊢;exact this
  · have:=h.2 d (by omega)
    simp only[List.getD_eq_getElem?_getD,List.getElem?_set_ne (show i≠d from by omega)]at this ⊢;exact this
theorem tR.skip (h:tR v i zs)(hv:v i=0):tR v (i+1) zs:=by
  refine ⟨fun d hd=>?_,fun d hd=>h.2 d (by omega)⟩;by_cases e:d=i
  · subst e;rw[h.2 d (Nat.le_refl _),hv]
  · exact h.1 d (by omega)
theorem tR.all {n:Nat}(h:tR v i zs)(hl:zs.length=n)(hi:n≤i):zs=(List.range n).map v:=by refine List.ext_getElem (by simp[hl]) fun d k1 k2=>?_;have:=h.1 d (by omega);simp;simpa [List.getD,k1] using this
variable {h l:c6}{b0:Blk}{g:Nat}{a:Int}
theorem UK:jQ h.length (h++(b0::⟨g,false,3,1,[.int .i64 a],0⟩::l)) 6 (.own (h.length+1) g 0 1)=some (.vec 1 [.int .i64 a]):=O5 (a:=[a]) t36 (by omega) rfl
theorem frz_2 {b:Int}:jQ h.length (h++(b0::⟨g,false,3,1,[.int .i64 a,.int .i64 b],0⟩::l)) 6 (.own (h.length+1) g 0 2)=some (.vec 2 [.int .i64 a,.int .i64 b]):=O5 (a:=[a,b]) t36 (by omega) rfl
theorem vec2 {b c d:Int}(h1:a=c)(h2:b=d):AV.vec 2 [.int .i64 a,.int .i64 b]=AV.vec 2 [.int .i64 c,.int .i64 d]:=by rw[h1,h2]
theorem frz_13 {b1 b2:Blk}:jQ h.length (h++(b0::b1::b2::⟨g,false,3,1,[.int .i64 a],0⟩::l)) 6 (.own (h.length+3) g 0 1)=some (.vec 1 [.int .i64 a]):=O5 (a:=[a]) t36 (by omega) rfl
theorem lO {C:Cfg}{ρ:Operand→AV}{c:Call}{r:Operand}{name:String}{t:TypeId}{v:AV}{f:FuncId}(hc:c.callee=.invoke r name)(hr:ρ r=.iface t v)(hm:C.FI t name=some f):aH C ρ c=some (f,v::c.args.toList.map ρ):=by simp only[aH,hc,hr,hm]
theorem FB:cfg.FI 245 "lockorder/flow.next" = some 206:=by kernel_rfl
theorem LD:cfg.FI 247 "lockorder/flow.next" = some 207:=by kernel_rfl
theorem xE:cfg.FI 248 "lockorder/flow.next" = some 208:=by kernel_rfl
theorem O6:cfg.FI 249 "lockorder/flow.next" = some 209:=by kernel_rfl
attribute [local go_sem] rd r7 u6 p7 n6 l8 Int.natCast_nonneg Int.natCast_inj oK aD oL cW cX gD BS flat_I Ea shl1M List.length_set List.length_replicate Int.toNat_natCast_add_one eG wrap64 D0 max2
theorem c_cap (m:Mx):CB 30 [.agg [.str m.name,.bool m.re,.int .i64 m.size]] h (.int .i64 ((nD m:Nat):Int)):=by
  refine .bz Tryz.f30 11 ?_;refine c23z ?_;refine c30z ?_;refine .spl 6 rfl rfl (fun e1=>?_) (fun e1=>?_)
  ·try simp only[e1]
   have qe1:=fact e1;refine .m [(3,6)] ?_;refine u2z ?_ ?_
   ·intro e2 qe2;refine c10z ?_;exact .ret (.ex (hq:=t169))
   intro e2 qe2;refine .sk ?_;refine c10z ?_;exact .ret (.ex (hq:=t169))
  try simp only[e1]
  have qe1:=fact e1;refine .m [(3,6)] ?_;refine c20z ?_;refine c10z ?_;exact .ret (.ex (hq:=t169))
theorem XY (m:Mx):CB 43 [.agg [.str m.name,.bool m.re,.int .i64 m.size]] h (.int .i64 ((nD m:Nat):Int)):=by
  refine .bz Tryz.f43 11 ?_;refine c23z ?_;refine c30z ?_;refine .spl 6 rfl rfl (fun e1=>?_) (fun e1=>?_)
  ·try simp only[e1]
   have qe1:=fact e1;refine .m [(3,6)] ?_;refine u2z ?_ ?_
   ·intro e2 qe2;refine c10z ?_;exact .ret (.ex (hq:=t169))
   intro e2 qe2;refine .sk ?_;refine c10z ?_;exact .ret (.ex (hq:=t169))
  try simp only[e1]
  have qe1:=fact e1;refine .m [(3,6)] ?_;refine c20z ?_;refine c10z ?_;exact .ret (.ex (hq:=t169))
theorem xF (k:Nat)(n:Int)(hk:k≤8)(h1:-1≤n)(h2:n≤1):CB 108 [.int .i64 ((k:Nat):Int),.int .i64 n] h (.vec (shI k n).length (g8 (shI k n))):=by
  refine .bz Tryz.f108 35 ?_;refine c49z ?_;refine .aR (fun m st=>∃(i:Nat) (zs:List Int),(m=(k+1)-i∧(tR (shV k n) i zs∧zs.length=(k+1)∧i≤(k+1)))∧st=⟨mkS 35 [(0,AV.int .i64 ((k:Nat):Int)),(1,AV.int .i64 n),(5,AV.own h.length 0 0 (k+1)),(11,AV.int .i64 ((k+1:Nat):Int)),(12,AV.int .i64 ((i:Nat):Int))],h++[⟨0,false,3,1,g8 zs,0⟩]⟩) _ (.v ⟨0,(List.replicate (k+1) 0),⟨rfl,⟨tR.zero _ _,by simp,by omega⟩⟩,rfl⟩) ?_;rintro m sl h' ⟨i,zs,⟨hm,⟨hI,hz,hi⟩⟩,hst⟩;obtain ⟨rfl,rfl⟩:=St.mk.inj hst;refine c23z ?_;refine u2z ?_ ?_
  ·intro e1 qe1;refine c131z ?_;refine c29z ?_;refine .spl 19 rfl rfl (fun e2=>?_) (fun e2=>?_)
   ·try simp only[e2]
    have qe2:=fact e2;refine .m [(4,19)] ?_;refine u2z ?_ ?_
    ·intro e3 qe3;refine .c7 [0,1,5,6,11,12] ?_;refine c2z ?_;refine c241z ?_;exact ⟨_,by omega,.v ⟨(i+1),(zs.set i _),⟨rfl,⟨tR.set (by omega) hI (by rw[shV,if_pos (by omega)]),t100,by omega⟩⟩,rfl⟩⟩
    intro e3 qe3;refine c5z ?_;refine c241z ?_;exact ⟨_,by omega,.v ⟨(i+1),zs,⟨rfl,⟨tR.skip hI t152,hz,by omega⟩⟩,rfl⟩⟩
   try simp only[e2]
   have qe2:=fact e2;refine .m [(4,19)] ?_;refine c48z ?_;refine c241z ?_;exact ⟨_,by omega,.v ⟨(i+1),zs,⟨rfl,⟨tR.skip hI t152,hz,by omega⟩⟩,rfl⟩⟩
  intro e1 qe1;refine c63z ?_;exact ⟨_,_,rfl,O5 t156 (Nat.le_refl _) hz,by (rw[hI.all hz (by omega),KW];rfl)⟩
theorem LF (k:Nat)(n:Int)(hk:k≤8)(h1:-1≤n)(h2:n≤1):CB 79 [.int .i64 ((k:Nat):Int),.int .i64 n] h (.vec (shI k n).length (g8 (shI k n))):=by
  refine .bz Tryz.f79 32 ?_;refine c49z ?_;refine .aR (fun m st=>∃(i:Nat) (zs:List Int),(m=(k+1)-i∧(tR (shV k n) i zs∧zs.length=(k+1)∧i≤(k+1)))∧st=⟨mkS 32 [(0,AV.int .i64 ((k:Nat):Int)),(1,AV.int .i64 n),(5,AV.own h.length 0 0 (k+1)),(6,AV.int .i64 ((i:Nat):Int))],h++[⟨0,false,3,1,g8 zs,0⟩]⟩) _ (.v ⟨0,(List.replicate (k+1) 0),⟨rfl,⟨tR.zero _ _,by simp,by omega⟩⟩,rfl⟩) ?_;rintro m sl h' ⟨i,zs,⟨hm,⟨hI,hz,hi⟩⟩,hst⟩;obtain ⟨rfl,rfl⟩:=St.mk.inj hst;refine c1z ?_;refine u2z ?_ ?_
  ·intro e1 qe1;refine c3z ?_;refine c79z ?_;refine .spl 21 rfl rfl (fun e2=>?_) (fun e2=>?_)
   ·try simp only[e2]
    have qe2:=fact e2;refine .m [(2,21)] ?_;refine u2z ?_ ?_
    ·intro e3 qe3;refine .c7 [0,1,5,6,7] ?_;refine c67z ?_;exact ⟨_,by omega,.v ⟨(i+1),(zs.set i _),⟨rfl,⟨tR.set (by omega) hI (by rw[shV,if_pos (by omega)]),t100,by omega⟩⟩,rfl⟩⟩
    intro e3 qe3;refine c5z ?_;refine c89z ?_;exact ⟨_,by omega,.v ⟨(i+1),zs,⟨rfl,⟨tR.skip hI t152,hz,by omega⟩⟩,rfl⟩⟩
   try simp only[e2]
   have qe2:=fact e2;refine .m [(2,21)] ?_;refine c48z ?_;refine c89z ?_;exact ⟨_,by omega,.v ⟨(i+1),zs,⟨rfl,⟨tR.skip hI t152,hz,by omega⟩⟩,rfl⟩⟩
  intro e1 qe1;refine c63z ?_;exact ⟨_,_,rfl,O5 t156 (Nat.le_refl _) hz,by (rw[hI.all hz (by omega),KW];rfl)⟩
theorem c_up (k:Nat)(hk:k≤8):CB 65 [.int .i64 ((k:Nat):Int)] h (.vec (shI k 1).length (g8 (shI k 1))):=by refine .bz Tryz.f65 5 ?_;refine c259z ?_;refine .ca rfl rfl (xF k 1 hk (by omega) (by omega)) ?_;refine c105z ?_;exact ⟨[],_,(List.append_nil _).symm,t42,by rfl⟩
theorem c_down (k:Nat)(hk:k≤8):CB 66 [.int .i64 ((k:Nat):Int)] h (.vec (shI k (-1)).length (g8 (shI k (-1)))):=by refine .bz Tryz.f66 5 ?_;refine c259z ?_;refine .ca rfl rfl (xF k (-1) hk (by omega) (by omega)) ?_;refine c105z ?_;exact ⟨[],_,(List.append_nil _).symm,t42,by rfl⟩
theorem c_id (k:Nat)(hk:k≤8):CB 67 [.int .i64 ((k:Nat):Int)] h (.vec (shI k 0).length (g8 (shI k 0))):=by refine .bz Tryz.f67 5 ?_;refine c259z ?_;refine .ca rfl rfl (xF k 0 hk (by omega) (by omega)) ?_;refine c105z ?_;exact ⟨[],_,(List.append_nil _).symm,t42,by rfl⟩
variable {u:Un}{it:aO}{pc:Nat}
theorem c_fcode (hu:WU u)(w:WIt u it)(hpc:pc<(c8 u it).length):CB 106 [.agg [.vec u.globals.length (g8 u.globals),.vec u.c4.length (g6 u.c4),.vec u.procs.length (l4 u.procs),.int .i64 u.main],.agg [.int .i64 it.proc,.vec it.j5.length (g8 it.j5)],.int .i64 ((pc:Nat):Int)] h (.agg [.int .i64 ((c8 u it).getD pc g0).op,.int .i64 ((c8 u it).getD pc g0).target,.bool ((c8 u it).getD pc g0).global,.int .i64 ((c8 u it).getD pc g0).e.op,.int .i64 ((c8 u it).getD pc g0).e.num,.str ((c8 u it).getD pc g0).e.name,.vec ((c8 u it).getD pc g0).e.args.length (o2 ((c8 u it).getD pc g0).e.args),.bool ((c8 u it).getD pc g0).pl.param,.int .i64 ((c8 u it).getD pc g0).pl.index,.vec ((c8 u it).getD pc g0).pl.at'.length (o2 ((c8 u it).getD pc g0).pl.at'),.vec ((c8 u it).getD pc g0).ints.length (o2 ((c8 u it).getD pc g0).ints),.vec ((c8 u it).getD pc g0).aY.length (eS ((c8 u it).getD pc g0).aY)]):=by refine .bz Tryz.f106 17 ?_;have w1:=w.lo;have w2:=w.hi;have hsz:(c8 u it).length≤1664:=q9 hu w;refine .z ?_;refine c134z ?_;exact .ret (.ex (hq:=by rfl))
theorem XZ (it:aO)(p:Pl)(hp:p.param=true→0≤p.index∧p.index.toNat<it.j5.length):CB 107 [.agg [.int .i64 it.proc,.vec it.j5.length (g8 it.j5)],.agg [.bool p.param,.int .i64 p.index,.vec p.at'.length (o2 p.at')]] h (.int .i64 (yX it p)):=by
  refine .bz Tryz.f107 28 ?_;refine c23z ?_;refine c12z ?_;refine .spl 7 rfl rfl (fun e1=>?_) (fun e1=>?_)
  ·try simp only[e1]
   have qe1:=fact e1;refine .k 5 [(2,7)] ?_;refine .spl 12 rfl rfl (fun e2=>?_) (fun e2=>?_)
   ·try simp only[e2]
    have qe2:=fact e2;refine .m [(7,12)] ?_;refine u2z ?_ ?_
    ·intro e3 qe3;refine .c7 [2,3] ?_;refine .z ?_;exact .ret (.ex (hq:=t108))
    intro e3 qe3;refine .sk ?_;refine c207z ?_;exact .ret (.ex (hq:=t108))
   try simp only[e2]
   have qe2:=fact e2;refine .m [(7,12)] ?_;refine c20z ?_;refine c207z ?_;exact .ret (.ex (hq:=t108))
  try simp only[e1]
  have qe1:=fact e1;refine .k 8 [(2,7),(7,12)] ?_;refine .m [(7,12)] ?_;refine c20z ?_;refine c207z ?_;exact .ret (.ex (hq:=t108))
theorem UL (hu:WU u)(w:WIt u it)(hpc:pc<(c8 u it).length)(m:Int):CB 64 [.agg [.vec u.globals.length (g8 u.globals),.vec u.c4.length (g6 u.c4),.vec u.procs.length (l4 u.procs),.int .i64 u.main],.agg [.int .i64 it.proc,.vec it.j5.length (g8 it.j5)],.int .i64 ((pc:Nat):Int),.int .i64 m] h (.int .i64 (chI it ((c8 u it).getD pc g0) m)):=by
  refine .bz Tryz.f64 33 ?_;have w1:=w.lo;have w2:=w.hi;have hsz:(c8 u it).length≤1664:=q9 hu w;refine c124z ?_;refine c27z ?_;refine c274z ?_;refine .spl 17 rfl rfl (fun e1=>?_) (fun e1=>?_)
  ·try simp only[e1]
   have qe1:=fact e1;refine .k 5 [(3,17)] ?_;refine .spl 22 rfl rfl (fun e2=>?_) (fun e2=>?_)
   ·try simp only[e2]
    have qe2:=fact e2;refine .m [(8,22)] ?_;refine c210z ?_;exact .ret (.ex (hq:=t16))
   try simp only[e2]
   have qe2:=fact e2;refine .k 3 [(8,22)] ?_;refine .ca rfl rfl (XZ it ((c8 u it).getD pc g0).pl (KY hu w hpc (by omega))) ?_;refine .m [(8,22)] ?_;refine u2z ?_ ?_
   ·intro e3 qe3;refine c10z ?_;exact .ret (.ex (hq:=t16))
   intro e3 qe3;refine c137z ?_;refine .c7 [9] ?_;refine .z ?_;refine u2z ?_ ?_
   ·intro e4 qe4;refine .z ?_;exact .ret (.ex (hq:=t16))
   intro e4 qe4;refine .sk ?_;refine .z ?_;exact .ret (.ex (hq:=t16))
  try simp only[e1]
  have qe1:=fact e1;refine .k 8 [(3,17),(8,22)] ?_;refine .ca rfl rfl (XZ it ((c8 u it).getD pc g0).pl (KY hu w hpc (by omega))) ?_;refine .m [(8,22)] ?_;refine u2z ?_ ?_
  ·intro e5 qe5;refine c10z ?_;exact .ret (.ex (hq:=t16))
  intro e5 qe5;refine c137z ?_;refine .c7 [9] ?_;refine .z ?_;refine u2z ?_ ?_
  ·intro e6 qe6;refine .z ?_;exact .ret (.ex (hq:=t16))
  intro e6 qe6;refine .sk ?_;refine .z ?_;exact .ret (.ex (hq:=t16))
theorem LG (hu:WU u)(w:WIt u it)(hpc:pc<(c8 u it).length)(m:Int):CB 123 [.agg [.vec u.globals.length (g8 u.globals),.vec u.c4.length (g6 u.c4),.vec u.procs.length (l4 u.procs),.int .i64 u.main],.agg [.int .i64 it.proc,.vec it.j5.length (g8 it.j5)],.int .i64 ((pc:Nat):Int),.int .i64 m] h (.int .i64 (chI it ((c8 u it).getD pc g0) m)):=by
  refine .bz Tryz.f123 44 ?_;have w1:=w.lo;have w2:=w.hi;have hsz:(c8 u it).length≤1664:=q9 hu w;refine .z ?_;refine c134z ?_;refine .sb ?_;refine c274z ?_;refine .spl 24 rfl rfl (fun e1=>?_) (fun e1=>?_)
  ·try simp only[e1]
   have qe1:=fact e1;refine .k 3 [(3,24)] ?_;refine .ca rfl rfl (KQ it ((c8 u it).getD pc g0).pl (KY hu w hpc (by omega))) ?_;refine .m [(3,24)] ?_;refine u2z ?_ ?_
   ·intro e2 qe2;refine c10z ?_;exact .ret (.ex (hq:=t16))
   intro e2 qe2;refine c274z ?_;refine .spl 36 rfl rfl (fun e3=>?_) (fun e3=>?_)
   ·try simp only[e3]
    have qe3:=fact e3;refine .k 3 [(3,36)] ?_;refine .ca rfl rfl (KQ it ((c8 u it).getD pc g0).pl (KY hu w hpc (by omega))) ?_;refine .m [(3,36)] ?_;refine u2z ?_ ?_
    ·intro e4 qe4;refine c10z ?_;exact .ret (.ex (hq:=t16))
    intro e4 qe4;refine c5z ?_;refine c10z ?_;exact .ret (.ex (hq:=t16))
   try simp only[e3]
   have qe3:=fact e3;refine .m [(3,36)] ?_;refine c48z ?_;refine c10z ?_;exact .ret (.ex (hq:=t16))
  try simp only[e1]
  have qe1:=fact e1;refine .m [(3,24)] ?_;refine .F ?_;refine c274z ?_;refine .spl 36 rfl rfl (fun e5=>?_) (fun e5=>?_)
  ·try simp only[e5]
   have qe5:=fact e5;refine .k 3 [(3,36)] ?_;refine .ca rfl rfl (KQ it ((c8 u it).getD pc g0).pl (KY hu w hpc (by omega))) ?_;refine .m [(3,36)] ?_;refine u2z ?_ ?_
   ·intro e6 qe6;refine c10z ?_;exact .ret (.ex (hq:=t16))
   intro e6 qe6;refine c5z ?_;refine c10z ?_;exact .ret (.ex (hq:=t16))
  try simp only[e5]
  have qe5:=fact e5;refine .m [(3,36)] ?_;refine c48z ?_;refine c10z ?_;exact .ret (.ex (hq:=t16))
theorem c_rel (hu:WU u)(w:WIt u it)(hpc:pc<(c8 u it).length)(hm:m<u.c4.length):CB 24 [.agg [.vec u.globals.length (g8 u.globals),.vec u.c4.length (g6 u.c4),.vec u.procs.length (l4 u.procs),.int .i64 u.main],.agg [.int .i64 it.proc,.vec it.j5.length (g8 it.j5)],.int .i64 ((pc:Nat):Int),.int .i64 ((m:Nat):Int)] h (.vec (shI (nD (u.c4.getD m aA)) (chI it ((c8 u it).getD pc g0) ((m:Nat):Int))).length (g8 (shI (nD (u.c4.getD m aA)) (chI it ((c8 u it).getD pc g0) ((m:Nat):Int))))):=by
  refine .bz Tryz.f24 31 ?_;have w1:=w.lo;have w2:=w.hi;have hsz:(c8 u it).length≤1664:=q9 hu w;have hcp:=V8 (m:=(u.c4.getD m aA));have hml:=hu.ml;have hch:=KX (it:=it) (x:=((c8 u it).getD pc g0)) (m:=(m:Int));refine .z ?_;refine c29z ?_;refine .ca rfl rfl (c_cap (u.c4.getD m aA)) ?_;refine c27z ?_;refine .c7 [2,3,4,5,9] ?_;refine c30z ?_;refine .ca rfl rfl (UL hu w hpc _) ?_;refine c103z ?_;refine .c7 [9,20] ?_;refine .z ?_;refine u2z ?_ ?_
  ·intro e1 qe1;refine c66z ?_;refine .ca rfl rfl (c_up _ hcp) ?_;refine .n ?_;exact .ret (.ex (hq:=t69))
  intro e1 qe1;refine .z ?_;refine u2z ?_ ?_
  ·intro e2 qe2;refine c66z ?_;refine .ca rfl rfl (c_down _ hcp) ?_;refine .n ?_;exact .ret (.ex (hq:=t69))
  intro e2 qe2;refine c5z ?_;refine c66z ?_;refine .ca rfl rfl (c_id _ hcp) ?_;refine .n ?_;exact .ret (.ex (hq:=t69))
theorem c_relR (hu:WU u)(w:WIt u it)(hpc:pc<(c8 u it).length)(hm:m<u.c4.length):CB 80 [.agg [.vec u.globals.length (g8 u.globals),.vec u.c4.length (g6 u.c4),.vec u.procs.length (l4 u.procs),.int .i64 u.main],.agg [.int .i64 it.proc,.vec it.j5.length (g8 it.j5)],.int .i64 ((pc:Nat):Int),.int .i64 ((m:Nat):Int)] h (.vec (shI (nD (u.c4.getD m aA)) (chI it ((c8 u it).getD pc g0) ((m:Nat):Int))).length (g8 (shI (nD (u.c4.getD m aA)) (chI it ((c8 u it).getD pc g0) ((m:Nat):Int))))):=by refine .bz Tryz.f80 21 ?_;have w1:=w.lo;have w2:=w.hi;have hsz:(c8 u it).length≤1664:=q9 hu w;have hcp:=V8 (m:=(u.c4.getD m aA));have hml:=hu.ml;have hch:=KX (it:=it) (x:=((c8 u it).getD pc g0)) (m:=(m:Int));refine .z ?_;refine .ss z8 (mkP 13 [0,1,0,7,15,31,0,0,0,0,1023,2047,4095] []) ?_;refine .k 5 [] ?_;refine .ca rfl rfl (XY (u.c4.getD m aA)) ?_;refine .k 4 [] ?_;refine .ca rfl rfl (LG hu w hpc _) ?_;refine .ca rfl rfl (LF _ _ hcp (by omega) (by omega)) ?_;refine .n [] ?_;exact .ret (.ex (hq:=by rfl))
theorem c_ended (pc:Nat):CB 206 [.agg [],.int .i64 ((pc:Nat):Int)] h (.vec 0 []):=by refine .bz Tryz.f206 5 ?_;refine c75z ?_;exact .ret (.ex (hq:=by rfl))
theorem c_jump (pc:Nat)(t:Int):CB 207 [.agg [.int .i64 t],.int .i64 ((pc:Nat):Int)] h (.vec 1 [.int .i64 t]):=by refine .bz Tryz.f207 8 ?_;refine c75z ?_;exact .ret (.ex (hf:=by first | rfl | exact UK) (hq:=by rfl))
theorem LH (pc:Nat)(hp:pc<100000):CB 209 [.agg [],.int .i64 ((pc:Nat):Int)] h (.vec 1 [.int .i64 ((pc:Int)+1)]):=by refine .bz Tryz.f209 8 ?_;refine c75z ?_;exact .ret (.ex (hf:=by first | rfl | exact UK) (hq:=by rfl))
theorem BU (pc:Nat)(t:Int)(hp:pc<100000):CB 208 [.agg [.int .i64 t],.int .i64 ((pc:Nat):Int)] h (if t=(pc:Int)+1 then AV.vec 1 [AV.int .i64 t] else AV.vec 2 [AV.int .i64 (min t ((pc:Int)+1)),AV.int .i64 (max t ((pc:Int)+1))]):=by
  refine .bz Tryz.f208 24 ?_;refine c108z ?_;refine u2z ?_ ?_
  ·intro e1 qe1;refine .c7 [2] ?_;refine .z ?_;exact .ret (.ex (hf:=by first | rfl | first | exact UK | exact frz_2) (hq:=t103))
  intro e1 qe1;refine .sk ?_;refine c134z ?_;exact .ret (.ex (hf:=by first | rfl | first | exact UK | exact frz_2) (hq:=t103))
def YA (x:Ins):AV:=if x.op=8 then .iface 245 (.agg []) else if x.op=7 then .iface 247 (.agg [.int .i64 x.target]) else if x.op=6 then .iface 248 (.agg [.int .i64 x.target]) else .iface 249 (.agg [])
variable {x:Ins}
theorem YB (h:x.op=8):YA x=.iface 245 (.agg []):=if_pos h
theorem YC (h:x.op=7):YA x=.iface 247 (.agg [.int .i64 x.target]):=by rw[YA,if_neg (by omega),if_pos h]
theorem LJ (h:x.op=6):YA x=.iface 248 (.agg [.int .i64 x.target]):=by rw[YA,if_neg (by omega),if_neg (by omega),if_pos h]
theorem YD (h8:¬x.op=8)(h7:¬x.op=7)(h6:¬x.op=6):YA x=.iface 249 (.agg []):=by rw[YA,if_neg h8,if_neg h7,if_neg h6]
theorem LK (x:Ins):CB 174 [.agg [.int .i64 x.op,.int .i64 x.target,.bool x.global,.int .i64 x.e.op,.int .i64 x.e.num,.str x.e.name,.vec x.e.args.length (o2 x.e.args),.bool x.pl.param,.int .i64 x.pl.index,.vec x.pl.at'.length (o2 x.pl.at'),.vec x.ints.length (o2 x.ints),.vec x.aY.length (eS x.aY)]] h (YA x):=by
  refine .bz Tryz.f174 23 ?_;refine c16z ?_;refine .z ?_;refine u2z ?_ ?_
  ·intro e1 qe1;refine .z ?_;exact .ret (.ex (hq:=t70))
  intro e1 qe1;refine .z ?_;refine u2z ?_ ?_
  ·intro e2 qe2;refine c275z ?_;exact .ret (.ex (hq:=t70))
  intro e2 qe2;refine .z ?_;refine u2z ?_ ?_
  ·intro e3 qe3;refine c275z ?_;exact .ret (.ex (hq:=t70))
  intro e3 qe3;refine c5z ?_;refine c10z ?_;exact .ret (.ex (hq:=t70))
theorem c_next8 (hu:WU u)(w:WIt u it)(hpc:pc<(c8 u it).length)(ho:((c8 u it).getD pc g0).op=8):CB 146 [.agg [.vec u.globals.length (g8 u.globals),.vec u.c4.length (g6 u.c4),.vec u.procs.length (l4 u.procs),.int .i64 u.main],.agg [.int .i64 it.proc,.vec it.j5.length (g8 it.j5)],.int .i64 ((pc:Nat):Int)] h (nE ((c8 u it).getD pc g0) pc):=by refine .bz Tryz.f146 16 ?_;have w1:=w.lo;have w2:=w.hi;have hsz:(c8 u it).length≤1664:=q9 hu w;refine c124z ?_;refine .ca rfl rfl ((LK ((c8 u it).getD pc g0)).mono fun y k hq=>⟨hq.1.trans (YB ho),hq.2⟩) ?_;refine .n ?_;refine c245z ?_;refine o4.cq rfl (lO rfl rfl FB) hb206 (c_ended pc) ?_;refine .n ?_;exact .ret (.ex (hq:=by (exact (KZ ho).symm)))
theorem c_next7 (hu:WU u)(w:WIt u it)(hpc:pc<(c8 u it).length)(ho:((c8 u it).getD pc g0).op=7):CB 146 [.agg [.vec u.globals.length (g8 u.globals),.vec u.c4.length (g6 u.c4),.vec u.procs.length (l4 u.procs),.int .i64 u.main],.agg [.int .i64 it.proc,.vec it.j5.length (g8 it.j5)],.int .i64 ((pc:Nat):Int)] h (nE ((c8 u it).getD pc g0) pc):=by refine .bz Tryz.f146 16 ?_;have w1:=w.lo;have w2:=w.hi;have hsz:(c8 u it).length≤1664:=q9 hu w;refine c124z ?_;refine .ca rfl rfl ((LK ((c8 u it).getD pc g0)).mono fun y k hq=>⟨hq.1.trans (YC ho),hq.2⟩) ?_;refine .n ?_;refine c245z ?_;refine o4.cq rfl (lO rfl rfl LD) hb207 (c_jump pc _) ?_;refine .n ?_;exact .ret (.ex (hq:=by (exact (LA ho).symm)))
theorem UM (hu:WU u)(w:WIt u it)(hpc:pc<(c8 u it).length)(ho:((c8 u it).getD pc g0).op=6)(ht:((c8 u it).getD pc g0).target=(pc:Int)+1):CB 146 [.agg [.vec u.globals.length (g8 u.globals),.vec u.c4.length (g6 u.c4),.vec u.procs.length (l4 u.procs),.int .i64 u.main],.agg [.int .i64 it.proc,.vec it.j5.length (g8 it.j5)],.int .i64 ((pc:Nat):Int)] h (nE ((c8 u it).getD pc g0) pc):=by refine .bz Tryz.f146 16 ?_;have w1:=w.lo;have w2:=w.hi;have hsz:(c8 u it).length≤1664:=q9 hu w;refine c124z ?_;refine .ca rfl rfl ((LK ((c8 u it).getD pc g0)).mono fun y k hq=>⟨hq.1.trans (LJ ho),hq.2⟩) ?_;refine .n ?_;refine c245z ?_;refine o4.cq rfl (lO rfl rfl xE) hb208 ((BU pc _ (by omega)).mono fun y k hq=>⟨hq.1.trans (if_pos ht),hq.2⟩) ?_;refine .n ?_;exact .ret (.ex (hq:=by (exact (BT ho ht).symm)))
theorem c_next6 (hu:WU u)(w:WIt u it)(hpc:pc<(c8 u it).length)(ho:((c8 u it).getD pc g0).op=6)(ht:¬((c8 u it).getD pc g0).target=(pc:Int)+1):CB 146 [.agg [.vec u.globals.length (g8 u.globals),.vec u.c4.length (g6 u.c4),.vec u.procs.length (l4 u.procs),.int .i64 u.main],.agg [.int .i64 it.proc,.vec it.j5.length (g8 it.j5)],.int .i64 ((pc:Nat):Int)] h (nE ((c8 u it).getD pc g0) pc):=by refine .bz Tryz.f146 16 ?_;have w1:=w.lo;have w2:=w.hi;have hsz:(c8 u it).length≤1664:=q9 hu w;refine c124z ?_;refine .ca rfl rfl ((LK ((c8 u it).getD pc g0)).mono fun y k hq=>⟨hq.1.trans (LJ ho),hq.2⟩) ?_;refine .n ?_;refine c245z ?_;refine o4.cq rfl (lO rfl rfl xE) hb208 ((BU pc _ (by omega)).mono fun y k hq=>⟨hq.1.trans (if_neg ht),hq.2⟩) ?_;refine .n ?_;exact .ret (.ex (hq:=by (exact (LB ho ht).symm)))
theorem c_nextn (hu:WU u)(w:WIt u it)(hpc:pc<(c8 u it).length)(h8:¬((c8 u it).getD pc g0).op=8)(h7:¬((c8 u it).getD pc g0).op=7)(h6:¬((c8 u it).getD pc g0).op=6):CB 146 [.agg [.vec u.globals.length (g8 u.globals),.vec u.c4.length (g6 u.c4),.vec u.procs.length (l4 u.procs),.int .i64 u.main],.agg [.int .i64 it.proc,.vec it.j5.length (g8 it.j5)],.int .i64 ((pc:Nat):Int)] h (nE ((c8 u it).getD pc g0) pc):=by refine .bz Tryz.f146 16 ?_;have w1:=w.lo;have w2:=w.hi;have hsz:(c8 u it).length≤1664:=q9 hu w;refine c124z ?_;refine .ca rfl rfl ((LK ((c8 u it).getD pc g0)).mono fun y k hq=>⟨hq.1.trans (YD h8 h7 h6),hq.2⟩) ?_;refine .n ?_;refine c245z ?_;refine o4.cq rfl (lO rfl rfl O6) hb209 (LH pc (by omega)) ?_;refine .n ?_;exact .ret (.ex (hq:=by (exact (LC h8 h7 h6).symm)))
theorem c_nextF (hu:WU u)(w:WIt u it)(hpc:pc<(c8 u it).length):CB 146 [.agg [.vec u.globals.length (g8 u.globals),.vec u.c4.length (g6 u.c4),.vec u.procs.length (l4 u.procs),.int .i64 u.main],.agg [.int .i64 it.proc,.vec it.j5.length (g8 it.j5)],.int .i64 ((pc:Nat):Int)] h (nE ((c8 u it).getD pc g0) pc):=by
  by_cases h8:((c8 u it).getD pc g0).op=8
  · exact c_next8 hu w hpc h8
  by_cases h7:((c8 u it).getD pc g0).op=7
  · exact c_next7 hu w hpc h7
  by_cases h6:((c8 u it).getD pc g0).op=6
  · by_cases ht:((c8 u it).getD pc g0).target=(pc:Int)+1
    · exact UM hu w hpc h6 ht
    · exact c_next6 hu w hpc h6 ht
  exact c_nextn hu w hpc h8 h7 h6
variable {t:Int}
theorem kW_1 (h:a<t):kW [a] t=1:=by simp[kW,List.takeWhile,h]
theorem kW_0 (h:¬a<t):kW [a] t=0:=by simp[kW,List.takeWhile,h]
theorem LL (h:x.op=6):AV.vec (lA [(pc:Int)+1] x.target).length (g8 (lA [(pc:Int)+1] x.target))=nE x pc:=by
  by_cases h2:x.target=(pc:Int)+1
  · rw[BT h h2,lA,if_pos (by simp[h2])];rw[h2];rfl
  · rw[LB h h2,lA,if_neg t115]
    by_cases h3:(pc:Int)+1<x.target
    · rw[kW_1 h3,show min x.target ((pc:Int)+1)=(pc:Int)+1 from by omega,show max x.target ((pc:Int)+1)=x.target from by omega];rfl
    · rw[kW_0 h3,show min x.target ((pc:Int)+1)=x.target from by omega,show max x.target ((pc:Int)+1)=(pc:Int)+1 from by omega];rfl
theorem c_with1 {b1 b2:Blk}:CH 69 [.own (h.length+3) g 0 1,.int .i64 t] (h++[b0,b1,b2,⟨g,false,3,1,[.int .i64 a],0⟩]) (.vec (lA [a] t).length (g8 (lA [a] t))) (h++[b0,b1,b2,⟨g,false,3,1,[.int .i64 a],1⟩]):=by refine CallA.HF (β:=h.length+3) (off:=0) (len:=1) (b:=⟨g,false,3,1,[.int .i64 a],0⟩) (cs:=g8 [a]) (args':=[.vec 1 (g8 [a]),.int .i64 t]) t36 rfl (by simp) rfl ⟨.inr ⟨rfl,rfl⟩,.inl rfl,trivial⟩ ?_;rw[s3];exact KP (h:=h++[b0,b1,b2,⟨g,false,3,1,[.int .i64 a],1⟩]) [a] t (by simp)
theorem c_nextR (hu:WU u)(w:WIt u it)(hpc:pc<(c8 u it).length):CB 26 [.agg [.vec u.globals.length (g8 u.globals),.vec u.c4.length (g6 u.c4),.vec u.procs.length (l4 u.procs),.int .i64 u.main],.agg [.int .i64 it.proc,.vec it.j5.length (g8 it.j5)],.int .i64 ((pc:Nat):Int)] h (nE ((c8 u it).getD pc g0) pc):=by
  refine .bz Tryz.f26 38 ?_;have w1:=w.lo;have w2:=w.hi;have hsz:(c8 u it).length≤1664:=q9 hu w;refine .z ?_;refine c244z ?_;refine .c7 [2,7] ?_;refine c15z ?_;refine .z ?_;refine u2z ?_ ?_
  ·intro e1 qe1;refine .z ?_;exact .ret (.ex (hf:=t205) (hq:=t71))
  intro e1 qe1;refine .z ?_;refine u2z ?_ ?_
  ·intro e2 qe2;refine .z ?_;exact .ret (.ex (hf:=t205) (hq:=t71))
  intro e2 qe2;refine .z ?_;refine u2z ?_ ?_
  ·intro e3 qe3;refine .c7 [2,7] ?_;refine c29z ?_;refine .ch rfl rfl (c_with1) ?_;refine .n ?_;exact .ret (.ex (hf:=t205) (hq:=t71))
  intro e3 qe3;refine c5z ?_;refine .c7 [2] ?_;refine .z ?_;exact .ret (.ex (hf:=t205) (hq:=t71))
end Go.Proofs.YtonbocmibeikmaaGreat
end
section
namespace Go.Un
open Go.Ab
def l5 (n:Nat):AV:=.int .i64 (n:Int)
def bH (l:List Nat):AV:=.vec l.length (l.map l5)
variable {i:Nat}
theorem jE {l:List Nat}(h:i<l.length):List.take 1 (List.drop i (l.map l5))=[AV.int .i64 ((l.getD i 0:Nat):Int)]:=by rw[←List.map_drop,←List.map_take,List.drop_eq_getElem_cons h,List.take_succ_cons,List.take_zero];simp[List.getD,h,l5]
theorem lP {l:List Nat}{v:Nat}(h:i<l.length):List.take i (l.map l5)++AV.int .i64 (v:Int)::List.drop (i+1) (l.map l5)=(l.set i v).map l5:=by rw[←List.map_drop,←List.map_take,List.set_eq_take_append_cons_drop,if_pos h];simp[l5]
theorem jF (n:Nat):(List.replicate n [AV.int .i64 0]).flatten=(List.replicate n (0:Nat)).map l5:=by
 induction n with
 | zero=>rfl
 | succ n ih=>simp[List.replicate_succ,ih,l5]
theorem i64_63 (n:Int)(h0:0≤n)(h1:n<2^63):IntKind.wrap .i64 n=n:=wrap64 (by omega) (by omega)
variable {a b:Nat}
theorem orN (ha:a<512)(hb:b<512):bits .or .i64 (a:Int) (b:Int)=((a|||b:Nat):Int):=(bits_nat .i64 63 (by decide) i64_63 a b (by omega) (by omega)).2
def dhV (k:Nat)(n:Int)(d:Nat):Nat:=if 0≤(d:Int)+n∧(d:Int)+n≤k then 2^((d:Int)+n).toNat else 0
def dhN (k:Nat)(n:Int):List Nat:=(List.range (k+1)).map (dhV k n)
def hasD (s:Nat)(d:Int):Bool:=decide (0≤d∧d≤8)&&s.testBit d.toNat
theorem testAll:((List.range 9).all fun m=>(List.range 512).all fun s=>(bits .and .i64 ((s:Int).fdiv (2^(min m 64))) 1==1)==s.testBit m)=true:=by kernel_rfl
variable {s:Nat}
theorem testN {m:Nat}(hm:m≤8)(hs:s<512):(bits .and .i64 ((s:Int).fdiv (2^(min m 64))) 1==1)=s.testBit m:=by have h1:=List.all_eq_true.1 testAll m (List.mem_range.2 (by omega));have h2:=List.all_eq_true.1 h1 s (List.mem_range.2 hs);simpa using h2
theorem hasN (hi:i≤8):hasD s (i:Int)=s.testBit i:=by
 have:0≤(i:Int)∧(i:Int)≤8:=by omega
 simp[hasD,this]
def dK (r:List Nat)(s:Nat):Nat→Nat
 | 0=>0
 | i+1=>if s.testBit i then dK r s i|||r.getD i 0 else dK r s i
def applyN (r:List Nat)(s:Nat):Nat:=dK r s r.length
def n5 (a b:List Nat):List Nat:=(List.range a.length).map fun d=>applyN b (a.getD d 0)
def bG (a b:List Nat):List Nat:=(List.range a.length).map fun d=>a.getD d 0|||b.getD d 0
def jA (a b:List Nat):Prop:=∀d,d<a.length→bits .andNot .i64 ((a.getD d 0:Nat):Int) ((b.getD d 0:Nat):Int)=0
instance (a b:List Nat):Decidable (jA a b):=by unfold jA;exact inferInstance
variable {r:List Nat}
theorem jB (hr:∀x∈r,x<512)(i:Nat):r.getD i 0<512:=by
 rw[List.getD_eq_getElem?_getD];cases h:r[i]? with
 | none=>simp
 | some x=>exact hr x (List.mem_of_getElem? h)
theorem or_lt (ha:a<512)(hb:b<512):a|||b<512:=Nat.or_lt_two_pow (n:=9) ha hb
theorem oN {r:List Nat}(hr:∀x∈r,x<512)(s:Nat):∀i,dK r s i<512
 | 0=>by simp[dK]
 | i+1=>by
  unfold dK;split
  ·exact or_lt (oN hr s i) (jB hr i)
  ·exact oN hr s i
theorem YE (h:s.testBit i=true):dK r s (i+1)=dK r s i|||r.getD i 0:=by rw[dK,if_pos h]
theorem YF (h:s.testBit i=false):dK r s (i+1)=dK r s i:=by rw[dK,if_neg (by simp[h])]
def withinN (x m:Int):Nat:=(within x m).toNat
theorem nU {k:Nat}(hk:k≤8):0<2^(k+1)∧2^(k+1)≤512:=by
 have:k=0∨k=1∨k=2∨k=3∨k=4∨k=5∨k=6∨k=7∨k=8:=by omega
 rcases this with rfl | rfl | rfl | rfl | rfl | rfl | rfl | rfl | rfl<;>decide
def relV (l:List Int)(k d:Nat):Nat:=if d<l.length then withinN (l.getD d 0) ((2^(k+1):Nat):Int) else 0
def Gz (l:List Int)(k:Nat):List Nat:=(List.range (k+1)).map (relV l k)
theorem xG {r:List Nat}{s j:Nat}:∀{i:Nat},(dK r s i).testBit j=true↔∃d,d<i∧s.testBit d=true∧(r.getD d 0).testBit j=true
 | 0=>by simp[dK]
 | i+1=>by
  have ih:=xG (r:=r) (s:=s) (j:=j) (i:=i);by_cases h:s.testBit i=true
  ·rw[YE h,Nat.testBit_or,Bool.or_eq_true,ih];constructor
   ·rintro (⟨d,h1,h2⟩ | h1)
    ·exact ⟨d,by omega,h2⟩
    ·exact ⟨i,by omega,h,h1⟩
   ·rintro ⟨d,h1,h2,h3⟩;by_cases e:d=i
    ·subst e;exact .inr h3
    ·exact .inl ⟨d,by omega,h2,h3⟩
  ·rw[YF t173,ih];constructor
   ·rintro ⟨d,h1,h2⟩;exact ⟨d,by omega,h2⟩
   ·rintro ⟨d,h1,h2,h3⟩;by_cases e:d=i
    ·subst e;exact absurd h2 h
    ·exact ⟨d,by omega,h2,h3⟩
theorem zH {j:Nat}:(applyN r s).testBit j=true↔∃d,d<r.length∧s.testBit d=true∧(r.getD d 0).testBit j=true:=xG
theorem F6 (h:∀j,a.testBit j=true↔b.testBit j=true):a=b:=Nat.eq_of_testBit_eq fun j=>Bool.eq_iff_iff.2 (h j)
variable {n d:Nat}
theorem oO {f:Nat→Nat}(hd:d<n):((List.range n).map f).getD d 0=f d:=by simp[List.getD,hd]
theorem xH (a b:List Nat):(n5 a b).length=a.length:=by simp[n5]
theorem nV (a b:List Nat):(bG a b).length=a.length:=by simp[bG]
theorem rel_len (l:List Int)(k:Nat):(Gz l k).length=k+1:=by simp[Gz]
theorem BV (k:Nat)(n:Int):(dhN k n).length=k+1:=by simp[dhN]
theorem V9 {a b:List Nat}(hd:d<a.length):(n5 a b).getD d 0=applyN b (a.getD d 0):=oO hd
theorem LM {a b:List Nat}(hd:d<a.length):(bG a b).getD d 0=a.getD d 0|||b.getD d 0:=oO hd
theorem map_ext {f g:Nat→Nat}(h:∀d,d<n→f d=g d):(List.range n).map f=(List.range n).map g:=gA fun d hd=>h d (List.mem_range.1 hd)
theorem FC {x j:Nat}(h:x<2^n)(hj:x.testBit j=true):j<n:=by
 rcases Nat.lt_or_ge j n with h' | h'
 ·exact h'
 ·rw[Nat.testBit_lt_two_pow (Nat.lt_of_lt_of_le h (Nat.pow_le_pow_right (by decide) h'))]at hj;cases hj
theorem tV (l:List Int)(k:Nat):Gz l k=(List.range (Gz l k).length).map fun d=>(Gz l k).getD d 0:=by rw[rel_len];exact map_ext fun d hd=>by rw[Gz,oO hd]
theorem andNotN (ha:a<512)(hb:b<512):bits .andNot .i64 (a:Int) (b:Int)=0↔∀j,a.testBit j=true→b.testBit j=true:=by
 have e1:∀n:Nat,BitVec.ofInt 64 (n:Int)=BitVec.ofNat 64 n:=fun n=>BitVec.ofInt_natCast _ _;have e2:bits .andNot .i64 (a:Int) (b:Int)=IntKind.wrap .i64 (((BitVec.ofNat 64 a&&&~~~ BitVec.ofNat 64 b).toNat:Nat):Int):=by show IntKind.wrap .i64 (((BitVec.ofInt 64 (a:Int)&&&~~~ BitVec.ofInt 64 (b:Int)).toNat:Nat):Int)=_;rw[e1,e1]
 have hn:(BitVec.ofNat 64 a&&&~~~ BitVec.ofNat 64 b).toNat≤a:=by rw[BitVec.toNat_and];refine Nat.le_trans Nat.and_le_left ?_;rw[BitVec.toNat_ofNat];exact Nat.mod_le _ _
 have ht:∀j,(BitVec.ofNat 64 a&&&~~~ BitVec.ofNat 64 b).toNat.testBit j=(a.testBit j&&! b.testBit j):=fun j=>by
  rw[BitVec.testBit_toNat,BitVec.getLsbD_and,BitVec.getLsbD_not,BitVec.getLsbD_ofNat,BitVec.getLsbD_ofNat];by_cases hj:j<64
  ·simp[hj]
  ·rw[Nat.testBit_lt_two_pow (x:=a) (Nat.lt_of_lt_of_le ha (Nat.le_trans (show 512≤2^9 from by decide) (Nat.pow_le_pow_right (by decide) (by omega))))];simp
 rw[e2,wrap64 (by omega) (by omega)];constructor
 ·intro h j hj;have h0:(BitVec.ofNat 64 a&&&~~~ BitVec.ofNat 64 b).toNat=0:=by omega
  have:=ht j;rw[h0,Nat.zero_testBit,hj]at this;simpa using this.symm
 ·intro h;have:(BitVec.ofNat 64 a&&&~~~ BitVec.ofNat 64 b).toNat=0:=by
   refine Nat.eq_of_testBit_eq fun j=>?_;rw[ht,Nat.zero_testBit];cases hj:a.testBit j with
   | false=>rfl
   | true=>rw[h j hj];rfl
  omega
def Rl (k:Nat)(r:List Nat):Prop:=r.length=k+1∧∀x∈r,x<2^(k+1)
variable {k:Nat}{r:List Nat}
theorem Rl.lt (hk:k≤8)(h:Rl k r):∀x∈r,x<512:=fun x hx=>Nat.lt_of_lt_of_le (h.2 x hx) (nU hk).2
variable {n:Nat}
theorem rG (hr:∀x∈r,x<2^n)(i:Nat):r.getD i 0<2^n:=by
 rw[List.getD_eq_getElem?_getD];cases h:r[i]? with
 | none=>simp;exact Nat.two_pow_pos n
 | some x=>exact hr x (List.mem_of_getElem? h)
def bt (r:List Nat)(d e:Nat):Bool:=(r.getD d 0).testBit e
variable {d e:Nat}
theorem LN (h:Rl k r)(hb:bt r d e=true):d≤k∧e≤k:=by
 unfold bt at hb;refine ⟨?_,?_⟩
 ·by_cases hd:d<r.length
  ·have:=h.1;omega
  ·rw[List.getD_eq_getElem?_getD,List.getElem?_eq_none (by omega)]at hb;simp at hb
 ·have:=FC (rG h.2 d) hb;omega
def Sub (a b:List Nat):Prop:=∀d e,bt a d e=true→bt b d e=true
theorem Sub.refl (a:List Nat):Sub a a:=fun _ _ h=>h
variable {a b:List Nat}
theorem Sub.trans {c:List Nat}(h1:Sub a b)(h2:Sub b c):Sub a c:=fun d e h=>h2 d e (h1 d e h)
theorem LO (ha:Rl k a)(hb:Rl k b)(h:∀d e,bt a d e=true↔bt b d e=true):a=b:=by refine List.ext_getElem (by rw[ha.1,hb.1]) fun d k1 k2=>?_;have:=F6 (a:=a.getD d 0) (b:=b.getD d 0) fun j=>h d j;simpa [List.getD,k1,k2] using this
theorem Sub.Er (ha:Rl k a)(hb:Rl k b)(h1:Sub a b)(h2:Sub b a):a=b:=LO ha hb fun d e=>⟨h1 d e,h2 d e⟩
theorem uW (ha:Rl k a)(hb:Rl k b):bt (bG a b) d e=true↔bt a d e=true∨bt b d e=true:=by
 by_cases hd:d<a.length
 ·unfold bt;rw[LM hd,Nat.testBit_or,Bool.or_eq_true]
 ·have h1:=ha.1;have h2:=hb.1;unfold bt;simp only[List.getD_eq_getElem?_getD];rw[List.getElem?_eq_none (l:=bG a b) (by rw[nV];omega),List.getElem?_eq_none (l:=a) (by omega),List.getElem?_eq_none (l:=b) (by omega)];simp
theorem oP (ha:Rl k a)(hb:Rl k b):bt (n5 a b) d e=true↔∃f,bt a d f=true∧bt b f e=true:=by
 by_cases hd:d<a.length
 ·unfold bt;rw[V9 hd,zH];constructor
  ·rintro ⟨f,_,h1,h2⟩;exact ⟨f,h1,h2⟩
  ·rintro ⟨f,h1,h2⟩;exact ⟨f,by have:=(LN hb h2).1;have:=hb.1;omega,h1,h2⟩
 ·have h0:bt (n5 a b) d e=false:=by unfold bt;rw[List.getD_eq_getElem?_getD,List.getElem?_eq_none (by rw[xH];omega)];simp
  rw[h0];constructor
  ·intro h;cases h
  ·rintro ⟨f,h1,_⟩;have:=(LN ha h1).1;have:=ha.1;omega
theorem uX (ha:Rl k a)(hb:Rl k b):Rl k (bG a b):=by refine ⟨by rw[nV];exact ha.1,fun x hx=>?_⟩;obtain ⟨d,_,rfl⟩:=List.mem_map.1 hx;exact Nat.or_lt_two_pow (rG ha.2 d) (rG hb.2 d)
theorem rH {r:List Nat}{n:Nat}(hr:∀x∈r,x<2^n)(s:Nat):∀i,dK r s i<2^n
 | 0=>by simp[dK];exact Nat.two_pow_pos n
 | i+1=>by
  unfold dK;split
  ·exact Nat.or_lt_two_pow (rH hr s i) (rG hr i)
  ·exact rH hr s i
theorem lQ (ha:Rl k a)(hb:Rl k b):Rl k (n5 a b):=by refine ⟨by rw[xH];exact ha.1,fun x hx=>?_⟩;obtain ⟨d,_,rfl⟩:=List.mem_map.1 hx;exact rH hb.2 _ _
theorem F7:bt (List.replicate n 0) d e=false:=by unfold bt;rw[List.getD_eq_getElem?_getD,List.getElem?_replicate];split<;>simp
theorem W0 (k:Nat):Rl k (List.replicate (k+1) 0):=⟨by simp,fun x hx=>by rw[List.eq_of_mem_replicate hx];exact Nat.two_pow_pos _⟩
theorem rl_dh (k:Nat)(n:Int):Rl k (dhN k n):=by
 refine ⟨by simp[dhN],fun x hx=>?_⟩;obtain ⟨d,_,rfl⟩:=List.mem_map.1 hx;unfold dhV;split
 ·exact Nat.pow_lt_pow_right (by decide) (by omega)
 ·exact Nat.two_pow_pos _
theorem Et {n:Int}:bt (dhN k n) d e=true↔d≤k∧e≤k∧(d:Int)+n=e:=by
 unfold bt;by_cases hd:d<k+1
 ·rw[dhN,oO hd,dhV];split
  ·rw[Nat.testBit_two_pow];simp only[decide_eq_true_eq];omega
  ·simp only[Nat.zero_testBit,Bool.false_eq_true,false_iff];omega
 ·rw[List.getD_eq_getElem?_getD,List.getElem?_eq_none (by simp[dhN];omega)];simp;omega
noncomputable def pA (p:Nat→Prop):Nat→Nat
 | 0=>0
 | j+1=>@ite _ (p j) (Classical.propDecidable _) (pA p j|||2^j) (pA p j)
theorem sM {p:Nat→Prop}{j:Nat}:∀{n:Nat},(pA p n).testBit j=true↔j<n∧p j
 | 0=>by simp[pA]
 | n+1=>by
  have ih:=sM (p:=p) (j:=j) (n:=n);rw[pA];split
  ·rename_i h;rw[Nat.testBit_or,Bool.or_eq_true,ih,Nat.testBit_two_pow];simp only[decide_eq_true_eq];constructor
   ·rintro (⟨h1,h2⟩ | rfl)
    ·exact ⟨by omega,h2⟩
    ·exact ⟨by omega,h⟩
   ·rintro ⟨h1,h2⟩;by_cases e:n=j
    ·exact .inr e
    ·exact .inl ⟨by omega,h2⟩
  ·rename_i h;rw[ih];constructor
   ·rintro ⟨h1,h2⟩;exact ⟨by omega,h2⟩
   ·rintro ⟨h1,h2⟩;refine ⟨?_,h2⟩;by_cases e:j=n
    ·subst e;exact absurd h2 h
    ·omega
theorem xI {p:Nat→Prop}:∀n:Nat,pA p n<2^n
 | 0=>by simp[pA]
 | n+1=>by
  have ih:=xI (p:=p) n;have h2:2^n<2^(n+1):=Nat.pow_lt_pow_right (by decide) (by omega);rw[pA];split
  ·exact Nat.or_lt_two_pow (by omega) h2
  ·omega
noncomputable def xJ (k:Nat)(p:Nat→Nat→Prop):List Nat:=(List.range (k+1)).map fun d=>pA (p d) (k+1)
theorem rI (k:Nat)(p:Nat→Nat→Prop):Rl k (xJ k p):=by refine ⟨by simp[xJ],fun x hx=>?_⟩;obtain ⟨d,_,rfl⟩:=List.mem_map.1 hx;exact xI _
theorem uY {p:Nat→Nat→Prop}:bt (xJ k p) d e=true↔d≤k∧e≤k∧p d e:=by
 unfold bt;by_cases hd:d<k+1
 ·rw[xJ,oO hd,sM];constructor
  ·rintro ⟨h1,h2⟩;exact ⟨by omega,by omega,h2⟩
  ·rintro ⟨_,h1,h2⟩;exact ⟨by omega,h2⟩
 ·rw[List.getD_eq_getElem?_getD,List.getElem?_eq_none (by simp[xJ];omega)];simp;omega
def Tb (k n:Nat)(T:List (List Nat)):Prop:=T.length=n∧∀r∈T,Rl k r
variable {T:List (List Nat)}{i:Nat}
theorem Tb.get (h:Tb k n T)(hi:i<n):Rl k (T.getD i []):=by rw[List.getD_eq_getElem?_getD,List.getElem?_eq_getElem (by rw[h.1];exact hi)];exact h.2 _ (List.getElem_mem _)
theorem Tb.set (h:Tb k n T)(hr:Rl k r):Tb k n (T.set i r):=by
 refine ⟨by rw[List.length_set];exact h.1,fun x hx=>?_⟩;rcases List.mem_or_eq_of_mem_set hx with hx | rfl
 ·exact h.2 x hx
 ·exact hr
theorem nN {j:Nat}(hi:i<T.length):(T.set i r).getD j []=if j=i then r else T.getD j []:=by
 simp only[List.getD_eq_getElem?_getD];by_cases h:j=i
 ·subst h;simp[hi]
 ·rw[List.getElem?_set_ne (Ne.symm h),if_neg h]
def uZ (A B:List (List Nat)):Prop:=∀i,Sub (A.getD i []) (B.getD i [])
theorem uZ.Er {A B:List (List Nat)}(ha:Tb k n A)(hb:Tb k n B)(h1:uZ A B)(h2:uZ B A):A=B:=by refine List.ext_getElem (by rw[ha.1,hb.1]) fun d k1 k2=>?_;have e1:=h1 d;have e2:=h2 d;have:=Sub.Er (ha.get (i:=d) (by rw[←ha.1];exact k1)) (hb.get (i:=d) (by rw[←hb.1];exact k2)) e1 e2;simpa [List.getD,k1,k2] using this
theorem sub_nil (b:List Nat):Sub [] b:=fun d e h=>by simp[bt]at h
theorem xK {A B:List (List Nat)}(ha:Tb k n A)(h:∀i,i<n→Sub (A.getD i []) (B.getD i [])):uZ A B:=fun i=>by
 by_cases hi:i<n
 ·exact h i hi
 ·rw[List.getD_eq_getElem?_getD,List.getElem?_eq_none (by rw[ha.1];omega)];exact sub_nil _
def tot (T:List (List Nat)):Nat:=(T.map List.sum).sum
theorem oQ {c:Nat}:∀{l:List Nat},(∀x∈l,x≤c)→l.sum≤c*l.length
 | [],_=>by simp
 | x::l,h=>by have h1:=h x (by simp);have h2:=oQ (l:=l) fun y hy=>h y (by simp[hy]);simp only[List.sum_cons,List.length_cons,Nat.mul_succ];omega
theorem rl_sum (hk:k≤8)(h:Rl k r):r.sum≤512*9:=by refine Nat.le_trans (oQ (c:=512) fun x hx=>Nat.le_of_lt (h.lt hk x hx)) ?_;rw[h.1];exact Nat.mul_le_mul_left _ (by omega)
theorem YG (hk:k≤8)(h:Tb k n T):tot T≤4608*n:=by
 unfold tot;refine Nat.le_trans (oQ (c:=4608) fun x hx=>?_) ?_
 ·obtain ⟨r,hr,rfl⟩:=List.mem_map.1 hx;exact rl_sum hk (h.2 r hr)
 ·rw[List.length_map,h.1];exact Nat.le_refl _
theorem pO:∀{l:List Nat} {i x:Nat},i<l.length→(l.set i x).sum+l.getD i 0=l.sum+x
 | y::l,0,x,_=>by simp[List.getD];omega
 | y::l,i+1,x,h=>by have:=pO (l:=l) (i:=i) (x:=x) t173;simp only[List.set_cons_succ,List.sum_cons,List.getD_cons_succ];omega
theorem xL:(T.map List.sum).getD i 0=(T.getD i []).sum:=by simp only[List.getD_eq_getElem?_getD,List.getElem?_map];cases T[i]?<;>simp
theorem tot_set (hi:i<T.length):tot (T.set i r)+(T.getD i []).sum=tot T+r.sum:=by unfold tot;rw[List.map_set,←xL];exact pO (by simpa using hi)
theorem F8:∀{a b:List Nat},a.length=b.length→(∀d,a.getD d 0≤b.getD d 0)→a.sum≤b.sum∧(a≠b→a.sum<b.sum)
 | [],[],_,_=>by simp
 | x::a,y::b,hl,h=>by
  have h0:x≤y:=h 0;obtain ⟨i1,i2⟩:=F8 (a:=a) (b:=b) t189 fun d=>h (d+1);simp only[List.sum_cons];refine ⟨by omega,fun hne=>?_⟩;by_cases e:x=y
  ·have:=i2 fun e2=>hne (by rw[e,e2]);omega
  ·omega
 | [],_::_,hl,_=>by simp at hl
 | _::_,[],hl,_=>by simp at hl
theorem zI {a b:Nat}(h:∀j,a.testBit j=true→b.testBit j=true):a≤b:=by
 have:a|||b=b:=F6 fun j=>by rw[Nat.testBit_or,Bool.or_eq_true];exact ⟨fun h1=>h1.elim (h j) id,.inr⟩
 rw[←this];exact Nat.left_le_or
theorem W2 (ha:Rl k a)(hb:Rl k b)(h:Sub a b):a.sum≤b.sum∧(a≠b→a.sum<b.sum):=
 F8 (by rw[ha.1,hb.1]) fun d=>zI fun j=>h d j
theorem UN (hT:Tb k n T)(hi:i<n)(hr:Rl k r)(hs:Sub (T.getD i []) r)(hne:T.getD i []≠r):tot T<tot (T.set i r):=by have h1:=tot_set (T:=T) (i:=i) (r:=r) (by rw[hT.1];exact hi);have h2:=(W2 (hT.get hi) hr hs).2 hne;omega
inductive Way (k:Nat)(nx:Nat→List Int)(st:Nat→List Nat):Nat→Nat→Nat→Prop
 | start {d:Nat}:d≤k→Way k nx st 0 d d
 | step {pc d e f:Nat} {q:Int}:Way k nx st pc d e→bt (st pc) e f=true→q∈nx pc→Way k nx st q.toNat d f
def ClAt (nx:Nat→List Int)(st:Nat→List Nat)(T:List (List Nat))(pc:Nat):Prop:=∀q∈nx pc,Sub (n5 (T.getD pc []) (st pc)) (T.getD q.toNat [])
structure ClT (k n:Nat)(nx:Nat→List Int)(st:Nat→List Nat)(T:List (List Nat)):Prop where
 tb:Tb k n T
 id:Sub (dhN k 0) (T.getD 0 [])
 at':∀pc,pc<n→ClAt nx st T pc
noncomputable def hY (k n:Nat)(nx:Nat→List Int)(st:Nat→List Nat):List (List Nat):=(List.range n).map fun pc=>xJ k (Way k nx st pc)
structure Pro (k n:Nat)(nx:Nat→List Int)(st:Nat→List Nat):Prop where
 pos:0<n
 nx:∀pc,pc<n→∀q∈nx pc,0≤q∧q<n
 st:∀pc,pc<n→Rl k (st pc)
variable {nx:Nat→List Int}{st:Nat→List Nat}{pc:Nat}
theorem Way.lt (p:Pro k n nx st)(w:Way k nx st pc d e):pc<n∧d≤k∧e≤k:=by
 induction w with
 | start h=>exact ⟨p.pos,h,h⟩
 | step w hb hq ih=>
  have h1:=p.nx _ ih.1 _ hq;exact ⟨by omega,ih.2.1,(LN (p.st _ ih.1) hb).2⟩
theorem LP (hp:pc<n):(hY k n nx st).getD pc []=xJ k (Way k nx st pc):=by simp[hY,List.getD,hp]
theorem rJ (k n:Nat)(nx:Nat→List Int)(st:Nat→List Nat):Tb k n (hY k n nx st):=by refine ⟨by simp[hY],fun r hr=>?_⟩;obtain ⟨pc,_,rfl⟩:=List.mem_map.1 hr;exact rI _ _
theorem mO (p:Pro k n nx st)(hp:pc<n):bt ((hY k n nx st).getD pc []) d e=true↔Way k nx st pc d e:=by rw[LP hp,uY];exact ⟨fun h=>h.2.2,fun h=>⟨(h.lt p).2.1,(h.lt p).2.2,h⟩⟩
theorem BW (p:Pro k n nx st):ClT k n nx st (hY k n nx st):=by
 have tb:=rJ k n nx st;refine ⟨tb,fun d e h=>?_,fun pc hp q hq d e h=>?_⟩
 ·obtain ⟨h1,h2,h3⟩:=Et.1 h;have:d=e:=by omega
  subst this;exact (mO p p.pos).2 (.start h1)
 ·obtain ⟨f,h1,h2⟩:=(oP (tb.get hp) (p.st pc hp)).1 h;have h3:=p.nx pc hp q hq;exact (mO p (by omega)).2 (.step ((mO p hp).1 h1) h2 hq)
theorem ClT.way (p:Pro k n nx st)(c:ClT k n nx st T)(w:Way k nx st pc d e):bt (T.getD pc []) d e=true:=by
 induction w with
 | start h=>exact c.id _ _ (Et.2 ⟨h,h,by omega⟩)
 | step w hb hq ih=>
  have h1:=(w.lt p).1;exact c.at' _ h1 _ hq _ _ ((oP (c.tb.get h1) (p.st _ h1)).2 ⟨_,ih,hb⟩)
theorem ClT.least (p:Pro k n nx st)(c:ClT k n nx st T):uZ (hY k n nx st) T:=
 xK (rJ k n nx st) fun i hi d e h=>c.way p ((mO p hi).1 h)
theorem ClT.eq (p:Pro k n nx st)(c:ClT k n nx st T)(h:uZ T (hY k n nx st)):T=hY k n nx st:=
 uZ.Er c.tb (rJ k n nx st) h (c.least p)
theorem Way.mono {st':Nat→List Nat}(h:∀pc,Sub (st pc) (st' pc))(w:Way k nx st pc d e):Way k nx st' pc d e:=by
 induction w with
 | start h=>exact .start h
 | step w hb hq ih=>exact .step ih (h _ _ _ hb) hq
theorem UO {k n:Nat}{A B:List (List Nat)}(ha:Tb k n A)(hb:Tb k n B)(h:uZ A B):tot A≤tot B∧(A≠B→tot A<tot B):=by
 have e:∀T:List (List Nat),∀d,(T.map List.sum).getD d 0=(T.getD d []).sum:=fun T d=>xL;have h1:∀d,(A.map List.sum).getD d 0≤(B.map List.sum).getD d 0:=fun d=>by
  rw[e,e];by_cases hd:d<n
  ·exact (W2 (ha.get hd) (hb.get hd) (h d)).1
  ·rw[List.getD_eq_getElem?_getD,List.getElem?_eq_none (by rw[ha.1];omega)];simp
 obtain ⟨h2,h3⟩:=F8 (a:=A.map List.sum) (b:=B.map List.sum) (by simp[ha.1,hb.1]) h1;refine ⟨h2,fun hne=>h3 fun he=>hne ?_⟩;refine uZ.Er ha hb h (xK hb fun i hi=>?_);have h4:=congrArg (fun l=>l.getD i 0) he;simp only[e]at h4;by_cases h5:A.getD i []=B.getD i []
 ·rw[h5];exact Sub.refl _
 ·have:=(W2 (ha.get hi) (hb.get hi) (h i)).2 h5;omega
section
variable (u:Un)(c:Clo)(m:Nat)
def kM:Nat:=nD (u.c4.getD m aA)
def itI (i:Nat):aO:=c.insts.getD i n8
def eV (i pc:Nat):Ins:=(c8 u (itI c i)).getD pc g0
def r9 (i:Nat):Nat:=(c8 u (itI c i)).length
def gZ (i pc:Nat):Nat:=((c.calls.getD i []).getD pc 0).toNat
def nxI (i pc:Nat):List Int:=o3 (eV u c i pc) pc
def stS (S:List (List Nat))(i pc:Nat):List Nat:=if (eV u c i pc).op=2 then S.getD (gZ c i pc) [] else dhN (kM u m) (chI (itI c i) (eV u c i pc) m)
noncomputable def bV (S:List (List Nat))(i:Nat):List (List Nat):=hY (kM u m) (r9 u c i) (nxI u c i) (stS u c m S i)
noncomputable def yK (i:Nat)(T:List (List Nat))(j:Nat):List Nat:=xJ (kM u m) fun d e=>∃pc,pc<j∧(eV u c i pc).op=8∧bt (T.getD pc []) d e=true
noncomputable def exT (S:List (List Nat))(i:Nat):List Nat:=yK u c m i (bV u c m S i) (r9 u c i)
noncomputable def zJ (S:List (List Nat)):List (List Nat):=(List.range c.insts.length).map fun i=>exT u c m S i
def F9:List (List Nat):=List.replicate c.insts.length (List.replicate (kM u m+1) 0)
inductive Inn:Nat→Nat→Nat→Nat→Prop
 | start {i d:Nat}:d≤kM u m→Inn i 0 d d
 | step {i pc d e f:Nat} {q:Int}:Inn i pc d e→(eV u c i pc).op≠2→bt (dhN (kM u m) (chI (itI c i) (eV u c i pc) m)) e f=true→q∈nxI u c i pc→Inn i q.toNat d f
 | call {i pc d e f p:Nat} {q:Int}:Inn i pc d e→(eV u c i pc).op=2→Inn (gZ c i pc) p e f→(eV u c (gZ c i pc) p).op=8→q∈nxI u c i pc→Inn i q.toNat d f
noncomputable def z9:List (List Nat):=(List.range c.insts.length).map fun i=>xJ (kM u m) fun d e=>∃pc,pc<r9 u c i∧(eV u c i pc).op=8∧Inn u c m i pc d e
end
section
variable {u:Un}{c:Clo}{m:Nat}
theorem dV:kM u m≤8:=V8
variable {i:Nat}
theorem gE (wc:WC u c)(hi:i<c.insts.length):WIt u (itI c i):=wc.wi _ (j0 hi)
variable {pc:Nat}
theorem mP (hu:WU u)(wc:WC u c)(hi:i<c.insts.length)(hp:pc<r9 u c i)(ho:(eV u c i pc).op=2):gZ c i pc<c.insts.length:=by have h1:=((wc.call i hi pc hp).1 (.inl ho));unfold gZ;omega
variable {S:List (List Nat)}
theorem OV (hu:WU u)(wc:WC u c)(hS:Tb (kM u m) c.insts.length S)(hi:i<c.insts.length):Pro (kM u m) (r9 u c i) (nxI u c i) (stS u c m S i):=by
 have w:=gE wc hi;refine ⟨(dU hu w).1,fun pc hp q hq=>?_,fun pc hp=>?_⟩
 ·obtain ⟨d,hd,rfl⟩:=List.getElem_of_mem hq;have h:=next_in hu w hp d hd;have e:(o3 ((c8 u (itI c i)).getD pc g0) pc).getD d 0=(nxI u c i pc)[d]:=by show (nxI u c i pc).getD d 0=_;simp[List.getD,hd]
  rw[←e];exact h
 ·unfold stS;split
  ·rename_i ho;exact hS.get (mP hu wc hi hp ho)
  ·exact rl_dh _ _
theorem nW (S:List (List Nat))(i:Nat):Tb (kM u m) (r9 u c i) (bV u c m S i):=rJ _ _ _ _
variable {T:List (List Nat)}{j d e:Nat}
theorem W3 (hT:Tb (kM u m) (r9 u c i) T)(hj:j≤r9 u c i):bt (yK u c m i T j) d e=true↔∃pc,pc<j∧(eV u c i pc).op=8∧bt (T.getD pc []) d e=true:=by rw[yK,uY];refine ⟨fun h=>h.2.2,fun h=>?_⟩;obtain ⟨pc,h1,h2,h3⟩:=h;have:=LN (hT.get (i:=pc) (by omega)) h3;exact ⟨this.1,this.2,pc,h1,h2,h3⟩
theorem pP (i:Nat)(T:List (List Nat))(j:Nat):Rl (kM u m) (yK u c m i T j):=rI _ _
theorem O7 (i:Nat)(T:List (List Nat)):yK u c m i T 0=List.replicate (kM u m+1) 0:=
 LO (rI _ _) (W0 _) fun d e=>by
  rw[F7,yK,uY];constructor
  ·rintro ⟨_,_,pc,h,_⟩;omega
  ·intro h;cases h
theorem BX (hT:Tb (kM u m) (r9 u c i) T)(hj:j<r9 u c i)(ho:(eV u c i j).op=8):yK u c m i T (j+1)=bG (yK u c m i T j) (T.getD j []):=
 LO (pP i T (j+1)) (uX (pP i T j) (hT.get hj)) fun d e=>by
  rw[uW (pP i T j) (hT.get hj),W3 hT hj,W3 hT (Nat.le_of_lt hj)];constructor
  ·rintro ⟨pc,h1,h2,h3⟩;by_cases e:pc=j
   ·subst e;exact .inr h3
   ·exact .inl ⟨pc,by omega,h2,h3⟩
  ·rintro (⟨pc,h1,h2,h3⟩ | h)
   ·exact ⟨pc,by omega,h2,h3⟩
   ·exact ⟨j,by omega,ho,h⟩
theorem LQ (ho:¬(eV u c i j).op=8):yK u c m i T (j+1)=yK u c m i T j:=by
 unfold yK;refine congrArg (xJ _) (funext fun d=>funext fun e=>propext ?_);constructor
 ·rintro ⟨pc,h1,h2,h3⟩;refine ⟨pc,?_,h2,h3⟩;by_cases e:pc=j
  ·subst e;exact absurd h2 ho
  ·omega
 ·rintro ⟨pc,h1,h2,h3⟩;exact ⟨pc,by omega,h2,h3⟩
theorem YH (S:List (List Nat))(i:Nat):Rl (kM u m) (exT u c m S i):=rI _ _
theorem xM (hu:WU u)(wc:WC u c)(hS:Tb (kM u m) c.insts.length S)(hi:i<c.insts.length):bt (exT u c m S i) d e=true↔∃pc,pc<r9 u c i∧(eV u c i pc).op=8∧Way (kM u m) (nxI u c i) (stS u c m S i) pc d e:=by
 rw[exT,W3 (nW S i) (Nat.le_refl _)];constructor
 ·rintro ⟨pc,h1,h2,h3⟩;exact ⟨pc,h1,h2,(mO (OV hu wc hS hi) h1).1 h3⟩
 ·rintro ⟨pc,h1,h2,h3⟩;exact ⟨pc,h1,h2,(mO (OV hu wc hS hi) h1).2 h3⟩
theorem UP {S':List (List Nat)}(h:uZ S S')(i pc:Nat):Sub (stS u c m S i pc) (stS u c m S' i pc):=by
 unfold stS;split
 ·exact h _
 ·exact Sub.refl _
theorem BY (hu:WU u)(wc:WC u c){S':List (List Nat)}(hS:Tb (kM u m) c.insts.length S)(hS':Tb (kM u m) c.insts.length S')(h:uZ S S')(hi:i<c.insts.length):Sub (exT u c m S i) (exT u c m S' i):=fun d e hb=>by obtain ⟨pc,h1,h2,h3⟩:=(xM hu wc hS hi).1 hb;exact (xM hu wc hS' hi).2 ⟨pc,h1,h2,h3.mono fun pc=>UP h i pc⟩
theorem lB (S:List (List Nat)):Tb (kM u m) c.insts.length (zJ u c m S):=by refine ⟨by simp[zJ],fun r hr=>?_⟩;obtain ⟨i,_,rfl⟩:=List.mem_map.1 hr;exact YH S i
theorem vA (hi:i<c.insts.length):(zJ u c m S).getD i []=exT u c m S i:=by simp[zJ,List.getD,hi]
theorem UQ:Tb (kM u m) c.insts.length (F9 u c m):=⟨by simp[F9],fun r hr=>by rw[List.eq_of_mem_replicate hr];exact W0 _⟩
theorem zero_sub {b:List Nat}:Sub ((F9 u c m).getD i []) b:=fun d e h=>by
 have:bt ((F9 u c m).getD i []) d e=false:=by
  unfold F9;rw[List.getD_eq_getElem?_getD,List.getElem?_replicate];split
  ·exact F7
  ·simp[bt]
 rw[this]at h;cases h
theorem LR:uZ (F9 u c m) S:=fun i=>zero_sub
theorem dC:Tb (kM u m) c.insts.length (z9 u c m):=by refine ⟨by simp[z9],fun r hr=>?_⟩;obtain ⟨i,_,rfl⟩:=List.mem_map.1 hr;exact rI _ _
theorem UR (hi:i<c.insts.length):(z9 u c m).getD i []=xJ (kM u m) fun d e=>∃pc,pc<r9 u c i∧(eV u c i pc).op=8∧Inn u c m i pc d e:=by simp[z9,List.getD,hi]
theorem Inn.lt (hu:WU u)(wc:WC u c)(h:Inn u c m i pc d e):i<c.insts.length→pc<r9 u c i∧d≤kM u m∧e≤kM u m:=by
 induction h with
 | start h=>exact fun hi=>⟨(dU hu (gE wc hi)).1,h,h⟩
 | step h ho hb hq ih=>
  intro hi;have h1:=ih hi;have p:=OV hu wc (S:=z9 u c m) dC hi;have h2:=p.nx _ h1.1 _ hq;exact ⟨by omega,h1.2.1,(Et.1 hb).2.1⟩
 | call h ho h2 ho2 hq ih ih2=>
  intro hi;have h1:=ih hi;have p:=OV hu wc (S:=z9 u c m) dC hi;have h3:=p.nx _ h1.1 _ hq;exact ⟨by omega,h1.2.1,(ih2 (mP hu wc hi h1.1 ho)).2.2⟩
theorem xN (hu:WU u)(wc:WC u c)(hi:i<c.insts.length):bt ((z9 u c m).getD i []) d e=true↔∃pc,pc<r9 u c i∧(eV u c i pc).op=8∧Inn u c m i pc d e:=by rw[UR hi,uY];refine ⟨fun h=>h.2.2,fun ⟨pc,h1,h2,h3⟩=>?_⟩;have:=h3.lt hu wc hi;exact ⟨this.2.1,this.2.2,pc,h1,h2,h3⟩
theorem W4 (hu:WU u)(wc:WC u c)(hi:i<c.insts.length)(w:Way (kM u m) (nxI u c i) (stS u c m (z9 u c m) i) pc d e):Inn u c m i pc d e:=by
 induction w with
 | start h=>exact .start h
 | step w hb hq ih=>
  have h1:=(ih.lt hu wc hi).1;unfold stS at hb;split at hb
  ·rename_i ho;obtain ⟨p,h2,h3,h4⟩:=(xN hu wc (mP hu wc hi h1 ho)).1 hb;exact .call ih ho h4 h3 hq
  ·rename_i ho;exact .step ih ho hb hq
theorem W5 (hu:WU u)(wc:WC u c)(hS:Tb (kM u m) c.insts.length S)(hc:∀i,i<c.insts.length→Sub (exT u c m S i) (S.getD i []))(h:Inn u c m i pc d e):i<c.insts.length→Way (kM u m) (nxI u c i) (stS u c m S i) pc d e:=by
 induction h with
 | start h=>exact fun _=>.start h
 | step h ho hb hq ih=>
  intro hi;exact .step (ih hi) (by unfold stS;rw[if_neg ho];exact hb) hq
 | call h ho h2 ho2 hq ih ih2=>
  intro hi;have h1:=(h.lt hu wc hi).1;have hj:=mP hu wc hi h1 ho;exact .step (ih hi) (by unfold stS;rw[if_pos ho];exact hc _ hj _ _ ((xM hu wc hS hj).2 ⟨_,(h2.lt hu wc hj).1,ho2,ih2 hj⟩)) hq
theorem LS (hu:WU u)(wc:WC u c)(hi:i<c.insts.length):exT u c m (z9 u c m) i=(z9 u c m).getD i []:=by
 have h1:Sub (exT u c m (z9 u c m) i) ((z9 u c m).getD i []):=fun d e hb=>by obtain ⟨pc,h1,h2,h3⟩:=(xM hu wc dC hi).1 hb;exact (xN hu wc hi).2 ⟨pc,h1,h2,W4 hu wc hi h3⟩
 refine Sub.Er (YH _ _) (dC.get hi) h1 fun d e hb=>?_;obtain ⟨pc,h2,h3,h4⟩:=(xN hu wc hi).1 hb;refine (xM hu wc dC hi).2 ⟨pc,h2,h3,W5 hu wc dC (fun j hj d e hb=>?_) h4 hi⟩;obtain ⟨pc,h1,h2,h3⟩:=(xM hu wc dC hj).1 hb;exact (xN hu wc hj).2 ⟨pc,h1,h2,W4 hu wc hj h3⟩
theorem LU (hu:WU u)(wc:WC u c)(hS:Tb (kM u m) c.insts.length S)(hc:∀i,i<c.insts.length→Sub (exT u c m S i) (S.getD i [])):uZ (z9 u c m) S:=
 xK dC fun i hi d e hb=>by obtain ⟨pc,h2,h3,h4⟩:=(xN hu wc hi).1 hb;exact hc i hi _ _ ((xM hu wc hS hi).2 ⟨pc,h2,h3,W5 hu wc hS hc h4 hi⟩)
theorem sum_eq (hu:WU u)(wc:WC u c)(hS:Tb (kM u m) c.insts.length S)(hs:uZ S (z9 u c m))(hc:∀i,i<c.insts.length→exT u c m S i=S.getD i []):S=z9 u c m:=
 uZ.Er hS dC hs (LU hu wc hS fun i hi=>by rw[hc i hi];exact Sub.refl _)
theorem W6 (hu:WU u)(wc:WC u c)(hS:Tb (kM u m) c.insts.length S)(hs:uZ S (z9 u c m))(hi:i<c.insts.length):Sub (exT u c m S i) ((z9 u c m).getD i []):=by rw[←LS hu wc hi];exact BY hu wc hS dC hs hi
theorem O8 (hu:WU u)(wc:WC u c)(hS:Tb (kM u m) c.insts.length S)(hs:uZ S (z9 u c m)):uZ (zJ u c m S) (z9 u c m):=
 xK (lB S) fun i hi=>by rw[vA hi];exact W6 hu wc hS hs hi
structure Low (u:Un)(c:Clo)(m:Nat)(S:List (List Nat)):Prop where
 tb:Tb (kM u m) c.insts.length S
 up:∀i,i<c.insts.length→Sub (S.getD i []) (exT u c m S i)
 le:uZ S (z9 u c m)
theorem Low.zero:Low u c m (F9 u c m):=⟨UQ,fun i _=>zero_sub,LR⟩
theorem Low.round (hu:WU u)(wc:WC u c)(h:Low u c m S):Low u c m (zJ u c m S)∧uZ S (zJ u c m S):=by
 have hs:uZ S (zJ u c m S):=xK h.tb fun i hi=>by rw[vA hi];exact h.up i hi
 exact ⟨⟨lB S,fun i hi=>by rw[vA hi];exact BY hu wc h.tb (lB S) hs hi,O8 hu wc h.tb h.le⟩,hs⟩
theorem Low.done (hu:WU u)(wc:WC u c)(h:Low u c m S)(he:zJ u c m S=S):S=z9 u c m:=
 sum_eq hu wc h.tb h.le fun i hi=>by rw[←vA hi,he]
end
theorem LV {k:Nat}{r:List Nat}(hr:Rl k r){s j:Nat}:(applyN r s).testBit j=true↔∃d,s.testBit d=true∧bt r d j=true:=by
 rw[zH];constructor
 ·rintro ⟨d,_,h1,h2⟩;exact ⟨d,h1,h2⟩
 ·rintro ⟨d,h1,h2⟩;exact ⟨d,by have:=(LN hr h2).1;have:=hr.1;omega,h1,h2⟩
theorem mQ {k:Nat}{r:List Nat}(hr:Rl k r)(s:Nat):applyN r s<2^(k+1):=rH hr.2 s _
section
variable (u:Un)(c:Clo)(m:Nat)
inductive Ey:Nat→Nat→Prop
 | root {i:Nat}:(i:Int)∈c.roots→Ey i 0
 | call {i pc d e:Nat}:Ey i d→Inn u c m i pc d e→(eV u c i pc).op=2→Ey (gZ c i pc) e
noncomputable def gR:List Nat:=(List.range c.insts.length).map fun i=>pA (Ey u c m i) (kM u m+1)
noncomputable def inS (i:Nat):List (List Nat):=bV u c m (z9 u c m) i
def Es (E:List Nat):Prop:=E.length=c.insts.length∧∀x∈E,x<2^(kM u m+1)
def ClE (E:List Nat)(i pc:Nat):Prop:=(eV u c i pc).op=2→∀j,(applyN ((inS u c m i).getD pc []) (E.getD i 0)).testBit j=true→bt E (gZ c i pc) j=true
end
section
variable {u:Un}{c:Clo}{m:Nat}
variable {E:List Nat}
theorem Es.lt (h:Es u c m E):∀x∈E,x<512:=fun x hx=>Nat.lt_of_lt_of_le (h.2 x hx) (nU dV).2
theorem Es.get (h:Es u c m E)(i:Nat):E.getD i 0<2^(kM u m+1):=rG h.2 i
variable {i x:Nat}
theorem Es.set (h:Es u c m E)(hx:x<2^(kM u m+1)):Es u c m (E.set i x):=by
 refine ⟨by rw[List.length_set];exact h.1,fun y hy=>?_⟩;rcases List.mem_or_eq_of_mem_set hy with hy | rfl
 ·exact h.2 y hy
 ·exact hx
theorem Es.zero:Es u c m (List.replicate c.insts.length 0):=⟨by simp,fun x hx=>by rw[List.eq_of_mem_replicate hx];exact Nat.two_pow_pos _⟩
theorem W7:Es u c m (gR u c m):=by refine ⟨by simp[gR],fun r hr=>?_⟩;obtain ⟨i,_,rfl⟩:=List.mem_map.1 hr;exact xI _
variable {d:Nat}
theorem Ey.lt (hu:WU u)(wc:WC u c)(h:Ey u c m i d):i<c.insts.length∧d≤kM u m:=by
 induction h with
 | root h=>have:=wc.rr _ h;exact ⟨by omega,Nat.zero_le _⟩
 | call h h2 ho ih=>have h3:=h2.lt hu wc ih.1;exact ⟨mP hu wc ih.1 h3.1 ho,h3.2.2⟩
theorem G0 (hu:WU u)(wc:WC u c):bt (gR u c m) i d=true↔Ey u c m i d:=by
 unfold bt;by_cases hi:i<c.insts.length
 ·rw[gR,oO hi,sM];exact ⟨fun h=>h.2,fun h=>⟨by have:=(h.lt hu wc).2;omega,h⟩⟩
 ·rw[List.getD_eq_getElem?_getD,List.getElem?_eq_none (by simp[gR];omega)];constructor
  ·intro h;simp at h
  ·intro h;exact absurd (h.lt hu wc).1 hi
theorem LW (i:Nat):Tb (kM u m) (r9 u c i) (inS u c m i):=nW _ _
variable {e:Nat}
theorem YI (hu:WU u)(wc:WC u c){pc:Nat}(hi:i<c.insts.length)(hp:pc<r9 u c i):bt ((inS u c m i).getD pc []) d e=true↔Inn u c m i pc d e:=by unfold inS bV;rw[mO (OV hu wc dC hi) hp];refine ⟨W4 hu wc hi,fun h=>W5 hu wc dC (fun j hj=>?_) h hi⟩;rw[LS hu wc hj];exact Sub.refl _
theorem LY (hu:WU u)(wc:WC u c){pc:Nat}(hi:i<c.insts.length)(hp:pc<r9 u c i):(applyN ((inS u c m i).getD pc []) (E.getD i 0)).testBit e=true↔∃d,bt E i d=true∧Inn u c m i pc d e:=by
 rw[LV ((LW i).get hp)];constructor
 ·rintro ⟨d,h1,h2⟩;exact ⟨d,h1,(YI hu wc hi hp).1 h2⟩
 ·rintro ⟨d,h1,h2⟩;exact ⟨d,h1,(YI hu wc hi hp).2 h2⟩
theorem LZ (hu:WU u)(wc:WC u c)(hr:∀i:Nat,(i:Int)∈c.roots→bt E i 0=true)(hc:∀i pc,i<c.insts.length→pc<r9 u c i→ClE u c m E i pc):Sub (gR u c m) E:=fun i d h=>by
 have h1:=(G0 hu wc).1 h;clear h;induction h1 with
 | root h=>exact hr _ h
 | call h h2 ho ih=>
  have hi:=(h.lt hu wc).1;have hp:=(h2.lt hu wc hi).1;exact hc _ _ hi hp ho _ ((LY hu wc hi hp).2 ⟨_,ih,h2⟩)
theorem es_anti {F:List Nat}(he:Es u c m E)(hf:Es u c m F)(h1:Sub E F)(h2:Sub F E):E=F:=by refine List.ext_getElem (by rw[he.1,hf.1]) fun d k1 k2=>?_;have:=F6 (a:=E.getD d 0) (b:=F.getD d 0) fun j=>⟨h1 d j,h2 d j⟩;simpa [List.getD,k1,k2] using this
theorem ent_eq (hu:WU u)(wc:WC u c)(he:Es u c m E)(hs:Sub E (gR u c m))(hr:∀i:Nat,(i:Int)∈c.roots→bt E i 0=true)(hc:∀i pc,i<c.insts.length→pc<r9 u c i→ClE u c m E i pc):E=gR u c m:=
 es_anti he W7 hs (LZ hu wc hr hc)
theorem BZ {j:Nat}(hi:i<E.length):bt (E.set i x) j e=if j=i then x.testBit e else bt E j e:=by
 unfold bt;simp only[List.getD_eq_getElem?_getD];by_cases h:j=i
 ·subst h;simp[hi]
 ·rw[List.getElem?_set_ne (Ne.symm h),if_neg h]
theorem YJ (h:Es u c m E):E.sum≤512*c.insts.length:=by rw[←h.1];exact oQ fun x hx=>Nat.le_of_lt (h.lt x hx)
theorem US (hi:i<E.length)(hs:∀j,bt E i j=true→x.testBit j=true)(hne:E.getD i 0≠x):E.sum<(E.set i x).sum:=by have h1:=pO (l:=E) (i:=i) (x:=x) hi;have h2:E.getD i 0≤x:=zI hs;omega
end
end Go.Un
end
section
namespace Go.Proofs.YtonbocmibeikmaaGreat
open Go.Ab Go.Un
theorem MA (l:List Nat):l.map l5=g8 (l.map fun n:Nat=>(n:Int)):=by simp[g8,l5,Function.comp_def]
theorem MB (l:List Nat):bH l=.vec (l.map fun n:Nat=>(n:Int)).length (g8 (l.map fun n:Nat=>(n:Int))):=by simp[bH,MA]
variable {n len:Nat}
theorem CA {β g:Nat}{H:c6}{a:List Nat}(hb:H[β]?=some ⟨g,false,3,1,a.map l5,0⟩)(hn:n≤β)(hl:a.length=len):jQ n H 6 (.own β g 0 len)=some (.vec len (a.map l5)):=by rw[MA]at hb ⊢;exact O5 hb hn t189
def UpN (v:Nat→Nat)(i:Nat)(zs:List Nat):Prop:=(∀d,d<i→zs.getD d 0=v d)∧(∀d,i≤d→zs.getD d 0=0)
theorem UpN.zero (v:Nat→Nat)(n:Nat):UpN v 0 (List.replicate n 0):=by refine ⟨fun d hd=>by omega,fun d _=>?_⟩;rw[List.getD_eq_getElem?_getD,List.getElem?_replicate];split<;>rfl
variable {v:Nat→Nat}{zs:List Nat}{i:Nat}
theorem UpN.set {x:Nat}(hi:i<zs.length)(h:UpN v i zs)(hx:x=v i):UpN v (i+1) (zs.set i x):=by
  refine ⟨fun d hd=>?_,fun d hd=>?_⟩
  · by_cases e:d=i
    · subst e;simp[List.getD,hi,hx]
    · have:=h.1 d (by omega)
      simp only[List.getD_eq_getElem?_getD,List.getElem?_set_ne (Ne.symm e)]at this ⊢;exact this
  · have:=h.2 d (by omega)
    simp only[List.getD_eq_getElem?_getD,List.getElem?_set_ne (show i≠d from by omega)]at this ⊢;exact this
theorem UpN.all2 (h:UpN v i zs)(hl:zs.length=n)(hi:∀d,i≤d→d<n→v d=0):zs=(List.range n).map v:=by
  refine List.ext_getElem (by simp[hl]) fun d k1 k2=>?_;by_cases hd:d<i
  · have:=h.1 d hd
    simp;simpa [List.getD,k1] using this
  · have:=h.2 d (by omega)
    have e:=hi d (by omega) (by omega);simp[e];simpa [List.getD,k1] using this
theorem UpN.all (h:UpN v i zs)(hl:zs.length=n)(hi:n≤i):zs=(List.range n).map v:=h.all2 hl fun d h1 h2=>by omega
theorem O9 (k:Nat)(n:Int):AV.vec (shI k n).length (g8 (shI k n))=bH (dhN k n):=by
  have:shI k n=(dhN k n).map fun n:Nat=>(n:Int):=by unfold shI dhN;rw[List.map_map];refine List.map_congr_left fun d _=>?_;unfold shV dhV;simp only[Function.comp_apply];split<;>simp
  rw[MB,this]
def aL (T:List (List Nat)):List AV:=T.map bH
variable {T:List (List Nat)}
theorem o5:(aL T).length=T.length:=List.length_map _
theorem nX (h:i<T.length):List.take 1 (List.drop i (aL T))=[bH (T.getD i [])]:=by unfold aL;rw[←List.map_drop,←List.map_take,List.drop_eq_getElem_cons h,List.take_succ_cons,List.take_zero];simp[List.getD,h]
theorem overT {r:List Nat}(h:i<T.length):List.take i (aL T)++bH r::List.drop (i+1) (aL T)=aL (T.set i r):=by unfold aL;rw[←List.map_drop,←List.map_take,List.set_eq_take_append_cons_drop,if_pos h];simp
theorem ext_T {a b:List (List Nat)}(hl:a.length=b.length)(h:∀d,d<a.length→a.getD d []=b.getD d []):a=b:=by refine List.ext_getElem hl fun d k1 k2=>?_;have:=h d k1;simpa [List.getD,k1,k2] using this
theorem CC (l:List Nat):z7 (l.map l5):=z7.map fun _=>.int
theorem plnT (T:List (List Nat)):z7 (aL T):=z7.map fun _=>.vec
theorem frz_T {β g:Nat}{H:c6}{a:List (List Nat)}(hb:H[β]?=some ⟨g,false,22,1,aL a,0⟩)(hn:n≤β)(hl:a.length=len):jQ n H 6 (.own β g 0 len)=some (.vec len (aL a)):=by subst hl;rw[dW,if_neg (by omega),eN,hb];simp only[hn,and_self,if_true,Bool.false_eq_true,if_false,Nat.zero_add,Nat.mul_one,o5,Nat.le_refl,List.drop_zero];rw[List.take_of_length_le (by rw[o5];exact Nat.le_refl _),(plnT a).frz]
theorem UT {a b:List Nat}:(a.map (fun n:Nat=>(n:Int))=b.map (fun n:Nat=>(n:Int)))↔a=b:=List.map_inj_right (fun x y h=>by exact_mod_cast h)
variable {h:c6}
theorem G1 (a b:List Nat)(hl:a.length<1000000):CB 31 [bH a,bH b] h (.bool (decide (a=b))):=by rw[MB,MB];refine (XW _ _ t189).mono fun r h' ⟨h1,h2⟩=>⟨h1.trans ?_,h2⟩;exact congrArg AV.bool (decide_eq_decide.2 UT)
theorem yL {k:Nat}(h:k≤8):IntKind.wrap .i64 (1*2^(min (k+1) 64))=((2^(k+1):Nat):Int):=by rw[shl1M (by omega)];simp
attribute [local go_sem] rd bH l8 Int.natCast_nonneg Int.natCast_inj jE lP jF testN hasN orN yL List.length_set List.length_replicate Int.toNat_natCast_add_one eG List.length_map wrap64 D0 max2 gD nX o5
theorem c_in8 (s:Nat)(d:Int)(hs:s<512):CB 52 [.int .i64 ((s:Nat):Int),.int .i64 d] h (.bool (hasD s d)):=by
  refine .bz Tryz.f52 18 ?_;refine c79z ?_;refine .spl 7 rfl rfl (fun e1=>?_) (fun e1=>?_)
  ·try simp only[e1]
   have qe1:=fact e1;refine .k 4 [(2,7)] ?_;refine .spl 11 rfl rfl (fun e2=>?_) (fun e2=>?_)
   ·try simp only[e2]
    have qe2:=fact e2;refine .m [(6,11)] ?_;refine c4z ?_;exact ⟨[],_,(List.append_nil _).symm,t42,t81⟩
   try simp only[e2]
   have qe2:=fact e2;refine .m [(6,11)] ?_;refine c4z ?_;exact ⟨[],_,(List.append_nil _).symm,t42,t81⟩
  try simp only[e1]
  have qe1:=fact e1;refine .k 8 [(2,7),(6,11)] ?_;refine .m [(6,11)] ?_;refine c4z ?_;exact ⟨[],_,(List.append_nil _).symm,t42,t81⟩
theorem c_inN (s i:Nat)(hs:s<512)(hi:i≤8):CB 52 [.int .i64 ((s:Nat):Int),.int .i64 ((i:Nat):Int)] h (.bool (s.testBit i)):=by rw[←hasN hi];exact c_in8 s _ hs
theorem c_appM (r:List Nat)(s:Nat)(hr:∀x∈r,x<512)(hs:s<512)(hl:r.length≤9):CB 68 [bH r,.int .i64 ((s:Nat):Int)] h (.int .i64 ((applyN r s:Nat):Int)):=by
  refine .bz Tryz.f68 25 ?_;refine c49z ?_;refine .aR (fun m st=>∃(i:Nat),(m=r.length-i∧i≤r.length)∧st=⟨mkS 25 [(1,AV.int .i64 ((s:Nat):Int)),(5,AV.int .i64 ((dK r s i:Nat):Int)),(8,bH r),(9,AV.int .i64 ((r.length:Nat):Int)),(10,AV.int .i64 ((i:Nat):Int))],h⟩) _ (.v ⟨0,⟨rfl,by omega⟩,rfl⟩ (hs:=t49)) ?_;rintro m sl h' ⟨i,⟨hm,hi⟩,hst⟩;obtain ⟨rfl,rfl⟩:=St.mk.inj hst;have hacc:=oN hr s i;have hgi:=jB hr i;refine c23z ?_;refine u2z ?_ ?_
  ·intro e1 qe1;refine c3z ?_;refine c75z ?_;refine u2z ?_ ?_
   ·intro e2 qe2;refine .c7 [1,5,7,8,9,10] ?_;refine c67z ?_;exact ⟨_,by omega,.v ⟨(i+1),⟨rfl,by omega⟩,rfl⟩ (hs:=t49)⟩
   intro e2 qe2;refine c5z ?_;refine .c7 [1,5,8,9,10] ?_;refine .rz ?_;exact ⟨_,by omega,.v ⟨(i+1),⟨rfl,by omega⟩,rfl⟩ (hs:=t49)⟩
  intro e1 qe1;refine c63z ?_;exact ⟨[],_,(List.append_nil _).symm,t42,t211⟩
theorem zK (r:List Nat)(s:Nat)(hr:∀x∈r,x<512)(hs:s<512)(hl:r.length≤9):CB 58 [bH r,.int .i64 ((s:Nat):Int)] h (.int .i64 ((applyN r s:Nat):Int)):=by
  refine .bz Tryz.f58 23 ?_;refine c49z ?_;refine .aR (fun m st=>∃(i:Nat),(m=r.length-i∧i≤r.length)∧st=⟨mkS 23 [(0,bH r),(1,AV.int .i64 ((s:Nat):Int)),(5,AV.int .i64 ((dK r s i:Nat):Int)),(6,AV.int .i64 ((i:Nat):Int))],h⟩) _ (.v ⟨0,⟨rfl,by omega⟩,rfl⟩ (hs:=t49)) ?_;rintro m sl h' ⟨i,⟨hm,hi⟩,hst⟩;obtain ⟨rfl,rfl⟩:=St.mk.inj hst;have hacc:=oN hr s i;have hgi:=jB hr i;refine c1z ?_;refine u2z ?_ ?_
  ·intro e1 qe1;refine c3z ?_;refine c17z ?_;refine .ca rfl rfl (c_inN _ _ hs (by omega)) ?_;refine .nil ?_;refine u2z ?_ ?_
   ·intro e2 qe2;refine c2z ?_;refine c89z ?_;exact ⟨_,by omega,.v ⟨(i+1),⟨rfl,by omega⟩,rfl⟩ (hs:=t49)⟩
   intro e2 qe2;refine c5z ?_;refine .rz ?_;exact ⟨_,by omega,.v ⟨(i+1),⟨rfl,by omega⟩,rfl⟩ (hs:=t49)⟩
  intro e1 qe1;refine c63z ?_;exact ⟨[],_,(List.append_nil _).symm,t42,t211⟩
theorem CD (r:List Nat)(s:Nat)(hr:∀x∈r,x<512)(hs:s<512)(hl:r.length≤9):CB 25 [bH r,.int .i64 ((s:Nat):Int)] h (.int .i64 ((applyN r s:Nat):Int)):=by refine .bz Tryz.f25 8 ?_;refine c209z ?_;refine .ca rfl rfl (c_appM _ _ hr hs hl) ?_;refine c105z ?_;exact ⟨[],_,(List.append_nil _).symm,t42,by rfl⟩
theorem YK (a b:List Nat)(hb:∀x∈b,x<512)(hl:b.length≤9)(ha:∀x∈a,x<512)(hla:a.length≤9):CB 145 [bH a,bH b] h (bH (n5 a b)):=by
  refine .bz Tryz.f145 26 ?_;refine c49z ?_;refine .aR (fun m st=>∃(i:Nat) (zs:List Nat),(m=(a.length)-i∧(UpN (fun d=>applyN b (a.getD d 0)) i zs∧zs.length=(a.length)∧i≤(a.length)))∧st=⟨mkS 26 [(1,bH b),(5,AV.own h.length 0 0 (a.length)),(11,bH a),(12,AV.int .i64 ((a.length:Nat):Int)),(13,AV.int .i64 ((i:Nat):Int))],h++[⟨0,false,3,1,zs.map l5,0⟩]⟩) _ (.v ⟨0,(List.replicate (a.length) 0),⟨rfl,⟨UpN.zero _ _,by simp,by omega⟩⟩,rfl⟩) ?_;rintro m sl h' ⟨i,zs,⟨hm,⟨hI,hz,hi⟩⟩,hst⟩;obtain ⟨rfl,rfl⟩:=St.mk.inj hst;have hga:=jB ha i;refine c23z ?_;refine u2z ?_ ?_
  ·intro e1 qe1;refine c131z ?_;refine c186z ?_;refine .ca rfl rfl (CD _ _ hb hga hl) ?_;refine c25z ?_;refine .c7 [1,5,11,12,13] ?_;refine .rz ?_;exact ⟨_,by omega,.v ⟨(i+1),(zs.set i _),⟨rfl,⟨UpN.set (by omega) hI rfl,t100,by omega⟩⟩,rfl⟩⟩
  intro e1 qe1;refine c63z ?_;exact ⟨_,_,rfl,CA t156 (Nat.le_refl _) hz,t202⟩
theorem W8 (a b:List Nat)(hb:∀x∈b,x<512)(hl:b.length≤9)(ha:∀x∈a,x<512)(hla:a.length≤9):CB 81 [bH a,bH b] h (bH (n5 a b)):=by
  refine .bz Tryz.f81 26 ?_;refine c49z ?_;refine .aR (fun m st=>∃(i:Nat) (zs:List Nat),(m=(a.length)-i∧(UpN (fun d=>applyN b (a.getD d 0)) i zs∧zs.length=(a.length)∧i≤(a.length)))∧st=⟨mkS 26 [(0,bH a),(1,bH b),(5,AV.own h.length 0 0 (a.length)),(6,AV.int .i64 ((i:Nat):Int))],h++[⟨0,false,3,1,zs.map l5,0⟩]⟩) _ (.v ⟨0,(List.replicate (a.length) 0),⟨rfl,⟨UpN.zero _ _,by simp,by omega⟩⟩,rfl⟩) ?_;rintro m sl h' ⟨i,zs,⟨hm,⟨hI,hz,hi⟩⟩,hst⟩;obtain ⟨rfl,rfl⟩:=St.mk.inj hst;have hga:=jB ha i;refine c1z ?_;refine u2z ?_ ?_
  ·intro e1 qe1;refine c3z ?_;refine .r ?_;refine .e 7 ?_;refine .ca rfl rfl (zK _ _ hb hga hl) ?_;refine c25z ?_;refine c89z ?_;exact ⟨_,by omega,.v ⟨(i+1),(zs.set i _),⟨rfl,⟨UpN.set (by omega) hI rfl,t100,by omega⟩⟩,rfl⟩⟩
  intro e1 qe1;refine c63z ?_;exact ⟨_,_,rfl,CA t156 (Nat.le_refl _) hz,t202⟩
theorem c_union (a b:List Nat)(hb:∀x∈b,x<512)(ha:∀x∈a,x<512)(hla:a.length≤9)(hab:b.length=a.length):CB 105 [bH a,bH b] h (bH (bG a b)):=by
  refine .bz Tryz.f105 29 ?_;refine c49z ?_;refine .aR (fun m st=>∃(i:Nat) (zs:List Nat),(m=(a.length)-i∧(UpN (fun d=>a.getD d 0|||b.getD d 0) i zs∧zs.length=(a.length)∧i≤(a.length)))∧st=⟨mkS 29 [(0,bH a),(1,bH b),(5,AV.own h.length 0 0 (a.length)),(11,AV.int .i64 ((a.length:Nat):Int)),(12,AV.int .i64 ((i:Nat):Int))],h++[⟨0,false,3,1,zs.map l5,0⟩]⟩) _ (.v ⟨0,(List.replicate (a.length) 0),⟨rfl,⟨UpN.zero _ _,by simp,by omega⟩⟩,rfl⟩) ?_;rintro m sl h' ⟨i,zs,⟨hm,⟨hI,hz,hi⟩⟩,hst⟩;obtain ⟨rfl,rfl⟩:=St.mk.inj hst;have hga:=jB ha i;have hgb:=jB hb i;refine c23z ?_;refine u2z ?_ ?_
  ·intro e1 qe1;refine c131z ?_;refine c146z ?_;change c9 ..;refine c241z ?_;exact ⟨_,by omega,.v ⟨(i+1),(zs.set i _),⟨rfl,⟨UpN.set (by omega) hI rfl,t100,by omega⟩⟩,rfl⟩⟩
  intro e1 qe1;refine c63z ?_;exact ⟨_,_,rfl,CA t156 (Nat.le_refl _) hz,t206⟩
theorem vB (a b:List Nat)(hb:∀x∈b,x<512)(ha:∀x∈a,x<512)(hla:a.length≤9)(hab:b.length=a.length):CB 78 [bH a,bH b] h (bH (bG a b)):=by
  refine .bz Tryz.f78 29 ?_;refine c49z ?_;refine .aR (fun m st=>∃(i:Nat) (zs:List Nat),(m=(a.length)-i∧(UpN (fun d=>a.getD d 0|||b.getD d 0) i zs∧zs.length=(a.length)∧i≤(a.length)))∧st=⟨mkS 29 [(0,bH a),(1,bH b),(5,AV.own h.length 0 0 (a.length)),(6,AV.int .i64 ((i:Nat):Int))],h++[⟨0,false,3,1,zs.map l5,0⟩]⟩) _ (.v ⟨0,(List.replicate (a.length) 0),⟨rfl,⟨UpN.zero _ _,by simp,by omega⟩⟩,rfl⟩) ?_;rintro m sl h' ⟨i,zs,⟨hm,⟨hI,hz,hi⟩⟩,hst⟩;obtain ⟨rfl,rfl⟩:=St.mk.inj hst;have hga:=jB ha i;have hgb:=jB hb i;refine c1z ?_;refine u2z ?_ ?_
  ·intro e1 qe1;refine c3z ?_;refine c146z ?_;change c9 ..;refine c89z ?_;exact ⟨_,by omega,.v ⟨(i+1),(zs.set i _),⟨rfl,⟨UpN.set (by omega) hI rfl,t100,by omega⟩⟩,rfl⟩⟩
  intro e1 qe1;refine c63z ?_;exact ⟨_,_,rfl,CA t156 (Nat.le_refl _) hz,t206⟩
theorem P0 (a b:List Nat)(hla:a.length≤9)(hab:b.length=a.length):CB 117 [bH a,bH b] h (.bool (decide (jA a b))):=by
  refine .bz Tryz.f117 22 ?_;refine c16z ?_;refine .aR (fun m st=>∃(i:Nat),(m=a.length-i∧((∀d,d<i→bits .andNot .i64 ((a.getD d 0:Nat):Int) ((b.getD d 0:Nat):Int)=0)∧i≤a.length))∧st=⟨mkS 22 [(0,bH a),(1,bH b),(7,AV.int .i64 ((a.length:Nat):Int)),(8,AV.int .i64 ((i:Nat):Int))],h⟩) _ (.v ⟨0,⟨rfl,⟨t78,by omega⟩⟩,rfl⟩) ?_;rintro m sl h' ⟨i,⟨hm,⟨hI,hi⟩⟩,hst⟩;obtain ⟨rfl,rfl⟩:=St.mk.inj hst;refine c23z ?_;refine u2z ?_ ?_
  ·intro e1 qe1;refine c131z ?_;refine .ss z8 (mkP 10 [0,0,3,7,0,0,48,112,255,511] []) ?_;refine c47z ?_;refine u2z ?_ ?_
   ·intro e2 qe2;refine c158z ?_;exact ⟨[],_,(List.append_nil _).symm,t42,t126⟩
   intro e2 qe2;refine c214z ?_;refine .rz ?_;exact ⟨_,by omega,.v ⟨(i+1),⟨rfl,⟨(fun d hd=>if e:d=i then by rw[e];assumption else hI d (by omega)),by omega⟩⟩,rfl⟩⟩
  intro e1 qe1;refine c63z ?_;exact ⟨[],_,(List.append_nil _).symm,t42,t126⟩
theorem c_sameT {n:Nat}(a b:List (List Nat))(hl:a.length<1000000)(ha:∀r∈a,r.length<100000):CB 33 [.vec a.length (aL a),.vec b.length (aL b)] h (.bool (decide (a=b))):=by
  refine .bz Tryz.f33 27 ?_;refine c108z ?_;refine u2z ?_ ?_
  ·intro e1 qe1;refine c158z ?_;exact ⟨[],_,(List.append_nil _).symm,t42,t87⟩
  intro e1 qe1;refine .sk ?_;refine c7z ?_;refine .aR (fun m st=>∃(i:Nat),(m=a.length-i∧((∀d,d<i→a.getD d []=b.getD d [])∧i≤a.length))∧st=⟨mkS 27 [(0,AV.vec a.length (aL a)),(1,AV.vec b.length (aL b)),(5,AV.int .i64 ((i:Nat):Int))],h⟩) _ (.v ⟨0,⟨rfl,⟨t78,by omega⟩⟩,rfl⟩) ?_;rintro m sl h' ⟨i,⟨hm,⟨hI,hi⟩⟩,hst⟩;obtain ⟨rfl,rfl⟩:=St.mk.inj hst;refine c1z ?_;refine u2z ?_ ?_
  ·intro e2 qe2;refine c3z ?_;refine .ss z8 (mkP 10 [0,0,3,7,0,0,48,112,255,511] []) ?_;refine .k 8 [] ?_;refine .ca rfl rfl (G1 _ _ (by have:=ha _ (j0 (i:=i) (d:=[]) (by omega));omega)) ?_;refine .n [] ?_;refine u2z ?_ ?_
   ·intro e3 qe3;refine c158z ?_;exact ⟨[],_,(List.append_nil _).symm,t42,t87⟩
   intro e3 qe3;refine c270z ?_;exact ⟨_,by omega,.v ⟨(i+1),⟨rfl,⟨(fun d hd=>if e:d=i then by rw[e];assumption else hI d (by omega)),by omega⟩⟩,rfl⟩⟩
  intro e2 qe2;refine c63z ?_;exact ⟨[],_,(List.append_nil _).symm,t42,t87⟩
end Go.Proofs.YtonbocmibeikmaaGreat
end
section
namespace Go.Un
open Go.Ab
section
variable {k n:Nat}{nx:Nat→List Int}{st:Nat→List Nat}
structure Gro (k n:Nat)(nx:Nat→List Int)(st:Nat→List Nat)(T:List (List Nat)):Prop where
 tb:Tb k n T
 id:Sub (dhN k 0) (T.getD 0 [])
 le:uZ T (hY k n nx st)
variable {a b:List Nat}
theorem pQ (ha:Rl k a)(hb:Rl k b):Sub a (bG a b):=fun d e h=>(uW ha hb).2 (.inl h)
theorem W9 (ha:Rl k a)(hb:Rl k b):Sub b (bG a b):=fun d e h=>(uW ha hb).2 (.inr h)
theorem tG {c:List Nat}(ha:Rl k a)(hb:Rl k b)(h1:Sub a c)(h2:Sub b c):Sub (bG a b) c:=fun d e h=>((uW ha hb).1 h).elim (h1 d e) (h2 d e)
theorem cK (ha:Rl k a)(hb:Rl k b):bG a b=a↔Sub b a:=
 ⟨fun h=>by have:=W9 ha hb;rw[h]at this;exact this,fun h=>Sub.Er (uX ha hb) ha (tG ha hb (Sub.refl _) h) (pQ ha hb)⟩
theorem Gro.start (p:Pro k n nx st):Gro k n nx st ((List.replicate n (List.replicate (k+1) 0)).set 0 (dhN k 0)):=by
 have hl:0<(List.replicate n (List.replicate (k+1) 0)).length:=by rw[List.length_replicate];exact p.pos
 have tb:Tb k n (List.replicate n (List.replicate (k+1) 0)):=⟨by simp,fun r hr=>by rw[List.eq_of_mem_replicate hr];exact W0 _⟩;refine ⟨tb.set (rl_dh _ _),by rw[nN hl,if_pos rfl];exact Sub.refl _,fun i=>?_⟩;rw[nN hl];split
 ·rename_i e;subst e;exact (BW p).id
 ·intro d e h;rw[List.getD_eq_getElem?_getD,List.getElem?_replicate]at h;split at h
  ·rw[show ((some (List.replicate (k+1) 0):Option (List Nat)).getD [])=List.replicate (k+1) 0 from rfl,F7]at h;cases h
  ·simp[bt]at h
variable {T:List (List Nat)}{pc:Nat}
theorem Gro.aft (p:Pro k n nx st)(g:Gro k n nx st T)(hp:pc<n):Rl k (n5 (T.getD pc []) (st pc))∧∀q∈nx pc,Sub (n5 (T.getD pc []) (st pc)) ((hY k n nx st).getD q.toNat []):=by refine ⟨lQ (g.tb.get hp) (p.st pc hp),fun q hq d e h=>?_⟩;obtain ⟨f,h1,h2⟩:=(oP (g.tb.get hp) (p.st pc hp)).1 h;exact (BW p).at' pc hp q hq d e ((oP ((rJ k n nx st).get hp) (p.st pc hp)).2 ⟨f,g.le pc d f h1,h2⟩)
theorem Gro.set (g:Gro k n nx st T){q:Nat}(hq:q<n)(ha:Rl k a)(hs:Sub a ((hY k n nx st).getD q [])):Gro k n nx st (T.set q (bG (T.getD q []) a))∧uZ T (T.set q (bG (T.getD q []) a)):=by
 have hl:q<T.length:=by rw[g.tb.1];exact hq
 have hs':uZ T (T.set q (bG (T.getD q []) a)):=fun i=>by
  rw[nN hl];split
  ·rename_i e;subst e;exact pQ (g.tb.get hq) ha
  ·exact Sub.refl _
 refine ⟨⟨g.tb.set (uX (g.tb.get hq) ha),g.id.trans (hs' 0),fun i=>?_⟩,hs'⟩;rw[nN hl];split
 ·rename_i e;subst e;exact tG (g.tb.get hq) ha (g.le i) hs
 ·exact g.le i
theorem Gro.done (p:Pro k n nx st)(g:Gro k n nx st T)(h:∀pc,pc<n→ClAt nx st T pc):T=hY k n nx st:=ClT.eq p ⟨g.tb,g.id,h⟩ g.le
structure FM (k n:Nat)(nx:Nat→List Int)(st:Nat→List Nat)(T0 T:List (List Nat))(again:Bool)(pc:Nat):Prop where
 g:Gro k n nx st T
 le:tot T0≤tot T
 yes:again=true→tot T0<tot T
 no:again=false→T=T0∧∀p,p<pc→ClAt nx st T p
theorem FM.start (g:Gro k n nx st T):FM k n nx st T T false 0:=⟨g,Nat.le_refl _,fun h=>by (cases h),fun _=>⟨rfl,fun p hp=>by omega⟩⟩
structure FD (k n:Nat)(nx:Nat→List Int)(st:Nat→List Nat)(T0 T:List (List Nat))(again:Bool)(pc:Nat)(R0:List Nat)(j:Nat):Prop where
 g:Gro k n nx st T
 le:tot T0≤tot T
 yes:again=true→tot T0<tot T
 no:again=false→T=T0∧(∀p,p<pc→ClAt nx st T p)∧R0=T.getD pc []∧∀d,d<j→Sub (n5 R0 (st pc)) (T.getD ((nx pc).getD d 0).toNat [])
variable {T0:List (List Nat)}{again:Bool}
theorem FM.go (h:FM k n nx st T0 T again pc):FD k n nx st T0 T again pc (T.getD pc []) 0:=
 ⟨h.g,h.le,h.yes,fun e=>⟨(h.no e).1,(h.no e).2,rfl,fun d hd=>by omega⟩⟩
variable {R0:List Nat}
theorem FD.skip {j:Nat}(h:FD k n nx st T0 T again pc R0 j)(hs:Sub (n5 R0 (st pc)) (T.getD ((nx pc).getD j 0).toNat [])):FD k n nx st T0 T again pc R0 (j+1):=
 ⟨h.g,h.le,h.yes,fun e=>⟨(h.no e).1,(h.no e).2.1,(h.no e).2.2.1,fun d hd=>if e2:d=j then by rw[e2];exact hs else (h.no e).2.2.2 d (by omega)⟩⟩
theorem FD.grow (p:Pro k n nx st){j:Nat}(hp:pc<n)(h:FD k n nx st T0 T again pc R0 j)(hR:Rl k (n5 R0 (st pc)))(hle:∀q∈nx pc,Sub (n5 R0 (st pc)) ((hY k n nx st).getD q.toNat []))(hj:j<(nx pc).length){q:Nat}(hqe:((nx pc).getD j 0).toNat=q)(hs:¬Sub (n5 R0 (st pc)) (T.getD q [])):FD k n nx st T0 (T.set q (bG (T.getD q []) (n5 R0 (st pc)))) true pc R0 (j+1):=by
 have hqm:(nx pc).getD j 0∈nx pc:=j0 hj;have hq:q<n:=by have:=p.nx pc hp _ hqm;omega
 obtain ⟨g',hs'⟩:=h.g.set hq hR (by have:=hle _ hqm;rwa[hqe]at this);have h2:=UN h.g.tb hq (uX (h.g.tb.get hq) hR) (pQ (h.g.tb.get hq) hR) (fun he=>hs ((cK (h.g.tb.get hq) hR).1 he.symm));have h3:=h.le;exact ⟨g',by omega,fun _=>by omega,fun e=>by cases e⟩
theorem FD.fin (h:FD k n nx st T0 T again pc R0 (nx pc).length):FM k n nx st T0 T again (pc+1):=by
 refine ⟨h.g,h.le,h.yes,fun e=>⟨(h.no e).1,fun p hp=>?_⟩⟩;obtain ⟨h1,h2,h3,h4⟩:=h.no e;by_cases e2:p=pc
 ·subst e2;intro q hq;obtain ⟨d,hd,rfl⟩:=List.getElem_of_mem hq;have:=h4 d hd;rw[h3]at this;simpa [List.getD,hd] using this
 ·exact h2 p (by omega)
theorem FM.done (p:Pro k n nx st)(h:FM k n nx st T0 T false n):T=hY k n nx st:=h.g.done p (h.no rfl).2
def Sy (n:Nat)(T:List (List Nat))(again:Bool):Nat:=if again then 4608*n-tot T+1 else 0
theorem MC (hk:k≤8)(h:FM k n nx st T0 T again pc):Sy n T again<Sy n T0 true:=by
 have h1:=YG hk h.g.tb;unfold Sy;cases again
 ·simp
 ·have:=h.yes rfl;simp only[if_true];omega
end
section
variable {u:Un}{c:Clo}{m:Nat}
theorem Low.grow (hu:WU u)(wc:WC u c){S:List (List Nat)}(h:Low u c m S)(hne:S≠zJ u c m S):tot S<tot (zJ u c m S)∧tot (zJ u c m S)≤4608*c.insts.length:=
 ⟨(UO h.tb (lB S) (h.round hu wc).2).2 hne,YG dV (lB S)⟩
end
section
variable (u:Un)(c:Clo)(m:Nat)
end
section
variable {u:Un}{c:Clo}{m:Nat}
end
end Go.Un
end
section
namespace Go.Proofs.YtonbocmibeikmaaGreat
open Go.Ab Go.Un
variable {i:Nat}
theorem fV {l:List (List Int)}(h:i<l.length):List.take 1 (List.drop i (n4 l))=[.vec (l.getD i []).length (g8 (l.getD i []))]:=by unfold n4;rw[←List.map_drop,←List.map_take,List.drop_eq_getElem_cons h,List.take_succ_cons,List.take_zero];simp[List.getD,h]
theorem cY {c:Clo}(h:i<c.insts.length):List.take 2 (List.drop (i*2) (l7 c.insts))=[.int .i64 (itI c i).proc,.vec (itI c i).j5.length (g8 (itI c i).j5)]:=HV h
theorem fW (n:Nat):(List.replicate n [AV.j4]).flatten=List.replicate n AV.j4:=by
 induction n with
 | zero=>rfl
 | succ n ih=>rw[List.replicate_succ,List.flatten_cons,ih];rfl
variable {r:List Nat}
theorem kC {T:List (List Nat)}(h:i<T.length):List.take i (aL T)++AV.vec r.length (r.map l5)::List.drop (i+1) (aL T)=aL (T.set i r):=overT h
theorem aZ:(1≤maxLen)=True:=eq_true (by decide)
theorem overT0 {T:List (List Nat)}(h:0<T.length):bH r::List.drop 1 (aL T)=aL (T.set 0 r):=overT (i:=0) h
variable {n:Nat}{Z:List Nat}
theorem kD (h:0<n):AV.vec r.length (r.map l5)::List.drop 1 (aL (List.replicate n Z))=aL ((List.replicate n Z).set 0 r):=overT0 (by rw[List.length_replicate];exact h)
variable {h:c6}
theorem c_relN {u:Un}{c:Clo}(hu:WU u)(wc:WC u c){mx:Nat}(hmx:mx<u.c4.length)(hi:i<c.insts.length){pc:Nat}(hp:pc<r9 u c i):CB 24 [.agg [.vec u.globals.length (g8 u.globals),.vec u.c4.length (g6 u.c4),.vec u.procs.length (l4 u.procs),.int .i64 u.main],.agg [.int .i64 (itI c i).proc,.vec (itI c i).j5.length (g8 (itI c i).j5)],.int .i64 ((pc:Nat):Int),.int .i64 ((mx:Nat):Int)] h (bH (dhN (kM u mx) (chI (itI c i) (eV u c i pc) mx))):=
 (c_rel hu (gE wc hi) hp hmx).mono fun y k hq=>⟨hq.1.trans (O9 _ _),hq.2⟩
theorem c_idN (k:Nat)(hk:k≤8):CB 67 [.int .i64 ((k:Nat):Int)] h (bH (dhN k 0)):=
 (c_id k hk).mono fun y k hq=>⟨hq.1.trans (O9 _ _),hq.2⟩
def P1 (n i:Nat)(Z:List Nat):List AV:=aL (List.replicate i Z)++List.replicate (n-i) AV.j4
theorem dL (h:i≤n):(P1 n i Z).length=n:=by simp[P1,o5];omega
theorem MD:P1 n 0 Z=List.replicate n AV.j4:=by simp[P1,aL]
theorem UU:P1 n n Z=aL (List.replicate n Z):=by simp[P1]
theorem ME:List.take i (P1 n i Z)=aL (List.replicate i Z):=by unfold P1;rw[List.take_append_of_le_length (by simp[o5]),List.take_of_length_le (by simp[o5])]
theorem MF:List.drop (i+1) (P1 n i Z)=List.replicate (n-(i+1)) AV.j4:=by unfold P1;rw[List.drop_append,List.drop_of_length_le (by simp[o5]),o5,List.length_replicate,List.nil_append,List.drop_replicate];congr 1;omega
theorem pR {x:AV}:List.take i (P1 n i Z)++x::List.drop (i+1) (P1 n i Z)=aL (List.replicate i Z)++x::List.replicate (n-(i+1)) AV.j4:=by rw[ME,MF]
theorem MG:aL (List.replicate i Z)++bH Z::List.replicate (n-(i+1)) AV.j4=P1 n (i+1) Z:=by unfold P1;rw[List.replicate_succ',aL,aL,List.map_append,List.append_assoc];rfl
theorem FE {k:Nat}:aL (List.replicate i (List.replicate (k+1) 0))++AV.vec (k+1) ((List.replicate (k+1) 0).map l5)::List.replicate (n-(i+1)) AV.j4=P1 n (i+1) (List.replicate (k+1) 0):=by rw[←MG];simp[bH]
theorem MH (N:Nat):∀x∈P1 n i Z,Refs N x:=fun x hx=>by
 rcases List.mem_append.1 hx with hx | hx
 ·exact (plnT _).refs _ x hx
 ·rw[List.eq_of_mem_replicate hx];exact .j4
theorem c9.seenF {c:Code}{sl:List AV}{H:c6}{Q:Exit→St→Prop}{β γ len e e':Nat}{A R:List AV}{zs:List Nat}(hβ:H[β]?=some ⟨0,false,e,1,A++.own γ 0 0 len::R,0⟩)(hγ:H[γ]?=some ⟨0,false,e',1,zs.map l5,0⟩)(hz:zs.length=len)(hne:β≠γ)
  (r:c9 Tryz.prog cfg c ⟨sl,(H.set γ ⟨0,false,e',1,zs.map l5,len⟩).set β ⟨0,false,e,1,A++.vec len (zs.map l5)::R,0⟩⟩ Q):c9 Tryz.prog cfg c ⟨sl,H⟩ Q:=by
 subst hz;refine c9.L2 (γ:=γ) (β:=β) (k:=A.length) (off:=0) (len:=zs.length) (cs:=zs.map l5) hγ rfl (by simp) ?_ hβ hne (by simp) ?_
 ·show o6 qF (List.take (zs.length*1) (List.drop 0 (zs.map l5)))=_;rw[List.drop_zero,Nat.mul_one,List.take_of_length_le (by simp)];exact (CC zs).WN
 ·have e1:eM ⟨0,false,e',1,zs.map l5,0⟩ (0+zs.length*1)=⟨0,false,e',1,zs.map l5,zs.length⟩:=by simp only[eM,Nat.zero_add,Nat.mul_one,Nat.zero_max]
  have e2:(A++AV.own γ 0 0 zs.length::R).set A.length (.vec zs.length (zs.map l5))=A++.vec zs.length (zs.map l5)::R:=by simp
  show c9 Tryz.prog cfg c ⟨sl,(H.set γ (eM ⟨0,false,e',1,zs.map l5,0⟩ (0+zs.length*1))).set β ⟨0,false,e,1,(A++AV.own γ 0 0 zs.length::R).set A.length (.vec zs.length (zs.map l5)),0⟩⟩ Q;rw[e1,e2];exact r
attribute [local go_sem] rd bH r7 u6 p7 n6 l8 z6 o5 Int.natCast_nonneg Int.natCast_inj oK aD oL cW cJ cX gD fV nX kC aZ kD pR dL jE jF fW List.length_set List.length_replicate Int.toNat_natCast_add_one eG wrap64 List.length_map
section
end
theorem MI {u:Un}(hu:WU u){it:aO}(w:WIt u it){pc:Nat}(hpc:pc<(c8 u it).length):CB 146 [.agg [.vec u.globals.length (g8 u.globals),.vec u.c4.length (g6 u.c4),.vec u.procs.length (l4 u.procs),.int .i64 u.main],.agg [.int .i64 it.proc,.vec it.j5.length (g8 it.j5)],.int .i64 ((pc:Nat):Int)] h (.vec (o3 ((c8 u it).getD pc g0) pc).length (g8 (o3 ((c8 u it).getD pc g0) pc))):=c_nextF hu w hpc
section
end
section
attribute [local go_sem] cY
end
section
attribute [local go_sem] cY
end
end Go.Proofs.YtonbocmibeikmaaGreat
end
section
namespace Go.Proofs.YtonbocmibeikmaaGreat
open Go.Ab Go.Un
theorem cL {c:Clo}{i:Nat}(h:i<c.insts.length):List.take 1 (List.drop (i*2) (l7 c.insts))=[.int .i64 (itI c i).proc]:=oK h
theorem MJ {h:c6}(u:Un)(mx:Nat):CB 30 [.agg [.str (u.c4.getD mx aA).name,.bool (u.c4.getD mx aA).re,.int .i64 (u.c4.getD mx aA).size]] h (.int .i64 ((kM u mx:Nat):Int)):=c_cap _
theorem xO {n β g len:Nat}{H:c6}(h:β<n):jQ n H 6 (.own β g 0 len)=some (.own β g 0 len):=by rw[dW,if_pos h]
theorem aI.new {h l':c6}(hk:∀b∈l',z7 b.cells):aI h (h++l'):=fun β b hb=>by
 by_cases hβ:β<h.length
 ·left;rwa[List.getElem?_append_left hβ]at hb
 ·right;rw[List.getElem?_append_right (by omega)]at hb;exact fun x hx=>(hk b (List.mem_of_getElem? hb) x hx).rf _
theorem Ha (u:Un):z7 [.vec u.globals.length (g8 u.globals),.vec u.c4.length (g6 u.c4),.vec u.procs.length (l4 u.procs),.int .i64 u.main]:=z7.cons .vec (z7.cons .vec (z7.cons .vec (z7.cons .int .nil)))
theorem Hb (c:Clo):z7 [.vec c.insts.length (l7 c.insts),.vec c.calls.length (n4 c.calls),.vec c.roots.length (g8 c.roots)]:=z7.cons .vec (z7.cons .vec (z7.cons .vec .nil))
theorem c9.Fc {c:Code}{H:c6}{Q:Exit→St→Prop}{γ t len n e:Nat}{l:List (Nat×AV)}{zs:List Nat}(hγ:H[γ]?=some ⟨0,false,e,1,zs.map l5,0⟩)(hz:zs.length=len)(hp:0<len)(hx:(mkS n l)[t]?=some (.own γ 0 0 len))
  (r:c9 Tryz.prog cfg c ⟨(mkS n l).set t (.vec len (zs.map l5)),H.set γ ⟨0,false,e,1,zs.map l5,len⟩⟩ Q):c9 Tryz.prog cfg c ⟨mkS n l,H⟩ Q:=by
 subst hz;have hne:zs.map l5≠[]:=fun h0=>by have:=congrArg List.length h0;rw[List.length_map]at this;replace this:=s7z this;omega
 refine c9.tA (t:=t) (γ:=γ) (len:=zs.length) (e:=e) (K:=1) (g:=0) (zs:=zs.map l5) (by rw[hγ];exact congrArg some (eE hne).symm) (by simp) (by omega) (CC zs) hx ?_;obtain ⟨z,zs',hzz⟩:=List.exists_cons_of_ne_nil hne;have e1:gK e 1 0 (zs.map l5) (zs.length*1)=⟨0,false,e,1,zs.map l5,zs.length⟩:=by rw[hzz,Nat.mul_one];rfl
 rw[e1];exact r
attribute [local go_sem] rd bH r7 u6 p7 n6 l8 z6 o5 Int.natCast_nonneg Int.natCast_inj aD oL cW cJ cX gD fV nX kC aZ kD pR dL jE jF fW List.length_set List.length_replicate Int.toNat_natCast_add_one eG wrap64 List.length_map cL cY
end Go.Proofs.YtonbocmibeikmaaGreat
end
