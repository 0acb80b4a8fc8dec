/- My own texts, put together by a program of mine. -/
import Derived.Laws.BitsLemmas
import Derived.Test.YtonbocmibeikmaaGreatCW5
set_option linter.unusedSimpArgs false
set_option linter.unusedVariables false
set_option maxRecDepth 100000
set_option maxHeartbeats 4000000
section
namespace Go.Proofs.YtonbocmibeikmaaGreat
open Go.Ab Go.Un
variable {p:Go.Un.Pg}{f:Fu}
theorem JG (h:GH p)(hf:f∈p.funcs):∀x∈f.params,tQ x.name=false:=by
  obtain ⟨i,hi,rfl⟩:=bP (d:=j8) hf;intro x hx;have hm:x.name∈(p.funcs.getD i j8).params.map (·.name):=List.mem_map.2 ⟨x,hx,rfl⟩;rcases (h.fn i hi).2.2 with e | e | e<;>rw[e]at hm<;>simp at hm
  · rw[hm];exact Q1 1 (by omega)
  · rcases hm with e | e<;>rw[e]
    · exact Q1 2 (by omega)
    · exact Q1 1 (by omega)
variable {i:Nat}
theorem nG {α:Type}(f:α→List AV)(K j:Nat)(hK:∀a,(f a).length=K)(hj:j<K)(d:α){l:List α}(h:i<l.length):List.take 1 (List.drop (i*K+j) (l.flatMap f))=List.take 1 (List.drop j (f (l.getD i d))):=by rw[←aZ f K hK d h,List.drop_take,List.take_take,List.drop_drop,Nat.min_eq_left (by omega)]
theorem RV {l:List Gl}(h:i<l.length):List.take 1 (List.drop (i*2) (r7 l))=[.str (l.getD i lQ).name]:=nG CQ 2 0 (fun _=>rfl) (by omega) lQ h
theorem RW {l:List Gl}(h:i<l.length):List.take 1 (List.drop (i*2+1) (r7 l))=[.int .i64 (l.getD i lQ).init]:=nG CQ 2 1 (fun _=>rfl) (by omega) lQ h
variable {l:List Pm}
theorem RX (h:i<l.length):List.take 1 (List.drop (i*2) (v8 l))=[.str (l.getD i iD).name]:=nG CP 2 0 (fun _=>rfl) (by omega) iD h
theorem RY (h:i<l.length):List.take 1 (List.drop (i*2+1) (v8 l))=[.bool (l.getD i iD).mu]:=nG CP 2 1 (fun _=>rfl) (by omega) iD h
theorem txtGl_0 {l:List Gl}(h:(l.getD i lQ).init=0):kV l (i+1)=kV l i++J3++(l.getD i lQ).name++rC:=by rw[kV,if_pos h]
theorem txtGl_1 {l:List Gl}(h:¬(l.getD i lQ).init=0):kV l (i+1)=kV l i++J3++(l.getD i lQ).name++PK++CU (l.getD i lQ).init++rC:=by rw[kV,if_neg h]
variable {out:BA}
theorem RZ {l:List Mx}(h1:(l.getD i s8).re=false)(h:¬0<(l.getD i s8).size):dU l out (i+1)=dU l out i++bH++(l.getD i s8).name++rC:=by rw[dU,if_neg h,if_neg (by rw[h1];decide)]
theorem SA {l:List Mx}(h1:(l.getD i s8).re=true)(h:¬0<(l.getD i s8).size):dU l out (i+1)=dU l out i++t_r++bH++(l.getD i s8).name++rC:=by rw[dU,if_neg h,if_pos h1]
theorem SB {l:List Mx}(h1:(l.getD i s8).re=false)(h:0<(l.getD i s8).size):dU l out (i+1)=dU l out i++bH++(l.getD i s8).name++NF++CU (l.getD i s8).size++NG++rC:=by rw[dU,if_pos h,if_neg (by rw[h1];decide)]
theorem SD {l:List Mx}(h1:(l.getD i s8).re=true)(h:0<(l.getD i s8).size):dU l out (i+1)=dU l out i++t_r++bH++(l.getD i s8).name++NF++CU (l.getD i s8).size++NG++rC:=by rw[dU,if_pos h,if_pos h1]
theorem SE (h1:(l.getD i iD).mu=false)(h:¬0<i):fJ l out (i+1)=fJ l out i++(l.getD i iD).name:=by rw[fJ,if_neg h,if_neg (by rw[h1];decide)]
theorem SF (h1:(l.getD i iD).mu=true)(h:¬0<i):fJ l out (i+1)=fJ l out i++bH++(l.getD i iD).name:=by rw[fJ,if_neg h,if_pos h1]
theorem SG (h1:(l.getD i iD).mu=false)(h:0<i):fJ l out (i+1)=fJ l out i++lW++(l.getD i iD).name:=by rw[fJ,if_pos h,if_neg (by rw[h1];decide)]
theorem SH (h1:(l.getD i iD).mu=true)(h:0<i):fJ l out (i+1)=fJ l out i++lW++bH++(l.getD i iD).name:=by rw[fJ,if_pos h,if_pos h1]
theorem GHgres (h:GH p)(hf:f∈p.funcs):rL (PQ p f):=by
  refine ⟨⟨fun m hm=>?_,fun x hx=>?_⟩,fun x hx=>?_⟩
  · obtain ⟨i,hi,rfl⟩:=bP (d:=s8) hm
    show tQ (p.mutexes.getD i s8).name=false;rw[(h.mn i hi).1];exact IN i (by have:=h.ml;have hi2:i<p.mutexes.length:=hi;omega)
  · exact JG h hf x hx
  · obtain ⟨g,hg,rfl⟩:=List.mem_map.1 hx
    obtain ⟨i,hi,rfl⟩:=bP (d:=j8) hg;show tQ (p.funcs.getD i j8).name=false;rw[(h.fn i hi).1];exact IP i (by have:=h.fl;omega)
theorem JH (h:GH p)(hf:f∈p.funcs):z7 (PR p f):=by
  intro x hx;refine ⟨h.ZK hf x hx,?_⟩;rcases List.mem_append.1 hx with hx | hx
  · obtain ⟨g,hg,rfl⟩:=List.mem_map.1 hx
    obtain ⟨i,hi,rfl⟩:=bP (d:=lQ) hg;rw[(h.gn i hi).1];exact IM i (by have:=h.gl;omega)
  · obtain ⟨g,hg,rfl⟩:=List.mem_map.1 hx
    exact JG h hf g (List.mem_filter.1 hg).1
theorem R3 {l:List Fu}(h:i<l.length):(l.getD i j8).body.wt≤sN l l.length:=by
  have key:∀n,i<n→(l.getD i j8).body.wt≤sN l n:=by
    intro n hn;induction n with
    | zero=>omega
    | succ n ih=>
      rw[sN];by_cases e:i=n
      · rw[e];omega
      · have:=ih (by omega);omega
  exact key _ h
variable {h:c6}
theorem c_lexF {L:Bs}(hx:LX L 4000)(hl:L.length≤262144):CB 95 [.vec L.length (tP L)] h (.tup [.any,.int .i64 L.length,.int .i64 0]):=
  K2 rfl ((c_lex0 L 4000 hx (Nat.le_refl _) hl).mono fun _ _ h=>h.1) h
theorem encB_8 {b:BA}:b.toList.map (fun c=>AV.int .u8 ((c.toNat:Nat):Int))=tP (L8 b):=by rw[ByteArray.toList_eq];rfl
theorem c_lexB {b:BA}(hx:LX (L8 b) 4000)(hl:b.size≤262144):CB 95 [.vec b.size (b.toList.map fun c=>AV.int .u8 ((c.toNat:Nat):Int))] h (.tup [.any,.int .i64 b.size,.int .i64 0]):=by rw[encB_8,kU];exact c_lexF hx (by rw[←kU];exact hl)
attribute [local go_sem] nE aE o3 bA cI bC l9 dF o4 aW aK Int.natCast_nonneg Int.natCast_inj List.length_map wrap64 DC mB B4 aD mM eq_mk mN Nat.reduceMul RV RW RX RY zY vB dT
theorem AJ {l:List Pm}(hn:∀x∈l,isName (L8 x.name))(out:BA):∀i,i≤l.length→(fJ l out i).size≤out.size+30*i
  | 0,_=>Nat.le_refl _
  | i+1,hi=>by
    have ih:=AJ hn out i (by omega);have hs:=w9 (hn _ (j4 (d:=iD) (show i<l.length from by omega)));have e1:bH.size=6:=rfl;have e2:lW.size=2:=rfl;unfold fJ;repeat' split
    all_goals simp only[aD]
    all_goals omega
theorem JI {l:List Fu}:∀{a b:Nat},a≤b→sN l a≤sN l b:=by
  intro a b h;induction h with
  | refl=>exact Nat.le_refl _
  | step _ ih=>rw[sN];omega
theorem c_progT (hp:GP p):CB 132 [.agg [.vec p.globals.length (r7 p.globals),.vec p.mutexes.length (g6 p.mutexes),.vec p.funcs.length (o9 p.funcs)]] h (.str (txtP p)):=by
  refine .bz Tryz.f132 131 ?_;have hgl:=tJ hp.toGH p.globals.length (Nat.le_refl _);have hmx:=tK hp.toGH hgl.1 p.mutexes.length (Nat.le_refl _);have hgl0:=hp.gl;have hml0:=hp.ml;have hfl0:=hp.fl;have htot:=hp.wt;have hwm:∀i,i≤p.funcs.length→sN p.funcs i≤48:=fun i hi=>Nat.le_trans (JI hi) htot;refine c51z ?_;refine .cU (fun m st=>∃(i:Nat),(m=p.globals.length-i∧i≤p.globals.length)∧st=⟨mkS 131 [(1,AV.ptr h.length 0 0),(3,AV.str (kV p.globals i)),(4,AV.int .i64 ((i:Nat):Int))],h++[⟨0,false,27,3,[.vec p.globals.length (r7 p.globals),.vec p.mutexes.length (g6 p.mutexes),.vec p.funcs.length (o9 p.funcs)],0⟩]⟩) _ (.v ⟨0,⟨rfl,by omega⟩,rfl⟩ (hs:=t59)) ?_;rintro m sl h' ⟨i,⟨hm,hi⟩,hst⟩;obtain ⟨rfl,rfl⟩:=St.mk.inj hst;have hsz:=(tJ hp.toGH i hi).2;refine c0z ?_;refine u2z ?_ ?_
  ·intro e1 qe1;refine c3z ?_;have hgn:=eM (hp.toGH.HF (j4 (d:=lQ) (l:=p.globals) (i:=i) (by omega)));have hgi:=(hp.gn i (by omega)).2;refine c260z ?_;refine .c7 [1,3,4] ?_;refine .z ?_;refine u2z ?_ ?_
   ·intro e2 qe2;have hns:=(vE hgi.1 hgi.2).2;refine c93z ?_;refine c218z ?_;refine .c7 [1,3,4] ?_;refine c52z ?_;exact ⟨_,by omega,.v ⟨(i+1),⟨rfl,by omega⟩,rfl⟩ (hs:=t59)⟩
   intro e2 qe2;refine .sk ?_;refine c104z ?_;exact ⟨_,by omega,.v ⟨(i+1),⟨rfl,by omega⟩,rfl⟩ (hs:=t59)⟩
  intro e1 qe1;refine .exit ?_;obtain rfl:i=p.globals.length:=by omega
  change g5 ..;refine c5z ?_;refine .s4 (fun m st=>∃(i:Nat),(m=p.mutexes.length-i∧i≤p.mutexes.length)∧st=⟨mkS 131 [(1,AV.ptr h.length 0 0),(3,AV.str (dU p.mutexes (kV p.globals p.globals.length) i)),(5,AV.int .i64 ((i:Nat):Int))],h++[⟨0,false,27,3,[.vec p.globals.length (r7 p.globals),.vec p.mutexes.length (g6 p.mutexes),.vec p.funcs.length (o9 p.funcs)],0⟩]⟩) (.v ⟨0,⟨rfl,by omega⟩,rfl⟩ (hs:=t22)) ?_;rintro m sl h' ⟨i,⟨hm,hi⟩,hst⟩;obtain ⟨rfl,rfl⟩:=St.mk.inj hst;clear hst;have hsz:=(tK hp.toGH hgl.1 i hi).2;refine c0z ?_;refine u2z ?_ ?_
  ·intro e3 qe3;refine c3z ?_;have hmn:=eM (hp.toGH.PV (j4 (d:=s8) (l:=p.mutexes) (i:=i) (by omega)));have hmi:=(hp.mn i (by omega)).2;refine c10z ?_;refine .c7 [1,3,5,6] ?_;refine .z ?_;refine u2z ?_ ?_
   ·intro e4 qe4;refine c1z ?_;refine c10z ?_;refine .c7 [1,3,5,6] ?_;refine .z ?_;refine u2z ?_ ?_
    ·intro e5 qe5;have hns:=(vE (n:=(p.mutexes.getD i s8).size) (by omega) (by omega)).2;refine c153z ?_;refine c218z ?_;refine .c7 [1,3,5] ?_;refine c52z ?_;exact ⟨_,by omega,.v ⟨(i+1),⟨rfl,by omega⟩,rfl⟩ (he:=t45) (hs:=t22)⟩
    intro e5 qe5;refine .sk ?_;refine c52z ?_;exact ⟨_,by omega,.v ⟨(i+1),⟨rfl,by omega⟩,rfl⟩ (he:=t45) (hs:=t22)⟩
   intro e4 qe4;refine .sk ?_;refine c66z ?_;refine u2z ?_ ?_
   ·intro e6 qe6;refine .c7 [1,3,5,6] ?_;have hns:=(vE (n:=(p.mutexes.getD i s8).size) (by omega) (by omega)).2;refine c153z ?_;refine c218z ?_;refine .c7 [1,3,5] ?_;refine c52z ?_;exact ⟨_,by omega,.v ⟨(i+1),⟨rfl,by omega⟩,rfl⟩ (he:=t45) (hs:=t22)⟩
   intro e6 qe6;refine .sk ?_;refine .c7 [1,3,5] ?_;refine c52z ?_;exact ⟨_,by omega,.v ⟨(i+1),⟨rfl,by omega⟩,rfl⟩ (he:=t45) (hs:=t22)⟩
  intro e3 qe3;refine .exit ?_;obtain rfl:i=p.mutexes.length:=by omega
  change g5 ..;refine c5z ?_;refine .s4 (fun m st=>∃(i:Nat),(m=p.funcs.length-i∧i≤p.funcs.length)∧st=⟨mkS 131 [(1,AV.ptr h.length 0 0),(3,AV.str (sM p.funcs (dU p.mutexes (kV p.globals p.globals.length) p.mutexes.length) i)),(7,AV.int .i64 ((i:Nat):Int))],h++[⟨0,false,27,3,[.vec p.globals.length (r7 p.globals),.vec p.mutexes.length (g6 p.mutexes),.vec p.funcs.length (o9 p.funcs)],0⟩]⟩) (.v ⟨0,⟨rfl,by omega⟩,rfl⟩) ?_;rintro m sl h' ⟨i,⟨hm,hi⟩,hst⟩;obtain ⟨rfl,rfl⟩:=St.mk.inj hst;clear hst;have hsz:=(A5 hp hmx.1 i hi).2;have hwi:=hwm i hi;refine c0z ?_;refine u2z ?_ ?_
  ·intro e7 qe7;refine c3z ?_;have hfm:=j4 (d:=j8) (l:=p.funcs) (i:=i) (by omega);have hfn:=eM (hp.toGH.HG hfm);have hpn:=hp.toGH.pP hfm;have hbd:=hp.body i (by omega);have hwt:=R3 (l:=p.funcs) (i:=i) (by omega);have hww:=hp.wt;have hlw:=dA (p.funcs.getD i j8).body;refine .z ?_;refine .c7 [1,3,7,8] ?_;refine c19z ?_;refine .cU (fun m st=>∃(j:Nat),(m=(p.funcs.getD i j8).params.length-j∧j≤(p.funcs.getD i j8).params.length)∧st=⟨mkS 131 [(1,AV.ptr h.length 0 0),(3,AV.str (fJ (p.funcs.getD i j8).params (sM p.funcs (dU p.mutexes (kV p.globals p.globals.length) p.mutexes.length) i++rZ++(p.funcs.getD i j8).name++xI) j)),(7,AV.int .i64 ((i:Nat):Int)),(8,AV.ptr (h.length+1) 0 0),(9,AV.int .i64 ((j:Nat):Int))],h++[⟨0,false,27,3,[.vec p.globals.length (r7 p.globals),.vec p.mutexes.length (g6 p.mutexes),.vec p.funcs.length (o9 p.funcs)],0⟩,⟨0,false,136,3,[.str (p.funcs.getD i j8).name,.vec (p.funcs.getD i j8).params.length (v8 (p.funcs.getD i j8).params),.vec (p.funcs.getD i j8).body.len (p6 (p.funcs.getD i j8).body)],0⟩]⟩) _ (.v ⟨0,⟨rfl,by omega⟩,rfl⟩ (hs:=t30)) ?_;rintro m sl h' ⟨j,⟨hm,hj⟩,hst⟩;obtain ⟨rfl,rfl⟩:=St.mk.inj hst;have hsp:=AJ (l:=(p.funcs.getD i j8).params) hpn.2 (sM p.funcs (dU p.mutexes (kV p.globals p.globals.length) p.mutexes.length) i++rZ++(p.funcs.getD i j8).name++xI) j hj;have hs0:(sM p.funcs (dU p.mutexes (kV p.globals p.globals.length) p.mutexes.length) i++rZ++(p.funcs.getD i j8).name++xI).size≤(sM p.funcs (dU p.mutexes (kV p.globals p.globals.length) p.mutexes.length) i).size+30:=by simp only[aD];have e1:rZ.size=5:=rfl;have e2:xI.size=1:=rfl;omega
   refine c0z ?_;refine u2z ?_ ?_
   ·intro e8 qe8;refine c3z ?_;refine c0z ?_;refine u2z ?_ ?_
    ·intro e9 qe9;refine c1z ?_;refine .seq ?_;refine .c7 [1,3,7,8,9] ?_;have hpj:=eM (hpn.2 _ (j4 (d:=iD) (l:=(p.funcs.getD i j8).params) (i:=j) (by omega)));refine .z ?_;refine u2z ?_ ?_
     ·intro e10 qe10;refine c1z ?_;refine .c7 [1,3,7,8,9] ?_;refine c225z ?_;refine .rz ?_;exact ⟨_,by omega,.v ⟨(j+1),⟨rfl,by omega⟩,rfl⟩ (hs:=t30)⟩
     intro e10 qe10;refine .sk ?_;refine c225z ?_;refine .rz ?_;exact ⟨_,by omega,.v ⟨(j+1),⟨rfl,by omega⟩,rfl⟩ (hs:=t30)⟩
    intro e9 qe9;refine c210z ?_;have hpj:=eM (hpn.2 _ (j4 (d:=iD) (l:=(p.funcs.getD i j8).params) (i:=j) (by omega)));refine .z ?_;refine u2z ?_ ?_
    ·intro e11 qe11;refine .c7 [1,3,7,8,9] ?_;refine c1z ?_;refine c225z ?_;refine .rz ?_;exact ⟨_,by omega,.v ⟨(j+1),⟨rfl,by omega⟩,rfl⟩ (hs:=t30)⟩
    intro e11 qe11;refine .sk ?_;refine .c7 [1,3,7,8,9] ?_;refine c225z ?_;refine .rz ?_;exact ⟨_,by omega,.v ⟨(j+1),⟨rfl,by omega⟩,rfl⟩ (hs:=t30)⟩
   intro e8 qe8;refine .exit ?_;obtain rfl:j=(p.funcs.getD i j8).params.length:=by omega
   change g5 ..;have htab:gV.size=1:=rfl;have hbs:=(jM (hp.toGH.genv hfm) (p.funcs.getD i j8).body _ gV ByteArray.empty 0 (hp.toGH.ZK hfm) hbd.1 (by omega) J4 Cl.nil).2;have he0:ByteArray.empty.size=0:=rfl;refine c153z ?_;refine .ca rfl rfl (IQ (hp.toGH.genv hfm) 1000 _ (by omega) (Nat.le_refl _) _ gV (JH hp.toGH hfm) hbd.1 (by omega) J4 _) ?_;refine c27z ?_;refine .c7 [1,3,7] ?_;refine .rz ?_;exact ⟨_,by omega,.v ⟨(i+1),⟨rfl,by omega⟩,rfl⟩ (he:=t45)⟩
  intro e7 qe7;refine .exit ?_;obtain rfl:i=p.funcs.length:=by omega
  refine c223z ?_;exact .ret (.ex (hq:=by rfl))
theorem c_valid (hp:GP p):CB 87 [.agg [.vec p.globals.length (r7 p.globals),.vec p.mutexes.length (g6 p.mutexes),.vec p.funcs.length (o9 p.funcs)]] h (.bool true):=by
  refine .bz Tryz.f87 140 ?_;have hgl0:=hp.gl;have hml0:=hp.ml;have hfl0:=hp.fl;refine c10z ?_;refine c24z ?_;refine .spl 16 rfl rfl (fun e1=>by exfalso;have q:=fact e1;omega) (fun e1=>?_);try simp only[e1]
  have qe1:=fact e1;refine .k 6 [(4,16)] ?_;refine .spl 22 rfl rfl (fun e2=>by exfalso;have q:=fact e2;omega) (fun e2=>?_);try simp only[e2]
  have qe2:=fact e2;refine .m [(10,22)] ?_;refine uFbz ?_;intro e3 qe3;refine c210z ?_;refine .c7 [1] ?_;refine c15z ?_;refine .cU (fun m st=>∃(i:Nat),(m=p.globals.length-i∧i≤p.globals.length)∧st=⟨mkS 140 [(1,AV.ptr h.length 0 0),(3,AV.int .i64 ((i:Nat):Int))],h++[⟨0,false,27,3,[.vec p.globals.length (r7 p.globals),.vec p.mutexes.length (g6 p.mutexes),.vec p.funcs.length (o9 p.funcs)],0⟩]⟩) _ (.v ⟨0,⟨rfl,by omega⟩,rfl⟩) ?_;rintro m sl h' ⟨i,⟨hm,hi⟩,hst⟩;obtain ⟨rfl,rfl⟩:=St.mk.inj hst;refine c0z ?_;refine u2z ?_ ?_
  ·intro e4 qe4;refine c3z ?_;have hgi:=(hp.gn i (by omega)).2;have hgr:tQ (p.globals.getD i lQ).name=false:=by rw[(hp.gn i (by omega)).1];exact IM i (by omega)
   refine c134z ?_;refine .ca rfl rfl (mL _ (hp.toGH.HF (j4 (d:=lQ) (l:=p.globals) (i:=i) (by omega))) hgr) ?_;refine .k 8 [(8,43)] ?_;refine .m [(8,43)] ?_;refine uFbz ?_;intro e5 qe5;refine c4z ?_;refine .c7 [1,3] ?_;refine .rz ?_;exact ⟨_,by omega,.v ⟨(i+1),⟨rfl,by omega⟩,rfl⟩⟩
  intro e4 qe4;refine c6z ?_;refine c5z ?_;refine .s4 (fun m st=>∃(i:Nat),(m=p.mutexes.length-i∧i≤p.mutexes.length)∧st=⟨mkS 140 [(1,AV.ptr h.length 0 0),(4,AV.int .i64 ((i:Nat):Int))],h++[⟨0,false,27,3,[.vec p.globals.length (r7 p.globals),.vec p.mutexes.length (g6 p.mutexes),.vec p.funcs.length (o9 p.funcs)],0⟩]⟩) (.v ⟨0,⟨rfl,by omega⟩,rfl⟩) ?_;rintro m sl h' ⟨i,⟨hm,hi⟩,hst⟩;obtain ⟨rfl,rfl⟩:=St.mk.inj hst;clear hst;refine c0z ?_;refine u2z ?_ ?_
  ·intro e6 qe6;refine c3z ?_;have hmi:=(hp.mn i (by omega)).2;have hmr:tQ (p.mutexes.getD i s8).name=false:=by rw[(hp.mn i (by omega)).1];exact IN i (by omega)
   refine .z ?_;refine .c7 [1,4,5] ?_;refine c34z ?_;refine .ca rfl rfl (mL _ (hp.toGH.PV (j4 (d:=s8) (l:=p.mutexes) (i:=i) (by omega))) hmr) ?_;refine .k 7 [(4,68)] ?_;refine .spl 73 rfl rfl (fun e7=>by exfalso;have q:=fact e7;omega) (fun e7=>?_);try simp only[e7]
   have qe7:=fact e7;refine .k 5 [(9,73)] ?_;refine .spl 78 rfl rfl (fun e8=>by exfalso;have q:=fact e8;omega) (fun e8=>?_);try simp only[e8]
   have qe8:=fact e8;refine .k 3 [(14,78)] ?_;refine .spl 81 rfl rfl (fun e9=>?_) (fun e9=>?_)
   ·try simp only[e9]
    have qe9:=fact e9;refine .m [(14,78),(17,81)] ?_;refine .spl 86 rfl rfl (fun e10=>by exfalso;have q:=fact e10;have:=hmi.2.2 (by assumption);omega) (fun e10=>?_);try simp only[e10]
    have qe10:=fact e10;refine c50z ?_;refine .c7 [1,4] ?_;refine .rz ?_;exact ⟨_,by omega,.v ⟨(i+1),⟨rfl,by omega⟩,rfl⟩ (he:=t45)⟩
   try simp only[e9]
   have qe9:=fact e9;refine .m [(14,78),(17,81)] ?_;refine c50z ?_;refine .c7 [1,4] ?_;refine .rz ?_;exact ⟨_,by omega,.v ⟨(i+1),⟨rfl,by omega⟩,rfl⟩ (he:=t45)⟩
  intro e6 qe6;refine c6z ?_;refine c5z ?_;refine .s4 (fun m st=>∃(i:Nat),(m=p.funcs.length-i∧i≤p.funcs.length)∧st=⟨mkS 140 [(1,AV.ptr h.length 0 0),(6,AV.int .i64 ((i:Nat):Int))],h++[⟨0,false,27,3,[.vec p.globals.length (r7 p.globals),.vec p.mutexes.length (g6 p.mutexes),.vec p.funcs.length (o9 p.funcs)],0⟩]⟩) (.v ⟨0,⟨rfl,by omega⟩,rfl⟩) ?_;rintro m sl h' ⟨i,⟨hm,hi⟩,hst⟩;obtain ⟨rfl,rfl⟩:=St.mk.inj hst;clear hst;refine c0z ?_;refine u2z ?_ ?_
  ·intro e11 qe11;refine c3z ?_;have hfm:=j4 (d:=j8) (l:=p.funcs) (i:=i) (by omega);have hfn:=eM (hp.toGH.HG hfm);have hpn:=hp.toGH.pP hfm;have hbd:=hp.body i (by omega);have hwt:=R3 (l:=p.funcs) (i:=i) (by omega);have hww:=hp.wt;have hlw:=dA (p.funcs.getD i j8).body;have hfr:tQ (p.funcs.getD i j8).name=false:=by rw[(hp.fn i (by omega)).1];exact IP i (by omega)
   refine c10z ?_;refine .c7 [1,6,7] ?_;refine c34z ?_;refine .ca rfl rfl (mL _ (hp.toGH.HG hfm) hfr) ?_;refine .k 8 [(4,103)] ?_;refine .spl 109 rfl rfl (fun e12=>by exfalso;have q:=fact e12;omega) (fun e12=>?_);try simp only[e12]
   have qe12:=fact e12;refine .k 2 [(10,109)] ?_;refine .ca rfl rfl (c_okS (hp.toGH.genv hfm) (GHgres hp.toGH hfm) 1000 _ (by omega) (Nat.le_refl _) _ 0 (JH hp.toGH hfm) hbd.1 (by omega) (by omega) _) ?_;refine .m [(10,109)] ?_;refine c20z ?_;refine .c7 [1,6,7] ?_;refine c15z ?_;refine .cU (fun m st=>∃(j:Nat),(m=(p.funcs.getD i j8).params.length-j∧j≤(p.funcs.getD i j8).params.length)∧st=⟨mkS 140 [(1,AV.ptr h.length 0 0),(6,AV.int .i64 ((i:Nat):Int)),(7,AV.ptr (h.length+1) 0 0),(8,AV.int .i64 ((j:Nat):Int))],h++[⟨0,false,27,3,[.vec p.globals.length (r7 p.globals),.vec p.mutexes.length (g6 p.mutexes),.vec p.funcs.length (o9 p.funcs)],0⟩,⟨0,false,136,3,[.str (p.funcs.getD i j8).name,.vec (p.funcs.getD i j8).params.length (v8 (p.funcs.getD i j8).params),.vec (p.funcs.getD i j8).body.len (p6 (p.funcs.getD i j8).body)],0⟩]⟩) _ (.v ⟨0,⟨rfl,by omega⟩,rfl⟩) ?_;rintro m sl h' ⟨j,⟨hm,hj⟩,hst⟩;obtain ⟨rfl,rfl⟩:=St.mk.inj hst;refine c0z ?_;refine u2z ?_ ?_
   ·intro e13 qe13;refine c3z ?_;refine c134z ?_;refine .ca rfl rfl (mL _ (hpn.2 _ (j4 (d:=iD) (l:=(p.funcs.getD i j8).params) (i:=j) (by omega))) (JG hp.toGH hfm _ (j4 (d:=iD) (l:=(p.funcs.getD i j8).params) (i:=j) (by omega)))) ?_;refine .n ?_;refine c50z ?_;refine .c7 [1,6,7,8] ?_;refine .rz ?_;exact ⟨_,by omega,.v ⟨(j+1),⟨rfl,by omega⟩,rfl⟩⟩
   intro e13 qe13;refine c6z ?_;refine .rz ?_;exact ⟨_,by omega,.v ⟨(i+1),⟨rfl,by omega⟩,rfl⟩ (he:=t45)⟩
  intro e11 qe11;refine c6z ?_;have htx:=txtP_ok hp;refine c68z ?_;refine .ca rfl rfl (c_progT hp) ?_;refine .e 1 ?_;refine .ca rfl rfl (c_lexB htx.1 htx.2) ?_;refine .n ?_;refine .c7 [11] ?_;refine .z ?_;exact .ret (.ex (hq:=by rfl))
end Go.Proofs.YtonbocmibeikmaaGreat
end
section
namespace Go.Proofs.YtonbocmibeikmaaGreat
open Go.Ab Go.Un
def sc1:AV→AV
  | .bool b=>.bool b
  | .int k n=>.int k n
  | .str s=>.str s
  | _=>.any
def sc2:AV→AV
  | .agg cs=>.agg (cs.map sc1)
  | x=>sc1 x
def By:AV→AV
  | .tup xs=>.tup (xs.map sc2)
  | x=>sc2 x
section
variable {h1 h2:c6}{φ1 φ2:Map}{w:World}{v:Value}{x:AV}
theorem JJ (r:Rel h1 φ1 w v x):Rel h2 φ2 w v (sc1 x):=by
  unfold sc1;split
  · cases r.aP;exact .aV _
  · cases r.u9;exact .bK _ _
  · cases r.dN;exact .oS _
  · exact .iS _
theorem JK (r:Rel h1 φ1 w v x):Rel h2 φ2 w v (sc2 x):=by
  unfold sc2;split
  · rename_i cs
    obtain ⟨a,rfl,ha,hc,hr⟩:=r.jF;refine .agg a _ (by simp[ha]) hc fun j u z hu hz=>?_;rw[List.getElem?_map]at hz;obtain ⟨y,hy,rfl⟩:=Option.map_eq_some_iff.1 hz;exact JJ (hr j u y hu hy)
  · exact JJ r
theorem JL (r:Rel h1 φ1 w v x):Rel h2 φ2 w v (By x):=by
  unfold By;split
  · rename_i xs
    obtain ⟨a,rfl,ha,hr⟩:=r.mC;refine .tup a _ (by simp[ha]) fun j u z hu hz=>?_;rw[List.getElem?_map]at hz;obtain ⟨y,hy,rfl⟩:=Option.map_eq_some_iff.1 hz;exact JK (hr j u y hu hy)
  · exact JK r
end
variable {h:c6}
theorem borrowD {f:FuncId}{args args':List AV}{x:AV}(ha:OT 0 h args' args)(r:CallA Tryz.prog cfg f args' (bM 0 h) fun y _=>y=x):CallA Tryz.prog cfg f args h fun y k=>y=By x∧k=h:=by
  intro B φ w cargs i hs hr;obtain ⟨i',_⟩:=W6 0 i;obtain ⟨k1,k2⟩:=ha.get;refine (r B φ w cargs i' (by rw[k1];exact hs) fun j v y h1 h2=>?_).mono fun e w' hp=>?_
  · have hj:j<args.length:=by rw[←k1];exact (List.getElem?_eq_some_iff.1 h2).1
    have e1:args'.getD j .any=y:=by simp[List.getD,h2]
    have e2:args.getD j .any=args[j]:=by simp[List.getD,hj]
    rcases k2 j with h | h
    · rw[e1]at h
      rw[h];exact .iS _
    · rw[e1,e2]at h
      exact W7 i 0 h (hr j v _ h1 (List.getElem?_eq_getElem hj))
  · obtain ⟨v,y,h',φ',rfl,h1,h2,h3,rfl⟩:=hp
    have hfree:∀k,k<w.heap.size→U4 (bM 0 h) φ w k:=fun k hk=>⟨hk,fun β b hb hv=>by
      rcases cX hb with ⟨hn,_⟩ | ⟨_,b',_,rfl⟩
      · omega
      · cases hv⟩
    have hk:∀k,k<w.heap.size→w'.heap[k]?=w.heap[k]?:=fun k hk=>(h2.lM k (hfree k hk)).1;have ev:Ev h φ w h φ w':=⟨h2.os,h2.tape,h2.output,h2.size,fun k hs=>⟨hk k hs.1,Nat.lt_of_lt_of_le hs.1 h2.size,hs.2⟩,fun k j hs=>⟨World.cell?_of_block (hk k hs.1),Nat.lt_of_lt_of_le hs.1 h2.size,hs.2⟩,Nat.le_refl _,fun β b b' e1 e2=>by rw[e1]at e2;cases e2;exact ⟨Nat.le_refl _,fun _=>⟨rfl,rfl,rfl⟩⟩⟩;refine ⟨v,_,h,φ,rfl,⟨fun β b hb hv=>?_,i.inj,i.base,i.virt,Nat.le_trans i.room h2.size,fun g=>ev.N2 (i.glob g)⟩,ev,JL h3,rfl,rfl⟩;obtain ⟨cur,q1,q2,q3,q4⟩:=i.blk β b hb hv;exact ⟨cur,(hk _ (Array.getElem?_eq_some_iff.1 q1).1).trans q1,q2,q3,fun j v x a d=>⟨(q4 j v x a d).1,ev.rel (q4 j v x a d).2⟩⟩
variable {g n:Nat}
theorem C7 {H:c6}{β:Nat}{l:List Ent}{x:BA}(hb:H[β]?=some (o8 145 3 g (l3 l)))(hn:l.length=n)(hl:l.length<1000000)(hf:bI l x=none):CB 89 [.own β g 0 n,.str x] H (.tup [.agg [.str ByteArray.empty,.int .i64 0,.int .i64 0],.bool false]):=by subst hn;have e:VN 0 H (.own β g 0 l.length)=some (.vec l.length (l3 l)):=gL hb (Nat.zero_le _) (by rw[r9];omega) (by omega) ((rK l).frz _ _ _);have ha:OT 0 H [.vec l.length (l3 l),.str x] [.own β g 0 l.length,.str x]:=And.intro (.inr e) (And.intro (.inr rfl) trivial);exact borrowD ha ((IX hf hl).mono fun _ _ h=>h.1)
variable {p:Go.Un.Pg}
theorem pZ:(aL p).length=p.globals.length+(p.mutexes.length+p.funcs.length):=by simp[aL]
variable {i:Nat}
theorem SI (h:i<(aL p).length):(aL p).getD i jL=if i<p.globals.length then ⟨(p.globals.getD i lQ).name,1,(i:Int)⟩ else if i-p.globals.length<p.mutexes.length then ⟨(p.mutexes.getD (i-p.globals.length) s8).name,2,((i-p.globals.length:Nat):Int)⟩ else ⟨(p.funcs.getD (i-p.globals.length-p.mutexes.length) j8).name,3,((i-p.globals.length-p.mutexes.length:Nat):Int)⟩:=by
  rw[pZ]at h;unfold aL;rw[List.getD_eq_getElem?_getD];by_cases h1:i<p.globals.length
  · rw[if_pos h1,List.getElem?_append_left t123]
    simp[h1]
  · rw[if_neg h1,List.getElem?_append_right (by simpa using Nat.le_of_not_lt h1)]
    simp only[List.length_map,List.length_range];by_cases h2:i-p.globals.length<p.mutexes.length
    · rw[if_pos h2,List.getElem?_append_left t102]
      simp[h2]
    · rw[if_neg h2,List.getElem?_append_right (by simpa using Nat.le_of_not_lt h2)]
      simp only[List.length_map,List.length_range];have h3:i-p.globals.length-p.mutexes.length<p.funcs.length:=by omega
      simp[h3]
theorem JM (h:i<(aL p).length):(aL p).getD i jL=if i<p.globals.length then ⟨(p.globals.getD i lQ).name,1,(i:Int)⟩ else if (i:Int)-p.globals.length<p.mutexes.length then ⟨(p.mutexes.getD ((i:Int)-p.globals.length).toNat s8).name,2,(i:Int)-p.globals.length⟩ else ⟨(p.funcs.getD ((i:Int)-p.globals.length-p.mutexes.length).toNat j8).name,3,(i:Int)-p.globals.length-p.mutexes.length⟩:=by
  rw[SI h];by_cases h1:i<p.globals.length
  · rw[if_pos h1,if_pos h1]
  · rw[if_neg h1,if_neg h1,show ((i:Int)-p.globals.length).toNat=i-p.globals.length from by omega,show ((i:Int)-p.globals.length-p.mutexes.length).toNat=i-p.globals.length-p.mutexes.length from by omega]
    by_cases h2:i-p.globals.length<p.mutexes.length
    · rw[if_pos h2,if_pos (by omega),show ((i-p.globals.length:Nat):Int)=(i:Int)-p.globals.length from by omega]
    · rw[if_neg h2,if_neg (by omega),show ((i-p.globals.length-p.mutexes.length:Nat):Int)=(i:Int)-p.globals.length-p.mutexes.length from by omega]
theorem JN {l:List Ent}(hn:(l.map (·.name)).Nodup)(hi:i<l.length):bI (l.take i) (l.getD i jL).name=none:=by
  refine vF fun h=>?_;obtain ⟨e,he,hx⟩:=List.mem_map.1 h;obtain ⟨j,hj,rfl⟩:=List.mem_iff_getElem.1 he;simp only[List.length_take]at hj;have hjl:j<l.length:=by omega
  simp only[List.getElem_take]at hx;have e1:l.getD i jL=l[i]:=by simp[List.getD,hi]
  rw[e1]at hx;have:=(List.pairwise_iff_getElem.1 hn) j i (by simpa using hjl) (by simpa using hi) (by omega);simp only[List.getElem_map]at this;exact this hx
theorem yF (h:GP p):((aL p).map (·.name)).Nodup:=by have h1:=(vH h.toGH (i:=0) (by have:=h.fl;omega)).nodup vG;rw[List.map_append]at h1;exact (List.nodup_append.1 h1).1
theorem takeD {l:List Ent}(h:i<l.length):l.take (i+1)=l.take i++[l.getD i jL]:=by rw[List.take_add_one];simp[List.getD,h]
theorem L4 {l:List Ent}{x:Ent}:l3 (l++[x])=l3 l++[.str x.name,.int .i64 x.kind,.int .i64 x.n]:=by simp[l3,iM]
variable {b0 b2 b3:Blk}{es:List Ent}
theorem app_ent {l:c6}{x:BA}{k m:Int}(hn:es.length=n)(hl:n<100000):j0 cfg 145 (h++(b0::o8 145 3 g (l3 es)::b2::b3::⟨0,false,145,3,[.str x,.int .i64 k,.int .i64 m],0⟩::l)) (.own (h.length+1) g 0 n) (.own (h.length+4) 0 0 1)=some (.own (h.length+1) (g+1) 0 (n+1),h++(b0::o8 145 3 (g+1) (l3 (es++[⟨x,k,m⟩]))::b2::b3::⟨0,false,145,3,[.str x,.int .i64 k,.int .i64 m],0⟩::l)):=by subst hn;rw[u3 (C:=cfg) (K:=3) (m:=1) (new:=[.str x,.int .i64 k,.int .i64 m]) (zs:=l3 es) t23 rfl (by omega) (by rw[r9];omega) rfl (by omega) t98 rfl (by decide) (by omega),L4,l8];rfl
theorem SJ {l:List Gl}(h:i<l.length):List.take 1 (List.drop (i*2) (r7 l))=[.str (l.getD i lQ).name]:=Q6 CQ 2 0 (fun _=>rfl) (by omega) lQ h
theorem SK {l:List Mx}(h:i<l.length):List.take 1 (List.drop (i*3) (g6 l))=[.str (l.getD i s8).name]:=Q6 PE 3 0 (fun _=>rfl) (by omega) s8 h
theorem SL {l:List Fu}(h:i<l.length):List.take 1 (List.drop (i*3) (o9 l))=[.str (l.getD i j8).name]:=Q6 dT 3 0 (fun _=>rfl) (by omega) j8 h
attribute [local go_sem] rd r9 o3 bA cI s6 aN fO dF o4 aW aK l9 bC Int.natCast_nonneg Int.natCast_inj List.length_map wrap64 fW iY iZ Y8 J7 P4 Y9 tN max2 eU cN bD Nat.reduceMul nC kB z8 iM pW lF vT SJ SK SL app_ent
theorem c_decl (hp:GP p):CB 88 [.agg [.vec p.globals.length (r7 p.globals),.vec p.mutexes.length (g6 p.mutexes),.vec p.funcs.length (o9 p.funcs)]] h (.tup [.vec (aL p).length (l3 (aL p)),.int .i64 (-1)]):=by
  refine .bz Tryz.f88 94 ?_;have hdl:=pZ (p:=p);have hnd:=yF hp;have hgl:=hp.gl;have hml:=hp.ml;have hfl:=hp.fl;refine c78z ?_;refine .z ?_;refine c260z ?_;refine .c7 [1,4,5,6] ?_;refine c15z ?_;refine g5.qY 4 rfl ?_;refine .s4 (fun m st=>∃(i:Nat),(m=(aL p).length-i∧i≤(aL p).length)∧st=⟨mkS 94 [(1,AV.ptr h.length 0 0),(4,AV.own (h.length+1) i 0 i),(5,AV.int .i64 (-1)),(6,AV.int .i64 ((aL p).length:Int)),(7,AV.int .i64 ((i:Nat):Int))],h++[⟨0,false,27,3,[.vec p.globals.length (r7 p.globals),.vec p.mutexes.length (g6 p.mutexes),.vec p.funcs.length (o9 p.funcs)],0⟩,o8 145 3 i (l3 ((aL p).take i))]⟩) (.v ⟨0,⟨rfl,by omega⟩,rfl⟩ (hs:=t49)) ?_;rintro m sl h' ⟨i,⟨hm,hi⟩,hst⟩;obtain ⟨rfl,rfl⟩:=St.mk.inj hst;clear hst;have htl:((aL p).take i).length=i:=by simp;omega
  refine c0z ?_;refine u2z ?_ ?_
  ·intro e1 qe1;refine c3z ?_;refine c10z ?_;have hat:=JM (p:=p) (i:=i) (by omega);have hfn:=JN hnd (i:=i) (by omega);refine c15z ?_;refine .c7 [1,4,5,6,7,8,9] ?_;refine .z ?_;refine u2z ?_ ?_
   ·intro e2 qe2;refine c106z ?_;refine .seq ?_;refine .c7 [1,4,5,6,7,8] ?_;rw[if_pos (by omega)]at hat;rw[hat]at hfn;refine c214z ?_;refine .n ?_;refine c235z ?_;refine c20z ?_;refine c1z ?_;refine .c7 [1,4,5,6,7] ?_;refine .rz ?_;exact ⟨_,by omega,.v ⟨(i+1),⟨rfl,by omega⟩,rfl⟩ (he:=t107) (hk:=t103) (hs:=t49)⟩
   intro e2 qe2;refine .z ?_;refine u2z ?_ ?_
   ·intro e3 qe3;refine .c7 [1,4,5,6,7,8,9] ?_;refine c106z ?_;refine .seq ?_;refine .c7 [1,4,5,6,7,8] ?_;rw[if_neg (by omega),if_pos (by omega)]at hat;rw[hat]at hfn;refine c214z ?_;refine .n ?_;refine c235z ?_;refine c20z ?_;refine c1z ?_;refine .c7 [1,4,5,6,7] ?_;refine .rz ?_;exact ⟨_,by omega,.v ⟨(i+1),⟨rfl,by omega⟩,rfl⟩ (he:=t107) (hk:=t103) (hs:=t49)⟩
   intro e3 qe3;refine .c7 [1,4,5,6,7,8,9] ?_;refine .so u4 (mkP 17 [0,1,0,0,8,24,60,127,255,511,0,0,2048,6144,15360,32767,65535] [16]) ?_;refine .k 8 [] ?_;refine c36z ?_;change g5 ..;refine .seq ?_;refine .c7 [1,4,5,6,7,8] ?_;rw[if_neg (by omega),if_neg (by omega)]at hat;rw[hat]at hfn;refine c214z ?_;refine .n ?_;refine c235z ?_;refine c20z ?_;refine c1z ?_;refine .c7 [1,4,5,6,7] ?_;refine .rz ?_;exact ⟨_,by omega,.v ⟨(i+1),⟨rfl,by omega⟩,rfl⟩ (he:=t107) (hk:=t103) (hs:=t49)⟩
  intro e1 qe1;refine .exit ?_;obtain rfl:i=(aL p).length:=by omega
  rw[List.take_length];refine g5.uZ (t:=4) (γ:=h.length+1) (len:=(aL p).length) t23 (by rw[r9];omega) (by omega) (rK _) (kR (by decide) rfl) ?_;rw[bL];simp only[l8,List.set_cons_succ,List.set_cons_zero];refine c223z ?_;exact .ret (.ex (hq:=by rfl))
def s0F (p:Go.Un.Pg)(f:Fu):Sco:=⟨p,aL p++lR f.params 0 0,(fR f.params:Int),0,[],[]⟩
def s1F (p:Go.Un.Pg)(f:Fu):Sco:=cK (s0F p f).l (s0F p f) f.body
def s2F (p:Go.Un.Pg)(f:Fu):Sco:=o5 (s1F p f) ⟨8,0,false,l7,bO,[],[]⟩ (s1F p f).st
variable {a b c d:Blk}{s:Sco}{r:c6}
theorem SM:(h++(a::b::c::d::z8 (h.length+4) s::o8 54 12 (s).code.length (p9 (s).code)::o8 3 1 (s).sites.length (g8 (s).sites)::r))=hT ⟨h++[a,b,c,d],r⟩ (z8 (h.length+4) s) s.code s.sites:=by simp[hT]
theorem hF_k:Frm.k ⟨h++[a,b,c,d],r⟩=h.length+4:=by simp[Frm.k]
theorem SN {E:Env}{cx:Ctx}{S:Sl}(hw:S.wt≤1000){vars:List BA}(sc:SC E cx vars s.l)(hG:GS E S vars)(bd:Bd E cx s.p)(B:Bnd s S.wt):CH 133 [.ptr (h.length+4) 0 0,.vec S.len (p6 S)] (h++(a::b::c::d::z8 (h.length+4) s::o8 54 12 (s).code.length (p9 (s).code)::o8 3 1 (s).sites.length (g8 (s).sites)::r)) (.tup []) (h++(a::b::c::d::z8 (h.length+4) (cK s.l s S)::o8 54 12 ((cK s.l s S)).code.length (p9 ((cK s.l s S)).code)::o8 3 1 ((cK s.l s S)).sites.length (g8 ((cK s.l s S)).sites)::r)):=by have:=AI 1000 S hw (Nat.le_refl _) vars s sc hG bd B ⟨h++[a,b,c,d],r⟩;rw[hF_k,←SM,←SM]at this;exact this
theorem c_putF (hc:s.code.length<10000)(hs:s.sites.length<10000)(i:Ins)(t:Int){zs:List AV}(hz:oQ (eH i) zs):CH 134 [.ptr (h.length+4) 0 0,.agg zs,.int .i64 t] (h++(a::b::c::d::z8 (h.length+4) s::o8 54 12 (s).code.length (p9 (s).code)::o8 3 1 (s).sites.length (g8 (s).sites)::r)) (.int .i64 ((s.code.length:Nat):Int)) (h++(a::b::c::d::z8 (h.length+4) (o5 s i t)::o8 54 12 ((o5 s i t)).code.length (p9 ((o5 s i t)).code)::o8 3 1 ((o5 s i t)).sites.length (g8 ((o5 s i t)).sites)::r)):=by have:=mP (e:=⟨h++[a,b,c,d],r⟩) hc hs i t hz;rw[hF_k,←SM,←SM]at this;exact this
variable {b1:Blk}
theorem app_cpF {l:c6}(hz:es.length=n)(h0:0<n)(hn:n<1000):j0 cfg 145 (h++(b0::b1::b2::⟨0,false,145,3,[],0⟩::l)) (.own (h.length+3) 0 0 0) (.vec n (l3 es))=some (.own (h.length+3) 1 0 n,h++(b0::b1::b2::⟨1,false,145,3,l3 es,0⟩::l)):=by
  subst hz;have e1:cfg.sz 145=3:=rfl;have e2:(cfg.ti 145).bytes=32:=rfl;have hm:es.length≤maxLen:=by
    have:(1000:Nat)≤maxLen:=by decide
    omega
  have hb:es.length*32≤140737488355328:=by omega
  have h1:(l3 es).length=es.length*3:=by rw[r9];omega
  have h2:¬es.length=0:=by omega
  have h3:¬es.length*3=0:=by omega
  simp[j0,rd,lenOf,e1,e2,h1,hm,hb,p8,l8,h0,h2,h3]
variable {b4:Blk}
theorem app_onF {b5 b6 b7 b8:Blk}{l:c6}{x:BA}{k m:Int}(hz:es.length=n)(hn:n<1000):j0 cfg 145 (h++(b0::b1::b2::⟨g,false,145,3,l3 es,0⟩::b4::b5::b6::b7::b8::⟨0,false,145,3,[.str x,.int .i64 k,.int .i64 m],0⟩::l)) (.own (h.length+3) g 0 n) (.own (h.length+9) 0 0 1)=some (.own (h.length+3) (g+1) 0 (n+1),h++(b0::b1::b2::⟨g+1,false,145,3,l3 (es++[⟨x,k,m⟩]),0⟩::b4::b5::b6::b7::b8::⟨0,false,145,3,[.str x,.int .i64 k,.int .i64 m],0⟩::l)):=by
  subst hz;have e1:cfg.sz 145=3:=rfl;have e2:(cfg.ti 145).bytes=32:=rfl;have hm:es.length+1≤maxLen:=by
    have:(1001:Nat)≤maxLen:=by decide
    omega
  have hb:(es.length+1)*32≤140737488355328:=by omega
  have h1:(l3 es).length=es.length*3:=by rw[r9];omega
  have ht:List.take (es.length*3) (l3 es)=l3 es:=List.take_of_length_le (by omega);have hnl:¬(es.length+1)*3≤es.length*3:=by omega
  have hs:l3 (es++[⟨x,k,m⟩])=l3 es++[.str x,.int .i64 k,.int .i64 m]:=by simp[l3,iM]
  simp[j0,rd,lenOf,e1,e2,h1,hm,hb,ht,hnl,p8,l8,hs]
theorem qA:∀{l:List Pm} {x:Pm} {a b:Nat},lR (l++[x]) a b=lR l a b++[if x.mu then ⟨x.name,5,((b+aT l:Nat):Int)⟩ else ⟨x.name,4,((a+fR l:Nat):Int)⟩]
  | [],x,a,b=>by simp[lR,aT,fR];split<;>rfl
  | y::l,x,a,b=>by
    simp only[List.cons_append,lR];cases hy:y.mu with
    | true=>
      simp only[if_true,qA (l:=l),List.cons_append,aT,fR,List.filter_cons,hy,Bool.not_true,Bool.false_eq_true,if_false,List.length_cons];rw[show b+1+(l.filter fun x=>x.mu).length=b+((l.filter fun x=>x.mu).length+1) from by omega]
    | false=>
      simp only[Bool.false_eq_true,if_false,qA (l:=l),List.cons_append,aT,fR,List.filter_cons,hy,Bool.not_false,if_true,List.length_cons];rw[show a+1+(l.filter fun x=>! x.mu).length=a+((l.filter fun x=>! x.mu).length+1) from by omega]
variable {l:List Pm}
theorem AK {a b:Nat}:(lR l a b).length=l.length:=by have:=congrArg List.length (iI l a b);simpa using this
theorem AL:fR l≤l.length:=List.length_filter_le _ _
theorem rM (h:i<l.length):l.take (i+1)=l.take i++[l.getD i iD]:=by rw[List.take_add_one];simp[List.getD,h]
theorem yG {x:Pm}:fR (l++[x])=fR l+(if x.mu then 0 else 1):=by simp only[fR,List.filter_append,List.length_append];cases h:x.mu<;>simp[h]
theorem vY {x:Pm}:aT (l++[x])=aT l+(if x.mu then 1 else 0):=by simp only[aT,List.filter_append,List.length_append];cases h:x.mu<;>simp[h]
theorem drop_pm (hi:i<l.length):l.drop i=l.getD i iD::l.drop (i+1):=by rw[List.drop_eq_getElem_cons hi];simp[List.getD,hi]
theorem findP (hp:GP p){j:Nat}(hj:j<p.funcs.length)(hi:i<(p.funcs.getD j j8).params.length):bI (aL p++lR ((p.funcs.getD j j8).params.take i) 0 0) ((p.funcs.getD j j8).params.getD i iD).name=none:=by
  have hn:=(vH hp.toGH hj).nodup vG;rw[List.map_append,iI]at hn;have hs:((p.funcs.getD j j8).params.map (·.name))=(((p.funcs.getD j j8).params.take i).map (·.name))++((p.funcs.getD j j8).params.getD i iD).name::(((p.funcs.getD j j8).params.drop (i+1)).map (·.name)):=by
    have h1:(p.funcs.getD j j8).params=(p.funcs.getD j j8).params.take i++((p.funcs.getD j j8).params.getD i iD::(p.funcs.getD j j8).params.drop (i+1)):=by have h2:=drop_pm hi;rw[←h2,List.take_append_drop]
    have h3:=congrArg (List.map (fun x:Pm=>x.name)) h1;rw[List.map_append,List.map_cons]at h3;exact h3
  rw[hs,←List.append_assoc]at hn;refine vF fun hm=>?_;rw[List.map_append,iI]at hm;exact (List.nodup_append.1 hn).2.2 _ hm _ (by simp) rfl
theorem bd_of (hp:GP p){f:Fu}:Bd (PQ p f) (ctxP p f) p:=⟨rfl,rfl,rfl,fun x hx=>by obtain ⟨g,hg,rfl⟩:=List.mem_map.1 hx;exact (hp.toGH.pP hg).1⟩
theorem SO (h:i<l.length):List.take 1 (List.drop (i*2) (v8 l))=[.str (l.getD i iD).name]:=Q6 CP 2 0 (fun _=>rfl) (by omega) iD h
section
attribute [local go_sem] app_cpF app_onF C4 vU vV C5 C6 rI nF SO
theorem c_func (hp:GP p){j:Nat}(hj:j<p.funcs.length):CB 90 [.agg [.vec p.globals.length (r7 p.globals),.vec p.mutexes.length (g6 p.mutexes),.vec p.funcs.length (o9 p.funcs)],.vec (aL p).length (l3 (aL p)),.agg (dT (p.funcs.getD j j8))] h (.tup [.agg (vC (nP p (p.funcs.getD j j8))),.vec (s2F p (p.funcs.getD j j8)).sites.length (g8 (s2F p (p.funcs.getD j j8)).sites),.int .i64 0,.int .i64 0]):=by
  unfold dT;refine .bz Tryz.f90 136 ?_;have hdl:=pZ (p:=p);have hgl:=hp.gl;have hml:=hp.ml;have hfl:=hp.fl;have hpn:=(hp.toGH.pP (j4 (d:=j8) hj)).1;have hbd:=hp.body j hj;have hwt:=R3 (l:=p.funcs) hj;have hww:=hp.wt;refine .z ?_;refine .sg u4 (mkH 7 [0,0,0,6,15,31,63] [1,3,5] [] [0,2,10,42] [0]) 0 ?_;refine .rm [true] ?_;refine .en [true] [2,0] [_] ?_;refine .p 1 ?_;refine .en [true,false] [10,2,0] [_] ?_;refine .p 1 ?_;refine .en [true,false,false] [42,10,2,0] [_] ?_;refine .p 1 ?_;refine .po [false,true,true,true] ?_;refine w4.nil rfl ?_;refine .c7 [5,6,10] ?_;refine g5.mI (β:=h.length+4) (k:=8) t23 rfl ?_;simp only[List.append_assoc,List.cons_append,List.nil_append,p8,l8,List.set_cons_succ,List.set_cons_zero,List.length_append,List.length_cons,List.length_nil,Nat.reduceAdd,Nat.zero_add];refine g5.mI (β:=h.length+4) (k:=9) t23 rfl ?_;simp only[List.append_assoc,List.cons_append,List.nil_append,p8,l8,List.set_cons_succ,List.set_cons_zero,List.length_append,List.length_cons,List.length_nil,Nat.reduceAdd,Nat.zero_add];refine c19z ?_;refine .s4 (fun m st=>∃(i:Nat),(m=(p.funcs.getD j j8).params.length-i∧i≤(p.funcs.getD j j8).params.length)∧st=⟨mkS 136 [(5,AV.ptr (h.length+1) 0 0),(6,AV.ptr (h.length+2) 0 0),(10,AV.ptr (h.length+4) 0 0),(11,AV.ptr (h.length+7) 0 0),(12,AV.int .i64 ((i:Nat):Int))],h++[⟨0,false,27,3,[.vec p.globals.length (r7 p.globals),.vec p.mutexes.length (g6 p.mutexes),.vec p.funcs.length (o9 p.funcs)],0⟩,⟨0,false,136,3,[.str (p.funcs.getD j j8).name,.vec (p.funcs.getD j j8).params.length (v8 (p.funcs.getD j j8).params),.vec (p.funcs.getD j j8).body.len (p6 (p.funcs.getD j j8).body)],0⟩,⟨0,false,57,5,[.str ByteArray.empty,.int .i64 0,.int .i64 0,.int .i64 0,.nils],0⟩,⟨1+i,false,145,3,l3 (aL p++lR ((p.funcs.getD j j8).params.take i) 0 0),0⟩,⟨0,false,198,10,[.vec p.globals.length (r7 p.globals),.vec p.mutexes.length (g6 p.mutexes),.vec p.funcs.length (o9 p.funcs),.own (h.length+3) (1+i) 0 ((aL p).length+i),.int .i64 0,.int .i64 0,.int .i64 0,.int .i64 0,.own (h.length+5) 0 0 0,.own (h.length+6) 0 0 0],0⟩,⟨0,true,0,0,[],0⟩,⟨0,true,0,0,[],0⟩,⟨0,false,57,5,[.str (p.funcs.getD j j8).name,.int .i64 ((fR ((p.funcs.getD j j8).params.take i):Nat):Int),.int .i64 ((aT ((p.funcs.getD j j8).params.take i):Nat):Int),.int .i64 0,.nils],0⟩]⟩) (.v ⟨0,⟨rfl,by omega⟩,rfl⟩) ?_ (he:=by (simp[lR,fR,aT]));rintro m sl h' ⟨i,⟨hm,hi⟩,hst⟩;obtain ⟨rfl,rfl⟩:=St.mk.inj hst;clear hst;have hLl:(aL p++lR ((p.funcs.getD j j8).params.take i) 0 0).length=(aL p).length+i:=by simp only[List.length_append,AK,List.length_take];omega
  have hpl:(lR ((p.funcs.getD j j8).params.take i) 0 0).length=i:=by simp only[AK,List.length_take];omega
  have hne:l3 (aL p++lR ((p.funcs.getD j j8).params.take i) 0 0)≠[]:=by intro h0;have:=congrArg List.length h0;rw[r9]at this;replace this:=s6z this;omega
  have hni:=AL (l:=(p.funcs.getD j j8).params.take i);have hnl:=J6 (l:=(p.funcs.getD j j8).params.take i);rw[List.length_take]at hni hnl;refine c0z ?_;refine u2z ?_ ?_
  ·intro e1 qe1;refine c3z ?_;refine .seq ?_;have hfn:=findP hp hj (i:=i) (by omega);refine .sg u4 (mkH 17 [0,1,3,7,0,16,0,112,240,496,1023,2047,4095,4095,0,24575,65535] [10,14,15] [(14,0)] [0,1024,16384,17408,50176] [0,1,2,3,4,5,6,7,8,9,10,11,12,13]) 1 ?_;refine w4.aA t26 ?_;refine .p 3 ?_;refine c120z ?_;refine c208z ?_;refine .cm [true] [1024,0] [_] rfl rfl (by simp only[jY,and_true,List.cons_append,List.nil_append];exact C7 t206 hLl (by omega) hfn) ?_;refine .p 3 ?_;refine .en [true,true] [17408,16384,1024,0] [_,_] ?_;refine .en [true,false,false,false] [50176,17408,16384,1024,0] [_] ?_;refine .p 1 ?_;refine w4.pop [false,false,true,false,true] (by kernel_rfl) (by simp only[qX,and_true,List.cons_append,List.nil_append];exact ⟨cH.r8 rfl rfl rfl rfl hb89 (C7 t206 hLl (by omega) hfn) rfl,cH.r8 rfl rfl rfl rfl hb89 (C7 t206 hLl (by omega) hfn) rfl⟩) ?_;refine c100z ?_;refine .po [false,false,true,false,true] ?_;refine w4.nil rfl ?_;refine .c7 [5,6,10,11,12,14] ?_;refine c9z ?_;refine .sk ?_;refine .z ?_;refine u2z ?_ ?_
   ·intro e2 qe2;refine .c7 [5,6,10,11,12] ?_;refine .sg u4 (mkH 19 [0,0,2,6,14,0,32,0,224,480,992,0,2048,8160,16352,32766,65535,131071,262143] [14,15,18] [] [0,16384,49152,311296] [0,1,2,3,4]) 0 ?_;refine .p 4 ?_;refine c136z ?_;refine c246z ?_;refine .p 1 ?_;refine .rn [true] ?_;refine .p 1 ?_;refine .en [true] [16384,0] [_] ?_;refine .en [true,false] [49152,16384,0] [_] ?_;refine .p 2 ?_;refine .en [true,false,false] [311296,49152,16384,0] [_] ?_;refine c28z ?_;refine .c7 [5,6,10,11,12,57] ?_;refine c52z ?_;have hmu:((p.funcs.getD j j8).params.getD i iD).mu=true:=by simp_all
    have hs1:lR ((p.funcs.getD j j8).params.take (i+1)) 0 0=lR ((p.funcs.getD j j8).params.take i) 0 0++[⟨((p.funcs.getD j j8).params.getD i iD).name,5,((aT ((p.funcs.getD j j8).params.take i):Nat):Int)⟩]:=by rw[rM (by omega),qA,hmu];simp
    have hs2:fR ((p.funcs.getD j j8).params.take (i+1))=fR ((p.funcs.getD j j8).params.take i)+0:=by rw[rM (by omega),yG,hmu];rfl
    have hs3:aT ((p.funcs.getD j j8).params.take (i+1))=aT ((p.funcs.getD j j8).params.take i)+1:=by rw[rM (by omega),vY,hmu];rfl
    exact ⟨_,by omega,.v ⟨(i+1),⟨rfl,by omega⟩,rfl⟩ (he:=t129) (hk:=t74)⟩
   intro e2 qe2;refine .c7 [5,6,10,11,12] ?_;refine .sg u4 (mkH 19 [0,0,2,6,14,0,32,0,224,480,992,0,2048,8160,16352,32766,65535,131071,262143] [14,15,18] [] [0,16384,49152,311296] [0,1,2,3,4]) 0 ?_;refine .p 4 ?_;refine c136z ?_;refine c246z ?_;refine .p 1 ?_;refine .rn [true] ?_;refine .p 1 ?_;refine .en [true] [16384,0] [_] ?_;refine .en [true,false] [49152,16384,0] [_] ?_;refine .p 2 ?_;refine .en [true,false,false] [311296,49152,16384,0] [_] ?_;refine c28z ?_;refine .c7 [5,6,10,11,12] ?_;refine c52z ?_;have hmu:((p.funcs.getD j j8).params.getD i iD).mu=false:=by simp_all
   have hs1:lR ((p.funcs.getD j j8).params.take (i+1)) 0 0=lR ((p.funcs.getD j j8).params.take i) 0 0++[⟨((p.funcs.getD j j8).params.getD i iD).name,4,((fR ((p.funcs.getD j j8).params.take i):Nat):Int)⟩]:=by rw[rM (by omega),qA,hmu];simp
   have hs2:fR ((p.funcs.getD j j8).params.take (i+1))=fR ((p.funcs.getD j j8).params.take i)+1:=by rw[rM (by omega),yG,hmu];rfl
   have hs3:aT ((p.funcs.getD j j8).params.take (i+1))=aT ((p.funcs.getD j j8).params.take i)+0:=by rw[rM (by omega),vY,hmu];rfl
   exact ⟨_,by omega,.v ⟨(i+1),⟨rfl,by omega⟩,rfl⟩ (he:=t129) (hk:=t74)⟩
  intro e1 qe1;refine .exit ?_;obtain rfl:i=(p.funcs.getD j j8).params.length:=by omega
  rw[List.take_length]at hLl hne ⊢;rw[←hLl];refine g5.zR (γ:=h.length+3) (β:=h.length+4) (k:=3) (off:=0) (len:=(aL p++lR (p.funcs.getD j j8).params 0 0).length) (cs:=l3 (aL p++lR (p.funcs.getD j j8).params 0 0)) t23 rfl (by simp only[r9];omega) (by rw[List.drop_zero,List.take_of_length_le (by simp only[r9];omega)];exact (rK _).OV) t23 (by omega) rfl ?_;refine c13z ?_;refine .z ?_;refine .c7 [5,6,10,11] ?_;refine g5.aA (h++[⟨0,false,27,3,[.vec p.globals.length (r7 p.globals),.vec p.mutexes.length (g6 p.mutexes),.vec p.funcs.length (o9 p.funcs)],0⟩,⟨0,false,136,3,[.str (p.funcs.getD j j8).name,.vec (p.funcs.getD j j8).params.length (v8 (p.funcs.getD j j8).params),.vec (p.funcs.getD j j8).body.len (p6 (p.funcs.getD j j8).body)],0⟩,⟨0,false,57,5,[.str ByteArray.empty,.int .i64 0,.int .i64 0,.int .i64 0,.nils],0⟩,cL ⟨1+(p.funcs.getD j j8).params.length,false,145,3,l3 (aL p++lR (p.funcs.getD j j8).params 0 0),0⟩ (0+(aL p++lR (p.funcs.getD j j8).params 0 0).length*3),z8 (h.length+4) (s0F p (p.funcs.getD j j8)),o8 54 12 (s0F p (p.funcs.getD j j8)).code.length (p9 (s0F p (p.funcs.getD j j8)).code),o8 3 1 (s0F p (p.funcs.getD j j8)).sites.length (g8 (s0F p (p.funcs.getD j j8)).sites),⟨0,false,57,5,[.str (p.funcs.getD j j8).name,.int .i64 ((fR (p.funcs.getD j j8).params:Nat):Int),.int .i64 ((aT (p.funcs.getD j j8).params:Nat):Int),.int .i64 0,.nils],0⟩]) (by simp only[s0F,z8,List.length_append,Nat.zero_add];rfl) ?_;generalize cL ⟨1+(p.funcs.getD j j8).params.length,false,145,3,l3 (aL p++lR (p.funcs.getD j j8).params 0 0),0⟩ (0+(aL p++lR (p.funcs.getD j j8).params 0 0).length*3)=Lb;have hni2:=AL (l:=(p.funcs.getD j j8).params);have hB0:Bnd (s0F p (p.funcs.getD j j8)) (p.funcs.getD j j8).body.wt:=⟨by show 0<(aL p++lR (p.funcs.getD j j8).params 0 0).length;omega,by show (aL p++lR (p.funcs.getD j j8).params 0 0).length+_≤_;omega,by show 0+_≤_;omega,by show 0+_≤_;omega,by show 0≤((fR (p.funcs.getD j j8).params:Nat):Int);omega,by show ((fR (p.funcs.getD j j8).params:Nat):Int)+_≤_;omega,Int.le_refl _,by show 0+_≤_;omega⟩;refine c18z ?_;refine .ch rfl rfl (SN (s:=(s0F p (p.funcs.getD j j8))) (by omega) (sc_of hp.toGH hj) hbd.1 (bd_of hp) hB0) ?_;refine .nil ?_;have hc1:=iO (l0:=(s0F p (p.funcs.getD j j8)).l) (s:=(s0F p (p.funcs.getD j j8))) (S:=(p.funcs.getD j j8).body);have hc2:=iK (l0:=(s0F p (p.funcs.getD j j8)).l) (s:=(s0F p (p.funcs.getD j j8))) (S:=(p.funcs.getD j j8).body);change _≤(s1F p (p.funcs.getD j j8)).code.length∧(s1F p (p.funcs.getD j j8)).code.length≤0+_ at hc1;change _≤(s1F p (p.funcs.getD j j8)).sites.length∧(s1F p (p.funcs.getD j j8)).sites.length≤0+_ at hc2;refine g5.aA (h++[⟨0,false,27,3,[.vec p.globals.length (r7 p.globals),.vec p.mutexes.length (g6 p.mutexes),.vec p.funcs.length (o9 p.funcs)],0⟩,⟨0,false,136,3,[.str (p.funcs.getD j j8).name,.vec (p.funcs.getD j j8).params.length (v8 (p.funcs.getD j j8).params),.vec (p.funcs.getD j j8).body.len (p6 (p.funcs.getD j j8).body)],0⟩,⟨0,false,57,5,[.str ByteArray.empty,.int .i64 0,.int .i64 0,.int .i64 0,.nils],0⟩,Lb,z8 (h.length+4) (s1F p (p.funcs.getD j j8)),o8 54 12 (s1F p (p.funcs.getD j j8)).code.length (p9 (s1F p (p.funcs.getD j j8)).code),o8 3 1 (s1F p (p.funcs.getD j j8)).sites.length (g8 (s1F p (p.funcs.getD j j8)).sites),⟨0,false,57,5,[.str (p.funcs.getD j j8).name,.int .i64 ((fR (p.funcs.getD j j8).params:Nat):Int),.int .i64 ((aT (p.funcs.getD j j8).params:Nat):Int),.int .i64 0,.nils],0⟩]) rfl ?_;refine c134z ?_;refine .ch rfl rfl (c_putF (s:=(s1F p (p.funcs.getD j j8))) (by omega) (by omega) ⟨8,0,false,l7,bO,[],[]⟩ _ (by repeat' (first | exact trivial | exact oQ.refl _ | exact .inl rfl | exact .inr ⟨rfl,rfl⟩ | refine ⟨?_,?_⟩))) ?_;refine .nil ?_;refine .c7 [6,10,11] ?_;refine g5.aA (h++[⟨0,false,27,3,[.vec p.globals.length (r7 p.globals),.vec p.mutexes.length (g6 p.mutexes),.vec p.funcs.length (o9 p.funcs)],0⟩,⟨0,false,136,3,[.str (p.funcs.getD j j8).name,.vec (p.funcs.getD j j8).params.length (v8 (p.funcs.getD j j8).params),.vec (p.funcs.getD j j8).body.len (p6 (p.funcs.getD j j8).body)],0⟩,⟨0,false,57,5,[.str ByteArray.empty,.int .i64 0,.int .i64 0,.int .i64 0,.nils],0⟩,Lb,z8 (h.length+4) (s2F p (p.funcs.getD j j8)),o8 54 12 (s2F p (p.funcs.getD j j8)).code.length (p9 (s2F p (p.funcs.getD j j8)).code),o8 3 1 (s2F p (p.funcs.getD j j8)).sites.length (g8 (s2F p (p.funcs.getD j j8)).sites),⟨0,false,57,5,[.str (p.funcs.getD j j8).name,.int .i64 ((fR (p.funcs.getD j j8).params:Nat):Int),.int .i64 ((aT (p.funcs.getD j j8).params:Nat):Int),.int .i64 0,.nils],0⟩]) rfl ?_;refine g5.nO (γ:=h.length+5) (β:=h.length+4) (k:=8) (len:=(s2F p (p.funcs.getD j j8)).code.length) t23 (by rw[s6];omega) (by omega) (WW _) t23 (by omega) rfl ?_;simp only[C4,vU,vV,C5,C6,rI,List.append_assoc,List.cons_append,List.nil_append,p8,l8,List.set_cons_succ,List.set_cons_zero,List.length_append,List.length_cons,List.length_nil,Nat.reduceAdd,Nat.zero_add];generalize fG 54 12 (s2F p (p.funcs.getD j j8)).code.length (p9 (s2F p (p.funcs.getD j j8)).code) ((s2F p (p.funcs.getD j j8)).code.length*12)=Cb;refine g5.nO (γ:=h.length+6) (β:=h.length+4) (k:=9) (len:=(s2F p (p.funcs.getD j j8)).sites.length) t23 (by rw[l9];omega) (by omega) (xJ _) t23 (by omega) rfl ?_;simp only[List.append_assoc,List.cons_append,List.nil_append,p8,l8,List.set_cons_succ,List.set_cons_zero,List.length_append,List.length_cons,List.length_nil,Nat.reduceAdd,Nat.zero_add];generalize fG 3 1 (s2F p (p.funcs.getD j j8)).sites.length (g8 (s2F p (p.funcs.getD j j8)).sites) ((s2F p (p.funcs.getD j j8)).sites.length*1)=Sb;refine .sg u4 (mkH 12 [0,1,3,7,0,16,48,112,15,271,1023,2047] [9,11] [] [0,512,2560] [4,5,6,7]) 0 ?_;refine c102z ?_;refine .p 3 ?_;refine c136z ?_;refine .en [true] [512,0] [_] ?_;refine .p 1 ?_;refine .en [true,false] [2560,512,0] [_] ?_;refine c187z ?_;refine .c7 [6,10,11] ?_;refine .sg u4 (mkH 17 [0,0,2,6,14,0,32,96,224,0,512,1536,3584,1,8223,25087,65535] [13] [] [0,8192] [1,2,3,4,5,6,7,8,9,10,11,12]) 0 ?_;refine .rn [true] ?_;refine c208z ?_;refine c208z ?_;refine c208z ?_;refine .en [true] [8192,0] [_] ?_;refine .p 3 ?_;refine .po [true,true] ?_;refine .po [true,true] ?_;refine .po [true,true] ?_;refine w4.nil rfl ?_;exact .ret (.ex (hq:=by rfl))
end
theorem plnMx (l:List Mx):v5 (g6 l):=v5.flat fun _=>v5.cons .str (v5.cons .bool (v5.cons .int .nil))
theorem plnPr (l:List Pr):v5 (g9 l):=v5.flat fun _=>v5.cons .str (v5.cons .int (v5.cons .int (v5.cons .int (v5.cons .vec .nil))))
theorem R4 {l:List Pr}{x:Pr}:g9 (l++[x])=g9 l++vC x:=by simp[g9]
theorem DL {l:List Gl}(h:i<l.length):List.take 1 (List.drop (i*2+1) (r7 l))=[.int .i64 (l.getD i lQ).init]:=Q6 CQ 2 1 (fun _=>rfl) (by omega) lQ h
theorem app_cpM {l:c6}{ms:List Mx}(hz:ms.length=n)(h0:0<n)(hn:n<1000):j0 cfg 66 (h++(b0::b1::b2::⟨1,false,66,3,[],0⟩::l)) (.own (h.length+3) 1 0 0) (.vec n (g6 ms))=some (.own (h.length+3) 2 0 n,h++(b0::b1::b2::⟨2,false,66,3,g6 ms,0⟩::l)):=by
  subst hz;have e1:cfg.sz 66=3:=rfl;have e2:(cfg.ti 66).bytes=32:=rfl;have hm:ms.length≤maxLen:=by
    have:(1000:Nat)≤maxLen:=by decide
    omega
  have hb:ms.length*32≤140737488355328:=by omega
  have h1:(g6 ms).length=ms.length*3:=by rw[o4];omega
  have h2:¬ms.length=0:=by omega
  have h3:¬ms.length*3=0:=by omega
  simp[j0,rd,lenOf,e1,e2,h1,hm,hb,p8,l8,h0,h2,h3]
theorem app_gi {l:c6}{is:List Int}{x:Int}(hn:is.length=n)(hl:n<100000):j0 cfg 3 (h++(b0::b1::b2::b3::b4::o8 3 1 g (g8 is)::⟨0,false,3,1,[.int .i64 x],0⟩::l)) (.own (h.length+5) g 0 n) (.own (h.length+6) 0 0 1)=some (.own (h.length+5) (g+1) 0 (n+1),h++(b0::b1::b2::b3::b4::o8 3 1 (g+1) (g8 (is++[x]))::⟨0,false,3,1,[.int .i64 x],0⟩::l)):=by subst hn;rw[u3 (C:=cfg) (K:=1) (m:=1) (new:=[.int .i64 x]) (zs:=g8 is) t23 rfl (by omega) t186 rfl (by omega) t98 rfl (by decide) (by omega),←mO,l8];rfl
theorem app_pr {b5 b7:Blk}{l:c6}{ps:List Pr}{x:Pr}(hn:ps.length=n)(hl:n<100000):j0 cfg 57 (h++(b0::b1::b2::b3::b4::b5::o8 57 5 g (g9 ps)::b7::⟨0,false,57,5,vC x,0⟩::l)) (.own (h.length+6) g 0 n) (.own (h.length+8) 0 0 1)=some (.own (h.length+6) (g+1) 0 (n+1),h++(b0::b1::b2::b3::b4::b5::o8 57 5 (g+1) (g9 (ps++[x]))::b7::⟨0,false,57,5,vC x,0⟩::l)):=by subst hn;rw[u3 (C:=cfg) (K:=5) (m:=1) (new:=vC x) (zs:=g9 ps) t23 rfl (by omega) (by rw[z4,Nat.mul_comm]) rfl (by omega) (by simp[rd,p8,vC]) rfl (by decide) (by omega),←R4,l8];rfl
theorem SP {l:List Fu}(h:0<l.length):List.take 1 (List.drop 1 (o9 l))=[AV.vec (l.getD 0 j8).params.length (v8 (l.getD 0 j8).params)]:=nF (i:=0) h
theorem JO (hp:GP p):bI (aL p) ⟨#[109,97,105,110]⟩=some ⟨⟨#[109,97,105,110]⟩,3,0⟩:=by have hf:=hp.fl.1;have hn:(p.funcs.getD 0 j8).name=⟨#[109,97,105,110]⟩:=(hp.fn 0 (by omega)).1;have:=rE (yF hp) (e:=⟨(p.funcs.getD 0 j8).name,3,((0:Nat):Int)⟩) (List.mem_append.2 (.inr (List.mem_append.2 (.inr (List.mem_map.2 ⟨0,List.mem_range.2 (by omega),rfl⟩)))));rw[hn]at this;exact this
theorem taken {α:Type}{l:List α}{d:α}(h:i<l.length):l.take (i+1)=l.take i++[l.getD i d]:=by rw[List.take_add_one];simp[List.getD,h]
theorem JP {x:Pr}:(vC x).length=5:=rfl
theorem takePr {x:Pr}:List.take 5 (vC x)=vC x:=rfl
section
attribute [local go_sem] app_cpM app_gi app_pr nF SP DL vB JP takePr
theorem c_lower (hp:GP p):CB 54 [.agg [.vec p.globals.length (r7 p.globals),.vec p.mutexes.length (g6 p.mutexes),.vec p.funcs.length (o9 p.funcs)]] h (.tup [.agg (encUn (cZ p)),.int .i64 0,.int .i64 0,.int .i64 0]):=by
  refine .bz Tryz.f54 112 ?_;have hdl:=pZ (p:=p);have hgl:=hp.gl;have hml:=hp.ml;have hfl:=hp.fl;have hmain:=JO hp;have hz0:(p.funcs.getD 0 j8).params.length=0:=by rw[(hp.fn 0 (by omega)).2.1 rfl];rfl
  refine c10z ?_;refine c68z ?_;refine .ca rfl rfl (c_valid hp) ?_;refine .n ?_;refine c20z ?_;refine c68z ?_;refine .ca rfl rfl (c_decl hp) ?_;refine c33z ?_;refine .c7 [1,2,6,7] ?_;refine c9z ?_;refine .sk ?_;refine c68z ?_;refine .ca rfl rfl (Q8 hmain (by omega)) ?_;refine c33z ?_;refine .s ?_;refine .k 8 [(2,37)] ?_;refine .k 8 [(7,42)] ?_;refine .m [(7,42)] ?_;refine uFbz ?_;intro e1 qe1;refine .sk ?_;refine .c7 [1,2,6,8,30] ?_;refine .sg u4 (mkH 9 [0,1,0,0,8,28,63,0,255] [2,5,7,8] [(2,0),(7,1)] [0,4,36,128,132,164,420] [0,1,2,3,4,5,6]) 2 ?_;refine c30z ?_;refine .em [true] [4,0] [_] ?_;refine .p 1 ?_;refine .rm [true,true] ?_;refine .em [true,false] [36,4,0] [_] ?_;refine .p 1 ?_;refine .en [true,true,true] [164,132,128,36,4,0] [_,_,_] ?_;refine .en [true,false,false,false,false,false] [420,164,132,128,36,4,0] [_] ?_;refine .po [false,false,true,false,false,true,false] ?_;refine .po [false,false,true,true,false,true,true] ?_;refine .po [false,false,false,true,false,false,true] ?_;refine .po [false,true,true,true,true,true,true] ?_;refine w4.nil rfl ?_;refine .seq ?_;refine .c7 [1,2,6,10,30] ?_;refine c15z ?_;refine g5.mI (β:=h.length+4) (k:=0) t23 rfl ?_;simp only[List.append_assoc,List.cons_append,List.nil_append,p8,l8,List.set_cons_succ,List.set_cons_zero,List.length_append,List.length_cons,List.length_nil,Nat.reduceAdd,Nat.zero_add];refine .s4 (fun m st=>∃(i:Nat),(m=p.globals.length-i∧i≤p.globals.length)∧st=⟨mkS 112 [(1,AV.ptr h.length 0 0),(2,AV.ptr (h.length+1) 0 0),(6,AV.vec (aL p).length (l3 (aL p))),(10,AV.ptr (h.length+4) 1 0),(11,AV.int .i64 ((i:Nat):Int))],h++[⟨0,false,27,3,[.vec p.globals.length (r7 p.globals),.vec p.mutexes.length (g6 p.mutexes),.vec p.funcs.length (o9 p.funcs)],0⟩,⟨0,false,30,4,[.nils,.nils,.nils,.int .i64 0],0⟩,⟨0,false,145,3,[.str ⟨#[109,97,105,110]⟩,.int .i64 3,.int .i64 0],0⟩,⟨2,false,66,3,g6 p.mutexes,0⟩,⟨1,false,30,4,[.own (h.length+5) i 0 i,.own (h.length+3) 2 0 p.mutexes.length,.nils,.int .i64 0],0⟩,o8 3 1 i (g8 ((cZ p).globals.take i))]⟩) (.v ⟨0,⟨rfl,by omega⟩,rfl⟩) ?_;rintro m sl h' ⟨i,⟨hm,hi⟩,hst⟩;obtain ⟨rfl,rfl⟩:=St.mk.inj hst;clear hst;have htl:((cZ p).globals.take i).length=i:=by simp[cZ];omega
  refine c0z ?_;refine u2z ?_ ?_
  ·intro e2 qe2;refine c3z ?_;refine .og u4 (mkH 12 [0,1,0,4,0,28,60,124,252,511,1023,2047] [8,9,11] [] [0,256,768,2816] [0,1]) 0 ?_;refine c30z ?_;refine .p 1 ?_;refine c246z ?_;refine .en [true] [256,0] [_] ?_;refine .en [true,false] [768,256,0] [_] ?_;refine .p 1 ?_;refine .en [true,false,false] [2816,768,256,0] [_] ?_;refine c140z ?_;refine .c7 [1,2,6,10,11] ?_;refine .rz ?_;exact ⟨_,by omega,.v ⟨(i+1),⟨rfl,by omega⟩,rfl⟩ (he:=by (rw[taken (d:=0) (l:=(cZ p).globals) (by simp[cZ];omega),show (cZ p).globals.getD i 0=(p.globals.getD i lQ).init from getD_map (by omega)];simp only[List.append_assoc,List.cons_append,List.nil_append];rfl)) (hk:=by exact (u6.refl _).app rfl ⟨.inl rfl,.inl rfl,.inl rfl,.inl rfl,.inr (fF.get ⟨.own _ _ _ _ (by simp),.own _ _ _ _ (by simp),.nils,.int _ _,trivial⟩),.inr (by rw[o1];exact (xJ _).refs _),trivial⟩)⟩
  intro e2 qe2;refine .exit ?_;obtain rfl:i=p.globals.length:=by omega
  change g5 ..;refine c5z ?_;refine g5.mI (β:=h.length+4) (k:=2) t23 rfl ?_;simp only[List.append_assoc,List.cons_append,List.nil_append,p8,l8,List.set_cons_succ,List.set_cons_zero,List.length_append,List.length_cons,List.length_nil,Nat.reduceAdd,Nat.zero_add];refine .s4 (fun m st=>∃(i:Nat),(m=p.funcs.length-i∧i≤p.funcs.length)∧st=⟨mkS 112 [(1,AV.ptr h.length 0 0),(2,AV.ptr (h.length+1) 0 0),(6,AV.vec (aL p).length (l3 (aL p))),(10,AV.ptr (h.length+4) 1 0),(12,AV.int .i64 ((i:Nat):Int))],h++[⟨0,false,27,3,[.vec p.globals.length (r7 p.globals),.vec p.mutexes.length (g6 p.mutexes),.vec p.funcs.length (o9 p.funcs)],0⟩,⟨0,false,30,4,[.nils,.nils,.nils,.int .i64 0],0⟩,⟨0,false,145,3,[.str ⟨#[109,97,105,110]⟩,.int .i64 3,.int .i64 0],0⟩,⟨2,false,66,3,g6 p.mutexes,0⟩,⟨1,false,30,4,[.own (h.length+5) p.globals.length 0 p.globals.length,.own (h.length+3) 2 0 p.mutexes.length,.own (h.length+6) i 0 i,.int .i64 0],0⟩,o8 3 1 p.globals.length (g8 ((cZ p).globals.take p.globals.length)),o8 57 5 i (g9 ((cZ p).procs.take i))]⟩) (.v ⟨0,⟨rfl,by omega⟩,rfl⟩) ?_;rintro m sl h' ⟨i,⟨hm,hi⟩,hst⟩;obtain ⟨rfl,rfl⟩:=St.mk.inj hst;clear hst;have htl:((cZ p).procs.take i).length=i:=by simp[cZ];omega
  refine c0z ?_;refine u2z ?_ ?_
  ·intro e3 qe3;refine c3z ?_;refine .sg u4 (mkH 18 [0,0,0,4,0,28,60,127,255,511,511,511,511,0,9215,26623,61439,131071] [13,14] [] [0,8192,24576] [0,1,2,3,4,5,6,7,8,9,10,11,12]) 0 ?_;refine .rm [true] ?_;refine .p 2 ?_;refine .rm [true] ?_;refine .p 2 ?_;refine .rm [true] ?_;refine .cl rfl rfl (fun _=>c_func hp (by omega)) ?_;refine .p 5 ?_;refine .en [true] [8192,0] [_] ?_;refine .en [true,false] [24576,8192,0] [_] ?_;refine .p 3 ?_;refine c37z ?_;refine c187z ?_;refine .seq ?_;refine .c7 [1,2,6,10,12,13,15,16] ?_;refine c9z ?_;refine .sk ?_;refine c1z ?_;refine .c7 [1,2,6,10,12] ?_;refine .rz ?_;exact ⟨_,by omega,.v ⟨(i+1),⟨rfl,by omega⟩,rfl⟩ (he:=by (rw[taken (d:=pO) (l:=(cZ p).procs) (by simp[cZ];omega),show (cZ p).procs.getD i pO=nP p (p.funcs.getD i j8) from getD_map (by omega)];simp only[List.append_assoc,List.cons_append,List.nil_append];rfl)) (hk:=by exact (u6.refl _).app rfl ⟨.inl rfl,.inl rfl,.inl rfl,.inl rfl,.inr (fF.get ⟨.own _ _ _ _ (by simp),.own _ _ _ _ (by simp),.own _ _ _ _ (by simp),.int _ _,trivial⟩),.inl rfl,.inr (by rw[o1];exact (plnPr _).refs _),trivial⟩)⟩
  intro e3 qe3;refine .exit ?_;obtain rfl:i=p.funcs.length:=by omega
  have hgt:(cZ p).globals.take p.globals.length=(cZ p).globals:=List.take_of_length_le (by simp[cZ]);have hpt:(cZ p).procs.take p.funcs.length=(cZ p).procs:=List.take_of_length_le (by simp[cZ]);rw[hgt,hpt];have hgl2:(cZ p).globals.length=p.globals.length:=by simp[cZ]
  have hpl2:(cZ p).procs.length=p.funcs.length:=by simp[cZ]
  refine g5.nO (γ:=h.length+5) (β:=h.length+4) (k:=0) (len:=p.globals.length) t23 (by rw[l9,hgl2,Nat.mul_one]) (by omega) (xJ _) t23 (by omega) rfl ?_;simp only[List.append_assoc,List.cons_append,List.nil_append,p8,l8,List.set_cons_succ,List.set_cons_zero,List.length_append,List.length_cons,List.length_nil,Nat.reduceAdd,Nat.zero_add];generalize fG 3 1 p.globals.length (g8 (cZ p).globals) (p.globals.length*1)=Gb;refine g5.nO (γ:=h.length+6) (β:=h.length+4) (k:=2) (len:=p.funcs.length) t23 (by rw[z4,hpl2,Nat.mul_comm]) (by omega) (plnPr _) t23 (by omega) rfl ?_;simp only[List.append_assoc,List.cons_append,List.nil_append,p8,l8,List.set_cons_succ,List.set_cons_zero,List.length_append,List.length_cons,List.length_nil,Nat.reduceAdd,Nat.zero_add];generalize fG 57 5 p.funcs.length (g9 (cZ p).procs) (p.funcs.length*5)=Pb;refine g5.zR (γ:=h.length+3) (β:=h.length+4) (k:=1) (off:=0) (len:=p.mutexes.length) (cs:=g6 p.mutexes) t23 rfl (by simp only[o4];omega) (by rw[List.drop_zero,List.take_of_length_le (by simp only[o4];omega)];exact (plnMx _).OV) t23 (by omega) rfl ?_;refine c13z ?_;refine .c7 [2,10] ?_;refine .z ?_;exact .ret (.ex (hq:=by (simp only[encUn,hgl2,hpl2];rfl)))
end
end Go.Proofs.YtonbocmibeikmaaGreat
end
section
namespace Go.Proofs.YtonbocmibeikmaaGreat
open Go.Ab Go.Un
variable {a b:List Int}{i:Nat}
theorem ne_at (h:a.getD i 0≠b.getD i 0):¬a=b:=fun e=>h (by rw[e])
theorem eq_all (hl:a.length=b.length)(h:∀d,d<a.length→a.getD d 0=b.getD d 0):a=b:=by refine List.ext_getElem hl fun i h1 h2=>?_;have:=h i h1;simpa [List.getD,h1,h2] using this
theorem all_nx (h:∀d,d<i→a.getD d 0=b.getD d 0)(e:a.getD i 0=b.getD i 0):∀d,d<i+1→a.getD d 0=b.getD d 0:=fun d hd=>by
  by_cases hdi:d=i
  · rw[hdi];exact e
  · exact h d (by omega)
variable {l:List Int}{n:Int}
theorem no_nx (h:∀d,d<i→l.getD d 0≠n)(e:l.getD i 0≠n):∀d,d<i+1→l.getD d 0≠n:=fun d hd=>by
  by_cases hdi:d=i
  · rw[hdi];exact e
  · exact h d (by omega)
theorem no_mem (h:∀d,d<l.length→l.getD d 0≠n):¬n∈l:=fun hm=>by obtain ⟨i,hi,rfl⟩:=bP (d:=(0:Int)) hm;exact h i hi rfl
theorem take_I {k:Nat}:List.take k (g8 l)=g8 (l.take k):=by simp[g8,List.map_take]
theorem dropt_I {k:Nat}:List.take (l.length-k) (List.drop k (g8 l))=g8 (l.drop k):=by rw[g8,←List.map_drop,List.take_of_length_le (by simp)];rfl
theorem fM (h:i<l.length):List.take 1 (List.drop i (g8 l))=[.int .i64 (l.getD i 0)]:=by
  have h2:i<(g8 l).length:=by rw[l9];exact h
  rw[List.drop_eq_getElem_cons h2];simp[g8,List.getD,h]
def gW (g n:Nat):Nat:=if n=0 then g else g+1
def kW (l:List Int)(n:Int):Nat:=(l.takeWhile fun x=>decide (x<n)).length
def jO (l:List Int)(n:Int):List Int:=if n∈l then l else l.take (kW l n)++n::l.drop (kW l n)
theorem kW_at:∀{k:Nat},k≤l.length→(∀d,d<k→l.getD d 0<n)→(k<l.length→¬l.getD k 0<n)→k=kW l n:=by
  induction l with
  | nil=>intro k hk _ _;simp at hk;subst hk;rfl
  | cons x l ih=>
    intro k hk h1 h2;cases k with
    | zero=>
      have:=h2 (by simp);simp only[List.getD_cons_zero]at this;simp[kW,List.takeWhile,this]
    | succ k=>
      have h0:=h1 0 (by omega);simp only[List.getD_cons_zero]at h0;have:=ih (k:=k) (by simpa using hk) (fun d hd=>by have:=h1 (d+1) (by omega);simpa using this) (fun hl=>by have:=h2 (by simpa using hl);simpa using this);rw[kW,List.takeWhile_cons_of_pos (by simpa using h0),List.length_cons,this];rfl
theorem lt_nx (h:∀d,d<i→l.getD d 0<n)(e:l.getD i 0<n):∀d,d<i+1→l.getD d 0<n:=fun d hd=>by
  by_cases hdi:d=i
  · rw[hdi];exact e
  · exact h d (by omega)
variable {h:c6}{g:Nat}
theorem app_w {l:c6}{n m:Nat}(ha:a.length=n)(hb:b.length=m)(hn:n<150000)(hm:m<100000):j0 cfg 3 (h++(⟨g,false,3,1,g8 a,0⟩::l)) (.own h.length g 0 n) (.vec m (g8 b))=some (.own h.length (gW g m) 0 (n+m),h++(⟨gW g m,false,3,1,g8 (a++b),0⟩::l)):=by
  subst ha hb;have e1:cfg.sz 3=1:=rfl;have e2:(cfg.ti 3).bytes=8:=rfl;have h1:a.length+b.length≤maxLen:=by
    have:(300000:Nat)≤maxLen:=by decide
    omega
  have h2:(a.length+b.length)*8≤140737488355328:=by omega
  have ht:List.take a.length (g8 a)=g8 a:=List.take_of_length_le t197;have hs:g8 (a++b)=g8 a++g8 b:=by simp[g8]
  cases b with
  | nil=>
    simp only[List.length_nil,Nat.add_zero]at h1 h2;simp[j0,rd,lenOf,e1,e2,gW,hs,g8,h1,h2]
  | cons x b=>
    simp only[List.length_cons]at h1 h2;have h3:¬a.length+(b.length+1)≤a.length:=by omega
    simp[j0,rd,lenOf,e1,e2,l9,h1,h2,ht,h3,gW,hs,eR,pA]
theorem app_w0 {l:c6}{m:Nat}(hb:b.length=m)(hm:m<100000):j0 cfg 3 (h++(⟨g,false,3,1,[],0⟩::l)) (.own h.length g 0 0) (.vec m (g8 b))=some (.own h.length (gW g m) 0 m,h++(⟨gW g m,false,3,1,g8 b,0⟩::l)):=by have:=app_w (h:=h) (l:=l) (a:=[]) (b:=b) (g:=g) (n:=0) rfl hb (by omega) hm;rw[Nat.zero_add]at this;exact this
theorem app_w1 {l:c6}{x:Int}{n:Nat}(ha:a.length=n)(hn:n<100000):j0 cfg 3 (h++(⟨g,false,3,1,g8 a,0⟩::⟨1,false,3,1,[.int .i64 x],0⟩::l)) (.own h.length g 0 n) (.own (h.length+1) 1 0 1)=some (.own h.length (g+1) 0 (n+1),h++(⟨g+1,false,3,1,g8 (a++[x]),0⟩::⟨1,false,3,1,[.int .i64 x],0⟩::l)):=by
  subst ha;have e1:cfg.sz 3=1:=rfl;have e2:(cfg.ti 3).bytes=8:=rfl;have h1:a.length+1≤maxLen:=by
    have:(200000:Nat)≤maxLen:=by decide
    omega
  have h2:(a.length+1)*8≤140737488355328:=by omega
  have ht:List.take a.length (g8 a)=g8 a:=List.take_of_length_le t197;have hs:g8 (a++[x])=g8 a++[.int .i64 x]:=mO;have h3:¬a.length+1≤a.length:=by omega
  simp[j0,rd,lenOf,e1,e2,l9,h1,h2,ht,h3,hs,p8,eR,pA]
theorem frz_I {n d:Nat}{H:c6}:p5 (kP n H (d+1)) (g8 l)=some (g8 l):=(xJ l).frz _ _ _
theorem L5 {n β len:Nat}{H:c6}(hb:H[β]?=some ⟨g,false,3,1,g8 a,0⟩)(hn:n≤β)(hl:a.length=len):gH n H 6 (.own β g 0 len)=some (.vec len (g8 a)):=by subst hl;rw[aY,if_neg (by omega),dE,hb];simp only[hn,and_self,if_true,Bool.false_eq_true,if_false,Nat.zero_add,Nat.mul_one,l9,Nat.le_refl,List.drop_zero];rw[List.take_of_length_le t197,frz_I]
def fI:List w6→w6→Int
  | [],_ => -1
  | a::l,x=>if a=x then 0 else if fI l x<0 then -1 else fI l x+1
theorem fI_at:∀{l:List w6} {x:w6} {i:Nat},i<l.length→(∀d,d<i→l.getD d c9≠x)→l.getD i c9=x→fI l x=i
  | [],x,i,h,_,_=>by simp at h
  | a::l,x,0,_,_,h=>by simp only[List.getD_cons_zero]at h;rw[fI,if_pos h];rfl
  | a::l,x,i+1,hi,h1,h2=>by have h0:=h1 0 (by omega);simp only[List.getD_cons_zero]at h0;have ih:=fI_at (l:=l) (x:=x) (i:=i) (by simpa using hi) (fun d hd=>by have:=h1 (d+1) (by omega);simpa using this) (by simpa using h2);rw[fI,if_neg h0,ih,if_neg (by omega)];omega
theorem Ck:∀{l:List w6} {x:w6},(∀d,d<l.length→l.getD d c9≠x)→fI l x = -1
  | [],x,_=>rfl
  | a::l,x,h=>by have h0:=h 0 (by simp);simp only[List.getD_cons_zero]at h0;have ih:=Ck (l:=l) (x:=x) (fun d hd=>by have:=h (d+1) (by simpa using hd);simpa using this);rw[fI,if_neg h0,ih,if_pos (by omega)]
theorem AM:∀{l:List w6} {x:w6},x∈l→0≤fI l x∧fI l x<l.length∧l.getD (fI l x).toNat c9=x
  | [],x,h=>by simp at h
  | a::l,x,h=>by
    by_cases hx:a=x
    · rw[fI,if_pos hx];simp[hx]
    · have ih:=AM (l:=l) (x:=x) (by simpa [Ne.symm hx] using h)
      rw[fI,if_neg hx,if_neg (by omega)];refine ⟨by omega,t55,?_⟩;rw[show (fI l x+1).toNat=(fI l x).toNat+1 from by omega];simpa using ih.2.2
variable {x:w6}
theorem fI_not {l:List w6}(h:x∉l):fI l x = -1:=Ck fun d hd e=>h (e▸j4 hd)
theorem it_ne {l:List w6}(h:∀d,d<i→l.getD d c9≠x)(e:l.getD i c9≠x):∀d,d<i+1→l.getD d c9≠x:=fun d hd=>by
  by_cases hdi:d=i
  · rw[hdi];exact e
  · exact h d (by omega)
theorem it_ne1 {l:List w6}(h:¬(l.getD i c9).proc=x.proc):l.getD i c9≠x:=fun e=>h (by rw[e])
theorem it_ne2 {l:List w6}(h:¬(l.getD i c9).j7=x.j7):l.getD i c9≠x:=fun e=>h (by rw[e])
theorem jA {l:List w6}(h:i<l.length):List.take 1 (List.drop (i*2) (j5 l))=[.int .i64 (l.getD i c9).proc]:=Q6 CR 2 0 (fun _=>rfl) (by omega) c9 h
theorem AN {l:List w6}(h:i<l.length):List.take 1 (List.drop (i*2+1) (j5 l))=[.vec (l.getD i c9).j7.length (g8 (l.getD i c9).j7)]:=Q6 CR 2 1 (fun _=>rfl) (by omega) c9 h
theorem jB {l:List w6}(h:i<l.length):List.take 2 (List.drop (i*2) (j5 l))=[.int .i64 (l.getD i c9).proc,.vec (l.getD i c9).j7.length (g8 (l.getD i c9).j7)]:=GW h
variable {u:Un}{it:w6}
theorem bV (h:it.proc.toNat<u.procs.length):List.take 1 (List.drop (it.proc.toNat*5+4) (g9 u.procs))=[.vec (c5 u it).length (p9 (c5 u it))]:=Q6 vC 5 4 (fun _=>rfl) (by omega) pO h
theorem fA {l:List Ins}(h:i<l.length):List.take 1 (List.drop (i*12) (p9 l))=[.int .i64 (l.getD i c8).op]:=by rw[show i*12=i*12+0 from rfl,p9,Q6 eH 12 0 aN (by omega) c8 h,lG];rfl
theorem SQ {l:List Ins}(h:i<l.length):List.take 1 (List.drop (i*12+1) (p9 l))=[.int .i64 (l.getD i c8).target]:=by rw[p9,Q6 eH 12 1 aN (by omega) c8 h,lG];rfl
theorem SR {l:List Ins}(h:i<l.length):List.take 1 (List.drop (i*12+11) (p9 l))=[.vec (l.getD i c8).places.length (cY (l.getD i c8).places)]:=by rw[p9,Q6 eH 12 11 aN (by omega) c8 h,lG];rfl
theorem SS {l:List Pl}(h:i<l.length):List.take 3 (List.drop (i*3) (cY l))=[.bool (l.getD i bO).param,.int .i64 (l.getD i bO).index,.vec (l.getD i bO).at'.length (n5 (l.getD i bO).at')]:=read_pl h
theorem app_lk {b0 b1 b2 b3:Blk}{l:c6}{is:List Int}{x:Int}{n:Nat}(hn:is.length=n)(hl:n<100000):j0 cfg 3 (h++(b0::b1::b2::b3::o8 3 1 g (g8 is)::⟨0,false,3,1,[.int .i64 x],0⟩::l)) (.own (h.length+4) g 0 n) (.own (h.length+5) 0 0 1)=some (.own (h.length+4) (g+1) 0 (n+1),h++(b0::b1::b2::b3::o8 3 1 (g+1) (g8 (is++[x]))::⟨0,false,3,1,[.int .i64 x],0⟩::l)):=by subst hn;rw[u3 (C:=cfg) (K:=1) (m:=1) (new:=[.int .i64 x]) (zs:=g8 is) t23 rfl (by omega) t186 rfl (by omega) t98 rfl (by decide) (by omega),←mO,l8];rfl
attribute [local go_sem] rd r9 o3 bA cI s6 aN fO dF o4 aW aK l9 bC Int.natCast_nonneg Int.natCast_inj List.length_map wrap64 fW iY iZ Y8 J7 P4 Y9 tN max2 eU cN bD Nat.reduceMul nC kB iM vT fM app_w app_w0 app_w1 Nat.sub_zero Option.bind_eq_bind take_I dropt_I jA AN jB bV fA SQ SR SS app_lk u5 z4
theorem WY (a b:List Int)(hl:a.length<1000000):CB 31 [.vec a.length (g8 a),.vec b.length (g8 b)] h (.bool (decide (a=b))):=by
  refine .bz Tryz.f31 26 ?_;refine c66z ?_;refine u2z ?_ ?_
  ·intro e1 qe1;refine c86z ?_;exact ⟨[],_,(List.append_nil _).symm,t42,t56⟩
  intro e1 qe1;refine .sk ?_;refine c5z ?_;refine .cU (fun m st=>∃(i:Nat),(m=a.length-i∧((∀d,d<i→a.getD d 0=b.getD d 0)∧i≤a.length))∧st=⟨mkS 26 [(0,AV.vec a.length (g8 a)),(1,AV.vec b.length (g8 b)),(5,AV.int .i64 ((i:Nat):Int))],h⟩) _ (.v ⟨0,⟨rfl,⟨t104,by omega⟩⟩,rfl⟩) ?_;rintro m sl h' ⟨i,⟨hm,⟨hI,hi⟩⟩,hst⟩;obtain ⟨rfl,rfl⟩:=St.mk.inj hst;refine c0z ?_;refine u2z ?_ ?_
  ·intro e2 qe2;refine c3z ?_;refine c192z ?_;refine u2z ?_ ?_
   ·intro e3 qe3;refine c86z ?_;exact ⟨[],_,(List.append_nil _).symm,t42,t56⟩
   intro e3 qe3;refine c4z ?_;refine c213z ?_;exact ⟨_,by omega,.v ⟨(i+1),⟨rfl,⟨all_nx hI (by omega),by omega⟩⟩,rfl⟩⟩
  intro e2 qe2;refine c92z ?_;exact ⟨[],_,(List.append_nil _).symm,t42,t56⟩
theorem WZ (l:List Int)(n:Int)(hl:l.length<1000000):CB 109 [.vec l.length (g8 l),.int .i64 n] h (.bool (decide (n∈l))):=by
  refine .bz Tryz.f109 18 ?_;refine c19z ?_;refine .cU (fun m st=>∃(i:Nat),(m=l.length-i∧((∀d,d<i→l.getD d 0≠n)∧i≤l.length))∧st=⟨mkS 18 [(0,AV.vec l.length (g8 l)),(1,AV.int .i64 n),(5,AV.int .i64 ((i:Nat):Int))],h⟩) _ (.v ⟨0,⟨rfl,⟨t104,by omega⟩⟩,rfl⟩) ?_;rintro m sl h' ⟨i,⟨hm,⟨hI,hi⟩⟩,hst⟩;obtain ⟨rfl,rfl⟩:=St.mk.inj hst;refine c0z ?_;refine u2z ?_ ?_
  ·intro e1 qe1;refine c45z ?_;refine u2z ?_ ?_
   ·intro e2 qe2;refine c86z ?_;exact ⟨[],_,(List.append_nil _).symm,t42,t100⟩
   intro e2 qe2;refine c4z ?_;refine c213z ?_;exact ⟨_,by omega,.v ⟨(i+1),⟨rfl,⟨no_nx hI (by omega),by omega⟩⟩,rfl⟩⟩
  intro e1 qe1;refine c92z ?_;exact ⟨[],_,(List.append_nil _).symm,t42,t100⟩
theorem c_hasY (hm:n∈l)(hl:l.length<1000000):CB 109 [.vec l.length (g8 l),.int .i64 n] h (.bool true):=by have:=WZ (h:=h) l n hl;rw[decide_eq_true hm]at this;exact this
theorem c_hasN (hm:n∉l)(hl:l.length<1000000):CB 109 [.vec l.length (g8 l),.int .i64 n] h (.bool false):=by have:=WZ (h:=h) l n hl;rw[decide_eq_false hm]at this;exact this
theorem c_withY (l:List Int)(n:Int)(hl:l.length<100000)(hmem:n∈l):CB 69 [.vec l.length (g8 l),.int .i64 n] h (.vec (jO l n).length (g8 (jO l n))):=by refine .bz Tryz.f69 36 ?_;refine c10z ?_;refine c34z ?_;refine .ca rfl rfl (c_hasY hmem (by omega)) ?_;refine .nil ?_;refine .T ?_;refine .z ?_;exact .ret (.ex (hq:=by (rw[jO,if_pos hmem])))
theorem c_withN (l:List Int)(n:Int)(hl:l.length<100000)(hmem:n∉l):CB 69 [.vec l.length (g8 l),.int .i64 n] h (.vec (jO l n).length (g8 (jO l n))):=by
  refine .bz Tryz.f69 36 ?_;refine c10z ?_;refine c34z ?_;refine .ca rfl rfl (c_hasN hmem (by omega)) ?_;refine .nil ?_;refine c142z ?_;refine .sb ?_;refine .cU (fun m st=>∃(i:Nat),(m=l.length-i∧((∀d,d<i→l.getD d 0<n)∧i≤l.length))∧st=⟨mkS 36 [(0,AV.vec l.length (g8 l)),(1,AV.int .i64 n),(5,AV.int .i64 ((i:Nat):Int))],h⟩) _ (.v ⟨0,⟨rfl,⟨t104,by omega⟩⟩,rfl⟩) ?_;rintro m sl h' ⟨i,⟨hm,⟨hI,hi⟩⟩,hst⟩;obtain ⟨rfl,rfl⟩:=St.mk.inj hst;refine .seq ?_;refine c24z ?_;refine .spl 14 rfl rfl (fun e1=>?_) (fun e1=>?_)
  ·try simp only[e1]
   have qe1:=fact e1;refine .m [(4,14)] ?_;refine u2z ?_ ?_
   ·intro e2 qe2;refine c123z ?_;refine c213z ?_;exact ⟨_,by omega,.v ⟨(i+1),⟨rfl,⟨lt_nx hI (by omega),by omega⟩⟩,rfl⟩⟩
   intro e2 qe2;refine .exit ?_;have hkw:i=kW l n:=kW_at hi hI (by intro _;omega);have hdl:(l.drop i).length=l.length-i:=List.length_drop;have htl:(l.take i).length=i:=by rw[List.length_take];omega
   have hcl:(l.take i++[n]).length=i+1:=by rw[List.length_append,htl];rfl
   change g5 ..;refine .c7 [0,1,5] ?_;refine .sg u4 (mkH 13 [0,0,0,6,15,0,32,127,0,0,768,2047,4095] [0,4,6,7,11] [(0,0),(6,1)] [0,1,17,64,65,81,209,2257] [0,1,2,3,4]) 2 ?_;refine .em [true] [1,0] [_] ?_;refine .p 3 ?_;refine .em [true,false] [17,1,0] [_] ?_;refine .p 1 ?_;refine .en [true,true,true] [81,65,64,17,1,0] [_,_,_] ?_;refine .en [true,false,false,false,false,false] [209,81,65,64,17,1,0] [_] ?_;refine .p 3 ?_;refine .en [true,false,false,false,false,false,false] [2257,209,81,65,64,17,1,0] [_] ?_;refine .p 1 ?_;refine c65z ?_;refine w4.nil rfl ?_;refine c2z ?_;exact ⟨_,_,rfl,L5 t130 (Nat.le_refl _) t109,t149⟩
  try simp only[e1]
  have qe1:=fact e1;refine .m [(4,14)] ?_;refine .F ?_;refine .exit ?_;have hkw:i=kW l n:=kW_at hi hI (by intro _;omega);have hdl:(l.drop i).length=l.length-i:=List.length_drop;have htl:(l.take i).length=i:=by rw[List.length_take];omega
  have hcl:(l.take i++[n]).length=i+1:=by rw[List.length_append,htl];rfl
  change g5 ..;refine .c7 [0,1,5] ?_;refine .sg u4 (mkH 13 [0,0,0,6,15,0,32,127,0,0,768,2047,4095] [0,4,6,7,11] [(0,0),(6,1)] [0,1,17,64,65,81,209,2257] [0,1,2,3,4]) 2 ?_;refine .em [true] [1,0] [_] ?_;refine .p 3 ?_;refine .em [true,false] [17,1,0] [_] ?_;refine .p 1 ?_;refine .en [true,true,true] [81,65,64,17,1,0] [_,_,_] ?_;refine .en [true,false,false,false,false,false] [209,81,65,64,17,1,0] [_] ?_;refine .p 3 ?_;refine .en [true,false,false,false,false,false,false] [2257,209,81,65,64,17,1,0] [_] ?_;refine .p 1 ?_;refine c65z ?_;refine w4.nil rfl ?_;refine c2z ?_;exact ⟨_,_,rfl,L5 t130 (Nat.le_refl _) t109,t149⟩
theorem JQ (l:List Int)(n:Int)(hl:l.length<100000):CB 69 [.vec l.length (g8 l),.int .i64 n] h (.vec (jO l n).length (g8 (jO l n))):=by
  by_cases hm:n∈l
  · exact c_withY l n hl hm
  · exact c_withN l n hl hm
theorem JR (it:w6)(p:Pl)(hp:p.param=true→0≤p.index∧p.index.toNat<it.j7.length):CB 135 [.agg [.int .i64 it.proc,.vec it.j7.length (g8 it.j7)],.agg [.bool p.param,.int .i64 p.index,.vec p.at'.length (n5 p.at')]] h (.int .i64 (xX it p)):=by
  refine .bz Tryz.f135 15 ?_;refine c66z ?_;refine u2z ?_ ?_
  ·intro e1 qe1;have hpp:=hp (by assumption);refine .z ?_;exact .ret (.ex (hq:=by (unfold xX;simp_all)))
  intro e1 qe1;refine .sk ?_;refine .z ?_;exact .ret (.ex (hq:=by (unfold xX;simp_all)))
theorem n8 (hu:WU u)(w:WIt u it):(c5 u it).length≤1664:=by have:=(vI hu (l:=[it]) (by simp) (by simpa using w)).2;simpa using this
variable {pc:Nat}
theorem JS (hu:WU u)(w:WIt u it)(hpc:pc<(c5 u it).length)(hc:iN ((c5 u it).getD pc c8)):∀p∈((c5 u it).getD pc c8).places,p.param=true→0≤p.index∧p.index.toNat<it.j7.length:=by
  obtain ⟨_,_,_,hh⟩:=(fT hu w).2.2 pc hpc;intro p hp hpar;obtain ⟨h0,⟨_,h2⟩ | ⟨h1,_⟩⟩:=(hh hc).2.2 p hp
  · refine ⟨h0,?_⟩
    rw[w.len];simp only at h2;omega
  · rw[hpar]at h1;cases h1
theorem DM (hu:WU u)(w:WIt u it)(hpc:pc<(c5 u it).length)(hc:iN ((c5 u it).getD pc c8)):((c5 u it).getD pc c8).places.length≤2:=by have h1:=xY hu w hpc hc;have h2:=h1.len;have h3:=hu.j7 (dO u it pc).proc.toNat (by have:=h1.lo;have:=h1.hi;omega);simp only[dO,List.length_map]at h2 h3;omega
theorem JT (hu:WU u)(w:WIt u it)(hpc:pc<(c5 u it).length)(hc:¬iN ((c5 u it).getD pc c8)):CB 91 [.agg [.vec u.globals.length (g8 u.globals),.vec u.mutexes.length (g6 u.mutexes),.vec u.procs.length (g9 u.procs),.int .i64 u.main],.agg [.int .i64 it.proc,.vec it.j7.length (g8 it.j7)],.int .i64 ((pc:Nat):Int)] h (.tup [.agg [.int .i64 0,.vec 0 []],.bool false]):=by
  refine .bz Tryz.f91 75 ?_;have w1:=w.lo;have w2:=w.hi;have hsz:(c5 u it).length≤1664:=n8 hu w;refine c125z ?_;refine .c7 [2,4,6,8] ?_;refine c18z ?_;refine .spl 20 rfl rfl (fun e1=>by exfalso;have q:=fact e1;omega) (fun e1=>?_);try simp only[e1]
  have qe1:=fact e1;refine .k 6 [(2,20)] ?_;refine .spl 26 rfl rfl (fun e2=>by exfalso;have q:=fact e2;omega) (fun e2=>?_);try simp only[e2]
  have qe2:=fact e2;refine .k 7 [(8,26)] ?_;refine .spl 33 rfl rfl (fun e3=>?_) (fun e3=>by exfalso;have q:=fact e3;exact hc (.inl (by omega)));try simp only[e3]
  have qe3:=fact e3;refine .m [(8,26),(15,33)] ?_;refine .spl 41 rfl rfl (fun e4=>?_) (fun e4=>by exfalso;have q:=fact e4;exact hc (.inr (by omega)));try simp only[e4]
  have qe4:=fact e4;refine .T ?_;refine .c7 [6] ?_;refine .z ?_;exact .ret (.ex (hq:=by rfl))
theorem JU (hu:WU u)(w:WIt u it)(hpc:pc<(c5 u it).length)(hc:iN ((c5 u it).getD pc c8)):CB 91 [.agg [.vec u.globals.length (g8 u.globals),.vec u.mutexes.length (g6 u.mutexes),.vec u.procs.length (g9 u.procs),.int .i64 u.main],.agg [.int .i64 it.proc,.vec it.j7.length (g8 it.j7)],.int .i64 ((pc:Nat):Int)] h (.tup [.agg [.int .i64 (dO u it pc).proc,.vec (dO u it pc).j7.length (g8 (dO u it pc).j7)],.bool true]):=by
  refine .bz Tryz.f91 75 ?_;have w1:=w.lo;have w2:=w.hi;have hsz:(c5 u it).length≤1664:=n8 hu w;have hpl:=JS hu w hpc hc;have hpn:=DM hu w hpc hc;refine c125z ?_;refine .c7 [2,4,6,8] ?_;refine c18z ?_;refine .spl 20 rfl rfl (fun e1=>by exfalso;have q:=fact e1;omega) (fun e1=>?_);try simp only[e1]
  have qe1:=fact e1;refine .k 6 [(2,20)] ?_;refine .spl 26 rfl rfl (fun e2=>by exfalso;have q:=fact e2;omega) (fun e2=>?_);try simp only[e2]
  have qe2:=fact e2;refine .k 7 [(8,26)] ?_;refine .spl 33 rfl rfl (fun e3=>?_) (fun e3=>?_)
  ·try simp only[e3]
   have qe3:=fact e3;refine .m [(8,26),(15,33)] ?_;refine .spl 41 rfl rfl (fun e4=>by exfalso;have q:=fact e4;rcases hc with hc | hc<;>omega) (fun e4=>?_);try simp only[e4]
   have qe4:=fact e4;refine c20z ?_;refine .c7 [2,4,6,8] ?_;refine c19z ?_;refine g5.mI (β:=h.length+3) (k:=1) t23 rfl ?_;simp only[List.append_assoc,List.cons_append,List.nil_append,p8,l8,List.set_cons_succ,List.set_cons_zero,List.length_append,List.length_cons,List.length_nil,Nat.reduceAdd,Nat.zero_add];refine .s4 (fun m st=>∃(q:Nat),(m=((c5 u it).getD pc c8).places.length-q∧q≤((c5 u it).getD pc c8).places.length)∧st=⟨mkS 75 [(2,AV.int .i64 ((pc:Nat):Int)),(4,AV.ptr (h.length+1) 0 0),(6,AV.ptr (h.length+2) 0 0),(8,AV.vec (c5 u it).length (p9 (c5 u it))),(9,AV.ptr (h.length+3) 0 0),(10,AV.int .i64 ((q:Nat):Int))],h++[⟨0,false,30,4,[.vec u.globals.length (g8 u.globals),.vec u.mutexes.length (g6 u.mutexes),.vec u.procs.length (g9 u.procs),.int .i64 u.main],0⟩,⟨0,false,46,2,[.int .i64 it.proc,.vec it.j7.length (g8 it.j7)],0⟩,⟨0,false,46,2,[.int .i64 0,.nils],0⟩,⟨0,false,46,2,[.int .i64 ((c5 u it).getD pc c8).target,.own (h.length+4) q 0 q],0⟩,o8 3 1 q (g8 ((((c5 u it).getD pc c8).places.take q).map (xX it)))]⟩) (.v ⟨0,⟨rfl,by omega⟩,rfl⟩) ?_;rintro m sl h' ⟨q,⟨hm,hq⟩,hst⟩;obtain ⟨rfl,rfl⟩:=St.mk.inj hst;clear hst;have htl:((((c5 u it).getD pc c8).places.take q).map (xX it)).length=q:=by rw[List.length_map,List.length_take];omega
   refine c0z ?_;refine u2z ?_ ?_
   ·intro e5 qe5;refine c3z ?_;refine .c7 [2,4,6,8,9,10] ?_;refine .og u4 (mkH 16 [0,1,0,0,0,24,56,120,0,504,1016,2044,4092,8191,16383,32767] [12,13,15] [] [0,4096,12288,45056] [0,1]) 0 ?_;refine c30z ?_;refine .rn [true] ?_;refine c172z ?_;refine c70z ?_;refine .cl rfl rfl (fun _=>JR it (((c5 u it).getD pc c8).places.getD q bO) (hpl _ (j4 (d:=bO) (i:=q) (by omega)))) ?_;refine .en [true] [4096,0] [_] ?_;refine .en [true,false] [12288,4096,0] [_] ?_;refine .p 1 ?_;refine .en [true,false,false] [45056,12288,4096,0] [_] ?_;refine c140z ?_;refine .c7 [2,4,6,8,9,10] ?_;refine .rz ?_;exact ⟨_,by omega,.v ⟨(q+1),⟨rfl,by omega⟩,rfl⟩ (he:=t126) (hk:=t111)⟩
   intro e5 qe5;refine .exit ?_;obtain rfl:q=((c5 u it).getD pc c8).places.length:=by omega
   rw[List.take_length]at htl ⊢;refine g5.nO (γ:=h.length+4) (β:=h.length+3) (k:=1) (len:=((c5 u it).getD pc c8).places.length) t23 (by rw[l9,htl,Nat.mul_one]) (by omega) (xJ _) t23 (by omega) rfl ?_;refine c13z ?_;refine c245z ?_;exact .ret (.ex (hq:=by (simp only[dO,List.length_map])))
  try simp only[e3]
  have qe3:=fact e3;refine .m [(8,26),(15,33)] ?_;refine c20z ?_;refine .c7 [2,4,6,8] ?_;refine c19z ?_;refine g5.mI (β:=h.length+3) (k:=1) t23 rfl ?_;simp only[List.append_assoc,List.cons_append,List.nil_append,p8,l8,List.set_cons_succ,List.set_cons_zero,List.length_append,List.length_cons,List.length_nil,Nat.reduceAdd,Nat.zero_add];refine .s4 (fun m st=>∃(q:Nat),(m=((c5 u it).getD pc c8).places.length-q∧q≤((c5 u it).getD pc c8).places.length)∧st=⟨mkS 75 [(2,AV.int .i64 ((pc:Nat):Int)),(4,AV.ptr (h.length+1) 0 0),(6,AV.ptr (h.length+2) 0 0),(8,AV.vec (c5 u it).length (p9 (c5 u it))),(9,AV.ptr (h.length+3) 0 0),(10,AV.int .i64 ((q:Nat):Int))],h++[⟨0,false,30,4,[.vec u.globals.length (g8 u.globals),.vec u.mutexes.length (g6 u.mutexes),.vec u.procs.length (g9 u.procs),.int .i64 u.main],0⟩,⟨0,false,46,2,[.int .i64 it.proc,.vec it.j7.length (g8 it.j7)],0⟩,⟨0,false,46,2,[.int .i64 0,.nils],0⟩,⟨0,false,46,2,[.int .i64 ((c5 u it).getD pc c8).target,.own (h.length+4) q 0 q],0⟩,o8 3 1 q (g8 ((((c5 u it).getD pc c8).places.take q).map (xX it)))]⟩) (.v ⟨0,⟨rfl,by omega⟩,rfl⟩) ?_;rintro m sl h' ⟨q,⟨hm,hq⟩,hst⟩;obtain ⟨rfl,rfl⟩:=St.mk.inj hst;clear hst;have htl:((((c5 u it).getD pc c8).places.take q).map (xX it)).length=q:=by rw[List.length_map,List.length_take];omega
  refine c0z ?_;refine u2z ?_ ?_
  ·intro e6 qe6;refine c3z ?_;refine .c7 [2,4,6,8,9,10] ?_;refine .og u4 (mkH 16 [0,1,0,0,0,24,56,120,0,504,1016,2044,4092,8191,16383,32767] [12,13,15] [] [0,4096,12288,45056] [0,1]) 0 ?_;refine c30z ?_;refine .rn [true] ?_;refine c172z ?_;refine c70z ?_;refine .cl rfl rfl (fun _=>JR it (((c5 u it).getD pc c8).places.getD q bO) (hpl _ (j4 (d:=bO) (i:=q) (by omega)))) ?_;refine .en [true] [4096,0] [_] ?_;refine .en [true,false] [12288,4096,0] [_] ?_;refine .p 1 ?_;refine .en [true,false,false] [45056,12288,4096,0] [_] ?_;refine c140z ?_;refine .c7 [2,4,6,8,9,10] ?_;refine .rz ?_;exact ⟨_,by omega,.v ⟨(q+1),⟨rfl,by omega⟩,rfl⟩ (he:=t126) (hk:=t111)⟩
  intro e6 qe6;refine .exit ?_;obtain rfl:q=((c5 u it).getD pc c8).places.length:=by omega
  rw[List.take_length]at htl ⊢;refine g5.nO (γ:=h.length+4) (β:=h.length+3) (k:=1) (len:=((c5 u it).getD pc c8).places.length) t23 (by rw[l9,htl,Nat.mul_one]) (by omega) (xJ _) t23 (by omega) rfl ?_;refine c13z ?_;refine c245z ?_;exact .ret (.ex (hq:=by (simp only[dO,List.length_map])))
theorem c_findI (l:List w6)(x:w6){n2 n3:Nat}{z2 z3:List AV}(hl:l.length<1000000)(hk:∀y∈l,y.j7.length<1000000):CB 92 [.agg [.vec l.length (j5 l),.vec n2 z2,.vec n3 z3],.agg [.int .i64 x.proc,.vec x.j7.length (g8 x.j7)]] h (.int .i64 (fI l x)):=by
  refine .bz Tryz.f92 34 ?_;refine c19z ?_;refine .cU (fun m st=>∃(i:Nat),(m=l.length-i∧((∀d,d<i→l.getD d c9≠x)∧i≤l.length))∧st=⟨mkS 34 [(2,AV.ptr h.length 0 0),(3,AV.ptr (h.length+1) 0 0),(5,AV.int .i64 ((i:Nat):Int))],h++[⟨0,false,34,3,[.vec l.length (j5 l),.vec n2 z2,.vec n3 z3],0⟩,⟨0,false,46,2,[.int .i64 x.proc,.vec x.j7.length (g8 x.j7)],0⟩]⟩) _ (.v ⟨0,⟨rfl,⟨t104,by omega⟩⟩,rfl⟩) ?_;rintro m sl h' ⟨i,⟨hm,⟨hI,hi⟩⟩,hst⟩;obtain ⟨rfl,rfl⟩:=St.mk.inj hst;refine c0z ?_;refine u2z ?_ ?_
  ·intro e1 qe1;refine c3z ?_;refine .ss u4 (mkP 20 [0,1,0,7,15,31,0,64,255,511,1023,2047,1023,8191,16383,32767,1023,66559,262143,524287] []) ?_;refine .k 8 [] ?_;refine .k 2 [] ?_;refine .spl 22 rfl rfl (fun e2=>?_) (fun e2=>?_)
   ·try simp only[e2]
    have qe2:=fact e2;refine .k 8 [(9,22)] ?_;refine .ca rfl rfl (WY _ _ (hk _ (j4 (by omega)))) ?_;refine .n [] ?_;refine u2z ?_ ?_
    ·intro e3 qe3;refine .c7 [5] ?_;refine .z ?_;exact .ret (.ex (hq:=t110))
    intro e3 qe3;refine c4z ?_;refine .c7 [2,3,5] ?_;refine .rz ?_;exact ⟨_,by omega,.v ⟨(i+1),⟨rfl,⟨it_ne hI t203,by omega⟩⟩,rfl⟩⟩
   try simp only[e2]
   have qe2:=fact e2;refine .k 8 [(9,22)] ?_;refine .n [(9,22)] ?_;refine c50z ?_;refine .c7 [2,3,5] ?_;refine .rz ?_;exact ⟨_,by omega,.v ⟨(i+1),⟨rfl,⟨it_ne hI t203,by omega⟩⟩,rfl⟩⟩
  intro e1 qe1;refine c6z ?_;refine c29z ?_;exact .ret (.ex (hq:=t110))
end Go.Proofs.YtonbocmibeikmaaGreat
end
section
namespace Go.Proofs.YtonbocmibeikmaaGreat
open Go.Ab Go.Un
theorem o2.cx {P:Program}{C:Cfg}{h:c6}{ops:Array Oper}{o:Oper}{rest:List Oper}{Q:St→Prop}{n d:Nat}{l:List (Nat×AV)}{c:Call}{f:FuncId}{args:List AV}{K:AV→c6→Prop}(ho:o.op=.call c)(ht:v7 C (CM C n l) c=some (f,args))(hb:o7 C f=true)
    (hc:CallA P C f args h K) (hk:∀y h',K y h'→o2 P C ops rest ⟨mkS n ((d,y)::l),h'⟩ Q) (hw:zW ops n l o=some true:=by rfl) (hd:o.dst=some d:=by rfl):o2 P C ops (o::rest) ⟨mkS n l,h⟩ Q:=
  o2.call (tB▸hw) ho (qZ▸ht) hb (hc.mono fun y h' hq=>by rw[hd];show o2 P C ops rest ⟨(mkS n l).set d y,h'⟩ Q;rw[bL];exact hk y h' hq)
def qB (u:Un)(L:List w6)(it:w6)(cs:List Int)(n:Nat):Prop:=∀j,j<n→
  (iN ((c5 u it).getD j c8)→0≤cs.getD j 0∧cs.getD j 0<L.length∧L.getD (cs.getD j 0).toNat c9=dO u it j)∧(¬iN ((c5 u it).getD j c8)→cs.getD j 0 = -1)
structure LI (u:Un)(L:List w6):Prop where
  w:∀it∈L,WIt u it
  nd:L.Nodup
  z:0<L.length∧L.getD 0 c9=⟨0,[]⟩
structure RI (L:List w6)(R:List Int):Prop where
  p:1≤R.length
  r:∀x∈R,0≤x∧x<L.length
  s:R.Pairwise (·<·)
def PI (u:Un)(L:List w6)(CS:List (List Int))(i:Nat):Prop:=∀j,j<i→(CS.getD j []).length=(c5 u (L.getD j c9)).length∧qB u L (L.getD j c9) (CS.getD j []) (c5 u (L.getD j c9)).length
def kD (u:Un)(L:List w6)(i:Nat):Nat:=((L.take i).map fun it=>(c5 u it).length).sum
variable {i:Nat}
theorem nH {α:Type}{l m:List α}{d:α}(h:i<l.length):(l++m).getD i d=l.getD i d:=by simp[List.getD,List.getElem?_append_left h]
variable {u:Un}{L M:List w6}{it:w6}{n:Nat}
theorem qB.app {cs:List Int}(h:qB u L it cs n):qB u (L++M) it cs n:=fun j hj=>by obtain ⟨h1,h2⟩:=h j hj;refine ⟨fun hc=>?_,h2⟩;obtain ⟨q1,q2,q3⟩:=h1 hc;exact ⟨q1,by rw[List.length_append];omega,by rw[nH (by omega),q3]⟩
theorem qB.set {cs:List Int}{x:Int}(h:qB u L it cs n)(hn:n<cs.length)(hx:(iN ((c5 u it).getD n c8)→0≤x∧x<L.length∧L.getD x.toNat c9=dO u it n)∧(¬iN ((c5 u it).getD n c8)→x = -1)):qB u L it (cs.set n x) (n+1):=fun j hj=>by
  by_cases hjn:j=n
  · subst hjn
    have:(cs.set j x).getD j 0=x:=by simp[List.getD,hn]
    rw[this];exact hx
  · have:(cs.set n x).getD j 0=cs.getD j 0:=by simp[List.getD,List.getElem?_set_ne (Ne.symm hjn)]
    rw[this];exact h j (by omega)
variable {x:w6}
theorem LI.snoc (h:LI u L)(hx:WIt u x)(hn:x∉L):LI u (L++[x]):=by
  refine ⟨fun it hit=>?_,?_,by simp,?_⟩
  · rcases List.mem_append.1 hit with hit | hit
    · exact h.w it hit
    · replace hit:=s8z hit
      subst hit;exact hx
  · rw[List.nodup_append]
    exact ⟨h.nd,by simp,fun a ha b hb=>by replace hb:=s8z hb;subst hb;exact fun e=>hn (e▸ha)⟩
  · rw[nH h.z.1];exact h.z.2
theorem LI.few (hu:WU u)(h:LI u L):L.length≤64:=(vI hu h.nd h.w).1
theorem LI.sites (hu:WU u)(h:LI u L)(i:Nat):kD u L i≤1664:=by have h1:=(vI hu (l:=L.take i) (h.nd.sublist (List.take_sublist _ _)) (fun it hit=>h.w it (List.mem_of_mem_take hit))).2;exact h1
theorem LI.j7 (hu:WU u)(h:LI u L):∀y∈L,y.j7.length≤2:=fun y hy=>by have w:=h.w y hy;have h1:=w.len;have h3:=hu.j7 y.proc.toNat (by have:=w.lo;have:=w.hi;omega);omega
variable {R:List Int}
theorem RI.app (h:RI L R):RI (L++M) R:=⟨h.p,fun x hx=>by have:=h.r x hx;rw[List.length_append];omega,h.s⟩
variable {l:List Int}
theorem JV {n x:Int}:x∈jO l n↔x∈l∨x=n:=by
  unfold jO;split
  · rename_i h
    constructor
    · exact .inl
    · rintro (h1 | rfl)
      · exact h1
      · exact h
  · rw[List.mem_append,List.mem_cons]
    constructor
    · rintro (h | h | h)
      · exact .inl (List.mem_of_mem_take h)
      · exact .inr h
      · exact .inl (List.mem_of_mem_drop h)
    · rintro (h | h)
      · rw[←List.take_append_drop (kW l n) l,List.mem_append]at h
        rcases h with h | h
        · exact .inl h
        · exact .inr (.inr h)
      · exact .inr (.inl h)
theorem take_kW {n:Int}:l.take (kW l n)=l.takeWhile fun x=>decide (x<n):=by
  conv=>lhs;rw[←List.takeWhile_append_dropWhile (p:=fun x=>decide (x<n)) (l:=l)]
  rw[List.take_append_of_le_length (by simp[kW])];exact List.take_of_length_le (by simp[kW])
theorem drop_kW {n:Int}:l.drop (kW l n)=l.dropWhile fun x=>decide (x<n):=by
  conv=>lhs;rw[←List.takeWhile_append_dropWhile (p:=fun x=>decide (x<n)) (l:=l)]
  rw[List.drop_append_of_le_length (by simp[kW])];rw[List.drop_of_length_le (by simp[kW]),List.nil_append]
theorem sC:∀{l:List Int} {n:Int},l.Pairwise (·<·)→n∉l→(l.takeWhile (fun x=>decide (x<n))++n::l.dropWhile (fun x=>decide (x<n))).Pairwise (·<·)
  | [],n,_,_=>by simp
  | x::l,n,h,hn=>by
    rw[List.pairwise_cons]at h;by_cases hx:x<n
    · have ih:=sC (l:=l) (n:=n) h.2 (fun hm=>hn (List.mem_cons_of_mem _ hm))
      rw[List.takeWhile_cons_of_pos t200,List.dropWhile_cons_of_pos t200,List.cons_append,List.pairwise_cons];refine ⟨fun y hy=>?_,ih⟩;rcases List.mem_append.1 hy with hy | hy
      · exact h.1 y ((List.takeWhile_sublist _).subset hy)
      · rcases List.mem_cons.1 hy with rfl | hy
        · exact hx
        · exact h.1 y ((List.dropWhile_sublist _).subset hy)
    · have hne:n≠x:=fun e=>hn (by rw[e];simp)
      rw[List.takeWhile_cons_of_neg t200,List.dropWhile_cons_of_neg t200,List.nil_append,List.pairwise_cons];refine ⟨fun y hy=>?_,List.pairwise_cons.2 h⟩;rcases List.mem_cons.1 hy with rfl | hy
      · omega
      · have:=h.1 y hy;omega
theorem RI.with (h:RI L R){n:Int}(hn:0≤n∧n<L.length):RI L (jO R n):=by
  refine ⟨?_,fun x hx=>?_,?_⟩
  · unfold jO
    split
    · exact h.p
    · simp only[List.length_append,List.length_cons];omega
  · rcases JV.1 hx with hx | rfl
    · exact h.r x hx
    · exact hn
  · unfold jO
    split
    · exact h.s
    · rename_i hm
      rw[take_kW,drop_kW];exact sC h.s hm
theorem bW:∀{R:List Int} {a b:Int},R.Pairwise (·<·)→(∀x∈R,a≤x∧x<b)→R.length≤(b-a).toNat
  | [],a,b,_,_=>by simp
  | x::R,a,b,h,hr=>by rw[List.pairwise_cons]at h;have h0:=hr x (by simp);have ih:=bW (R:=R) (a:=x+1) (b:=b) h.2 (fun y hy=>⟨by have:=h.1 y hy;omega,(hr y (by simp[hy])).2⟩);simp only[List.length_cons];omega
theorem RI.len (hu:WU u)(hl:LI u L)(h:RI L R):R.length≤64:=by have h1:=bW h.s (a:=0) (b:=(L.length:Int)) h.r;have h2:=hl.few hu;omega
theorem DN (h:i<L.length):kD u L (i+1)=kD u L i+(c5 u (L.getD i c9)).length:=by unfold kD;rw[taken (d:=c9) h];simp
variable {CS:List (List Int)}
theorem PI.step {v:List Int}(h:PI u L CS i)(hc:CS.length=i)(hi:i<L.length)(hv:v.length=(c5 u (L.getD i c9)).length)(hok:qB u (L++M) (L.getD i c9) v (c5 u (L.getD i c9)).length):PI u (L++M) (CS++[v]) (i+1):=fun j hj=>by
  by_cases hji:j=i
  · subst hji
    have e1:(CS++[v]).getD j []=v:=by subst hc;simp[List.getD]
    rw[e1,nH hi];exact ⟨hv,hok⟩
  · have e1:(CS++[v]).getD j []=CS.getD j []:=nH (by omega)
    obtain ⟨h1,h2⟩:=h j (by omega);rw[e1,nH (by omega)];exact ⟨h1,h2.app⟩
theorem R5 {l:List (List Int)}{x:List Int}:j9 (l++[x])=j9 l++[.vec x.length (g8 x)]:=by simp[j9]
theorem R6 {l:List w6}:j5 (l++[x])=j5 l++[.int .i64 x.proc,.vec x.j7.length (g8 x.j7)]:=by simp[j5,CR]
theorem SU (l:List (List Int)):v5 (j9 l):=v5.map fun _=>.vec
theorem SV (l:List w6):v5 (j5 l):=v5.flat fun _=>v5.cons .int (v5.cons .vec .nil)
variable {h:c6}{g:Nat}
theorem app_its {b0 b1 b3 b4 b5 b6 b7:Blk}{l:c6}(hz:L.length=n)(hn:n<1000):j0 cfg 46 (h++(b0::b1::⟨g,false,46,2,j5 L,0⟩::b3::b4::b5::b6::b7::⟨0,false,46,2,[.int .i64 x.proc,.vec x.j7.length (g8 x.j7)],0⟩::l)) (.own (h.length+2) g 0 n) (.own (h.length+8) 0 0 1)=some (.own (h.length+2) (g+1) 0 (n+1),h++(b0::b1::⟨g+1,false,46,2,j5 (L++[x]),0⟩::b3::b4::b5::b6::b7::⟨0,false,46,2,[.int .i64 x.proc,.vec x.j7.length (g8 x.j7)],0⟩::l)):=by
  subst hz;have e1:cfg.sz 46=2:=rfl;have e2:(cfg.ti 46).bytes=32:=rfl;have hm:L.length+1≤maxLen:=by
    have:(1001:Nat)≤maxLen:=by decide
    omega
  have hb:(L.length+1)*32≤140737488355328:=by omega
  have h1:(j5 L).length=L.length*2:=by rw[u5];omega
  have ht:List.take (L.length*2) (j5 L)=j5 L:=List.take_of_length_le (by omega);have hnl:¬(L.length+1)*2≤L.length*2:=by omega
  simp[j0,rd,lenOf,e1,e2,h1,hm,hb,ht,hnl,p8,l8,R6]
theorem app_cs {b0 b1 b2 b3 b4 b6:Blk}{l:c6}{x:List Int}{m:Nat}(hn:CS.length=n)(hx:x.length=m)(hl:n<100000):j0 cfg 22 (h++(b0::b1::b2::b3::b4::o8 22 1 g (j9 CS)::b6::⟨0,false,22,1,[.vec m (g8 x)],0⟩::l)) (.own (h.length+5) g 0 n) (.own (h.length+7) 0 0 1)=some (.own (h.length+5) (g+1) 0 (n+1),h++(b0::b1::b2::b3::b4::o8 22 1 (g+1) (j9 (CS++[x]))::b6::⟨0,false,22,1,[.vec m (g8 x)],0⟩::l)):=by subst hn hx;rw[u3 (C:=cfg) (K:=1) (m:=1) (new:=[.vec x.length (g8 x)]) (zs:=j9 CS) t23 rfl (by omega) (by simp[j9]) rfl (by omega) t98 rfl (by decide) (by omega),←R5,l8];rfl
theorem JW:∀{v:List Int} {i:Nat} {x:Int},i<v.length→List.take i (g8 v)++AV.int .i64 x::List.drop (i+1) (g8 v)=g8 (v.set i x)
  | y::v,0,x,_=>rfl
  | y::v,i+1,x,h=>by have ih:=JW (v:=v) (i:=i) (x:=x) (by simpa using h);simp only[g8,List.map_cons,List.set_cons_succ,List.take_succ_cons,List.drop_succ_cons,List.cons_append]at ih ⊢;rw[ih]
theorem zeros_I:(List.replicate n [AV.int .i64 0]).flatten=g8 (List.replicate n 0):=by
  induction n with
  | zero=>rfl
  | succ n ih=>rw[List.replicate_succ,List.flatten_cons,ih];simp[g8,List.replicate_succ]
theorem frz_its {d:Nat}{H:c6}{l:List w6}:p5 (kP n H (d+1)) (j5 l)=some (j5 l):=(SV l).frz _ _ _
theorem R7 {H:c6}{β γ n1 n2 n3:Nat}{z3:List AV}(hb:H[β]?=some ⟨g,false,46,2,j5 L,0⟩)(hc:H[γ]?=some (o8 22 1 i (j9 CS)))(h1:L.length=n1)(h2:CS.length=n2)(hl:L.length<1000000)(hk:∀y∈L,y.j7.length<1000000):CB 92 [.agg [.own β g 0 n1,.own γ i 0 n2,.vec n3 z3],.agg [.int .i64 x.proc,.vec x.j7.length (g8 x.j7)]] H (.int .i64 (fI L x)):=by
  subst h1 h2;have e1:kP 0 H 6 (.own β g 0 L.length)=some (.vec L.length (j5 L)):=by rw[dE,hb];simp only[Nat.zero_le,and_self,if_true,Bool.false_eq_true,if_false,Nat.zero_add];rw[if_pos (by rw[u5];omega),List.drop_zero,List.take_of_length_le (by rw[u5];omega),frz_its]
  have e2:kP 0 H 6 (.own γ i 0 CS.length)=some (.vec CS.length (j9 CS)):=gL hc (Nat.zero_le _) (by simp[j9]) (by omega) ((SU CS).frz _ _ _);have e:VN 0 H (.agg [.own β g 0 L.length,.own γ i 0 CS.length,.vec n3 z3])=some (.agg [.vec L.length (j5 L),.vec CS.length (j9 CS),.vec n3 z3]):=by simp only[VN,p5,e1,e2,nA,Option.map_some]
  have ha:OT 0 H [.agg [.vec L.length (j5 L),.vec CS.length (j9 CS),.vec n3 z3],.agg [.int .i64 x.proc,.vec x.j7.length (g8 x.j7)]] [.agg [.own β g 0 L.length,.own γ i 0 CS.length,.vec n3 z3],.agg [.int .i64 x.proc,.vec x.j7.length (g8 x.j7)]]:=And.intro (.inr e) (And.intro (.inr rfl) trivial);exact CallA.borrow ha ((c_findI L x hl hk).mono fun _ _ h=>h.1)
theorem bX {l:List (List Int)}:(j9 l).length=l.length:=by simp[j9]
variable {pc:Nat}
theorem DO (hu:WU u)(w:WIt u it)(hpc:pc<(c5 u it).length)(hc:iN ((c5 u it).getD pc c8)){y:w6}(hy:dO u it pc=y):CB 91 [.agg [.vec u.globals.length (g8 u.globals),.vec u.mutexes.length (g6 u.mutexes),.vec u.procs.length (g9 u.procs),.int .i64 u.main],.agg [.int .i64 it.proc,.vec it.j7.length (g8 it.j7)],.int .i64 ((pc:Nat):Int)] h (.tup [.agg [.int .i64 y.proc,.vec y.j7.length (g8 y.j7)],.bool true]):=by subst hy;exact JU hu w hpc hc
theorem DP (hu:WU u)(w:WIt u (L.getD i c9))(hi:L.getD i c9=it)(hpc:pc<(c5 u it).length)(hc:iN ((c5 u it).getD pc c8)){y:w6}(hy:dO u it pc=y):CB 91 [.agg [.vec u.globals.length (g8 u.globals),.vec u.mutexes.length (g6 u.mutexes),.vec u.procs.length (g9 u.procs),.int .i64 u.main],.agg [.int .i64 (L.getD i c9).proc,.vec (L.getD i c9).j7.length (g8 (L.getD i c9).j7)],.int .i64 ((pc:Nat):Int)] h (.tup [.agg [.int .i64 y.proc,.vec y.j7.length (g8 y.j7)],.bool true]):=by subst hi;exact DO hu w hpc hc hy
theorem DQ (hu:WU u)(w:WIt u (L.getD i c9))(hi:L.getD i c9=it)(hpc:pc<(c5 u it).length)(hc:¬iN ((c5 u it).getD pc c8)):CB 91 [.agg [.vec u.globals.length (g8 u.globals),.vec u.mutexes.length (g6 u.mutexes),.vec u.procs.length (g9 u.procs),.int .i64 u.main],.agg [.int .i64 (L.getD i c9).proc,.vec (L.getD i c9).j7.length (g8 (L.getD i c9).j7)],.int .i64 ((pc:Nat):Int)] h (.tup [.agg [.int .i64 0,.vec 0 []],.bool false]):=by subst hi;exact JT hu w hpc hc
theorem mx2000:(2000:Nat)≤maxLen:=by decide
theorem C8 {v:List Int}{i:Nat}{x:Int}(h:i<v.length):(v.set i x).getD i 0=x:=by simp[List.getD,h]
theorem SW {v:List Int}{x:Int}(h:i<v.length):List.take 1 (List.drop i (g8 (v.set i x)))=[.int .i64 x]:=by rw[fM (by rw[List.length_set];exact h),C8 h]
theorem JX (h:i≤L.length):kD u (L++M) i=kD u L i:=by unfold kD;rw[List.take_append_of_le_length h]
theorem wit0 (hu:WU u):WIt u ⟨0,[]⟩:=by have:=hu.pl;refine ⟨Int.le_refl _,by show (0:Int)<u.procs.length;omega,?_,fun x hx=>by simp at hx⟩;show 0=(u.procs.getD 0 pO).j7.toNat;rw[hu.zero];rfl
theorem wc_of (hu:WU u)(hL:LI u L)(hR:RI L R)(hc:CS.length=L.length)(hP:PI u L CS L.length):WC u ⟨L,CS,R⟩:=
  ⟨⟨hL.z.1,hL.few hu⟩,hL.z.2,hL.w,hL.nd,hc,fun i hi=>(hP i hi).1,fun i hi pc hpc=>(hP i hi).2 pc hpc,hR.p,hR.r,hR.s⟩
attribute [local go_sem] rd r9 o3 bA cI s6 aN fO dF o4 aW aK l9 bC Int.natCast_nonneg Int.natCast_inj List.length_map wrap64 fW iY iZ Y8 J7 P4 Y9 tN max2 eU cN bD Nat.reduceMul nC kB iM vT fM jA AN jB bV fA u5 z4 app_its app_cs JW zeros_I bX
section
attribute [local go_sem] SW List.length_set
theorem c_close (hu:WU u):CallA Tryz.prog cfg 55 [.agg [.vec u.globals.length (g8 u.globals),.vec u.mutexes.length (g6 u.mutexes),.vec u.procs.length (g9 u.procs),.int .i64 u.main]] h (fun y' h'=>(∃c,WC u c∧y'=.tup [.agg (PG c),.int .i64 0])∧h'=h):=by
  refine .bz Tryz.f55 109 ?_;refine c78z ?_;refine .c7 [1,2,4] ?_;refine g5.jZ (β:=h.length+2) [.int .i64 0,.vec 0 []] t23 ?_ ?_;exact ⟨.inl (by rw[hu.main]),.inr ⟨rfl,rfl⟩,trivial⟩;simp only[List.append_assoc,List.cons_append,List.nil_append,p8,l8,List.set_cons_succ,List.set_cons_zero,List.length_append,List.length_cons,List.length_nil,Nat.reduceAdd,Nat.zero_add];refine g5.mI (β:=h.length+4) (k:=1) t23 rfl ?_;simp only[List.append_assoc,List.cons_append,List.nil_append,p8,l8,List.set_cons_succ,List.set_cons_zero,List.length_append,List.length_cons,List.length_nil,Nat.reduceAdd,Nat.zero_add];refine g5.zR (γ:=h.length+3) (β:=h.length+4) (k:=2) (off:=0) (len:=1) (cs:=[.int .i64 0]) t23 rfl (by simp) rfl t23 (by omega) rfl ?_;simp only[List.append_assoc,List.cons_append,List.nil_append,p8,l8,List.set_cons_succ,List.set_cons_zero,List.length_append,List.length_cons,List.length_nil,Nat.reduceAdd,Nat.zero_add];generalize cL _ _=Rb;refine c19z ?_;refine .s4 (fun m st=>∃(i:Nat) (L:List w6) (g:Nat) (R:List Int) (CS:List (List Int)),(m=65-i∧(LI u L∧RI L R∧i≤L.length∧CS.length=i∧PI u L CS i))∧st=⟨mkS 109 [(1,AV.ptr h.length 0 0),(2,AV.ptr (h.length+1) 0 0),(4,AV.ptr (h.length+4) 0 0),(5,AV.int .i64 ((kD u L i:Nat):Int)),(6,AV.int .i64 ((i:Nat):Int))],h++[⟨0,false,30,4,[.vec u.globals.length (g8 u.globals),.vec u.mutexes.length (g6 u.mutexes),.vec u.procs.length (g9 u.procs),.int .i64 u.main],0⟩,⟨0,false,34,3,[.nils,.nils,.nils],0⟩,⟨g,false,46,2,j5 L,0⟩,Rb,⟨0,false,34,3,[.own (h.length+2) g 0 L.length,.own (h.length+5) i 0 i,.vec R.length (g8 R)],0⟩,o8 22 1 i (j9 CS)]⟩) (.v ⟨0,([⟨0,[]⟩]:List w6),0,([0]:List Int),([]:List (List Int)),⟨rfl,⟨⟨fun it hit=>by replace hit:=s8z hit;subst hit;exact wit0 hu,by simp,by simp⟩,⟨by simp,by simp,by simp⟩,by omega,rfl,fun j hj=>by omega⟩⟩,rfl⟩ (hs:=t96)) ?_;rintro m sl h' ⟨i,L,g,R,CS,⟨hm,⟨hL,hR,hi,hCS,hP⟩⟩,hst⟩;obtain ⟨rfl,rfl⟩:=St.mk.inj hst;clear hst;have hfew:=hL.few hu;have hrl:=hR.len hu hL;refine c0z ?_;refine u2z ?_ ?_
  ·intro e1 qe1;refine c3z ?_;have hw:WIt u (L.getD i c9):=hL.w _ (j4 (by omega));have hw1:=hw.lo;have hw2:=hw.hi;have hcd:=fT hu hw;have hs0:=hL.sites hu i;have hs1:kD u L (i+1)=kD u L i+(c5 u (L.getD i c9)).length:=by rw[DN (by omega)]
   have hs2:=hL.sites hu (i+1);refine .ss u4 (mkP 12 [0,1,0,4,0,28,60,124,255,511,1023,2047] []) ?_;refine c36z ?_;refine .c7 [1,2,4,5,6,7,34] ?_;refine c10z ?_;refine c18z ?_;refine .spl 42 rfl rfl (fun e2=>by exfalso;have q:=fact e2;omega) (fun e2=>?_);try simp only[e2]
   have qe2:=fact e2;refine .m [(2,42)] ?_;refine uFbz ?_;intro e3 qe3;refine .sk ?_;refine .c7 [1,2,4,5,6,7,34] ?_;have hcl1:=hcd.1;have hclm:(c5 u (L.getD i c9)).length≤2000:=by omega
   have hmx:((c5 u (L.getD i c9)).length:Int)≤(maxLen:Int):=Int.ofNat_le.2 (Nat.le_trans hclm mx2000);refine c19z ?_;refine .s4 (fun m st=>∃(pc:Nat) (L1:List w6) (g1:Nat) (R1:List Int) (v:List Int),(m=(c5 u (L.getD i c9)).length-pc∧(LI u L1∧RI L1 R1∧(∃M,L1=L++M)∧pc≤(c5 u (L.getD i c9)).length∧v.length=(c5 u (L.getD i c9)).length∧qB u L1 (L.getD i c9) v pc))∧st=⟨mkS 109 [(1,AV.ptr h.length 0 0),(2,AV.ptr (h.length+1) 0 0),(4,AV.ptr (h.length+4) 0 0),(5,AV.int .i64 ((kD u L (i+1):Nat):Int)),(6,AV.int .i64 ((i:Nat):Int)),(7,AV.vec (c5 u (L.getD i c9)).length (p9 (c5 u (L.getD i c9)))),(8,AV.own (h.length+6) 0 0 (c5 u (L.getD i c9)).length),(9,AV.int .i64 ((pc:Nat):Int))],h++[⟨0,false,30,4,[.vec u.globals.length (g8 u.globals),.vec u.mutexes.length (g6 u.mutexes),.vec u.procs.length (g9 u.procs),.int .i64 u.main],0⟩,⟨0,false,34,3,[.nils,.nils,.nils],0⟩,⟨g1,false,46,2,j5 L1,0⟩,Rb,⟨0,false,34,3,[.own (h.length+2) g1 0 L1.length,.own (h.length+5) i 0 i,.vec R1.length (g8 R1)],0⟩,o8 22 1 i (j9 CS),⟨0,false,3,1,g8 v,0⟩]⟩) (.v ⟨0,L,g,R,(List.replicate (c5 u (L.getD i c9)).length 0),⟨rfl,⟨hL,hR,⟨[],by simp⟩,by omega,by simp,fun j hj=>by omega⟩⟩,rfl⟩) ?_;rintro m sl h' ⟨pc,L1,g1,R1,v,⟨hm,⟨hL1,hR1,⟨M,hM⟩,hpc,hv,hok⟩⟩,hst⟩;obtain ⟨rfl,rfl⟩:=St.mk.inj hst;clear hst;have hfew1:=hL1.few hu;have hrl1:=hR1.len hu hL1;have hit1:L1.getD i c9=L.getD i c9:=by rw[hM,nH (by omega)]
   have hw1:WIt u (L1.getD i c9):=by rw[hit1];exact hw
   have hil1:i<L1.length:=by rw[hM,List.length_append];omega
   refine c0z ?_;refine u2z ?_ ?_
   ·intro e4 qe4;refine c3z ?_;by_cases hcl:iN ((c5 u (L.getD i c9)).getD pc c8)
    ·generalize hy:dO u (L.getD i c9) pc=y;have hwy:WIt u y:=by rw[←hy];exact xY hu hw (by omega) hcl
     refine .sg u4 (mkH 14 [0,0,2,0,14,30,0,127,255,511,511,0,3071,8191] [11,12] [] [0,2048,6144] [0,1,2,3,4,5,6,7,8,9,10]) 0 ?_;refine c120z ?_;refine .p 2 ?_;refine c136z ?_;refine .cl rfl rfl (fun _=>DP hu hw1 hit1 (by omega) hcl hy) ?_;refine .p 3 ?_;refine .en [true] [2048,0] [_] ?_;refine .en [true,false] [6144,2048,0] [_] ?_;refine .p 1 ?_;refine c37z ?_;refine c187z ?_;refine .seq ?_;refine .c7 [1,2,4,5,6,7,8,9,10,11] ?_;refine c9z ?_;refine c210z ?_;refine c34z ?_;refine .ca rfl rfl (R7 t23 t23 rfl hCS (by omega) (fun y hy=>Nat.lt_of_le_of_lt (LI.j7 hu hL1 y hy) (by omega))) ?_;refine .n ?_;refine u2z ?_ ?_
     ·intro e5 qe5;refine c1z ?_;refine .c7 [1,2,4,5,6,7,8,9,10] ?_;have hny:y∉L1:=fun hm=>by have:=AM hm;omega
      have hL2:=hL1.snoc hwy hny;have hfew2:=hL2.few hu;have hmy:y∈L1++[y]:=by simp
      have hR2:=hR1.app (M:=[y]);have hok2:=hok.app (M:=[y]);obtain ⟨hf1,hf2,hf3⟩:=AM hmy;have hsg:=@C8 v pc (fI (L1++[y]) y) (by omega);refine c26z ?_;refine .ca rfl rfl (R7 (L:=(L1++[y])) t23 t23 (by rw[List.length_append];rfl) hCS (by rw[List.length_append,List.length_singleton];omega) (fun y hy=>Nat.lt_of_le_of_lt (LI.j7 hu hL2 y hy) (by omega))) ?_;refine .n ?_;refine .z ?_;refine u2z ?_ ?_
      ·intro e6 qe6;refine .c7 [1,2,4,5,6,7,8,9] ?_;refine .og u4 (mkH 9 [0,1,0,0,12,28,63,127,255] [8] [] [0,256] []) 0 ?_;refine .p 1 ?_;refine c246z ?_;refine .cl rfl rfl (fun _=>JQ _ _ (by omega)) ?_;refine .p 1 ?_;refine .en [true] [256,0] [_] ?_;refine w4.nil rfl ?_;change g5 ..;refine c265z ?_;exact ⟨_,by omega,.v ⟨(pc+1),(L1++[y]),(g1+1),(jO R1 (fI (L1++[y]) y)),(v.set pc (fI (L1++[y]) y)),⟨rfl,⟨hL2,hR2.with ⟨hf1,hf2⟩,⟨M++[y],by rw[hM,List.append_assoc]⟩,by omega,t142,hok2.set (by omega) ⟨fun _=>⟨hf1,hf2,hf3.trans hy.symm⟩,fun hc=>absurd hcl hc⟩⟩⟩,rfl⟩ (he:=t38) (hk:=t34)⟩
      intro e6 qe6;refine c4z ?_;refine c265z ?_;exact ⟨_,by omega,.v ⟨(pc+1),(L1++[y]),(g1+1),R1,(v.set pc (fI (L1++[y]) y)),⟨rfl,⟨hL2,hR2,⟨M++[y],by rw[hM,List.append_assoc]⟩,by omega,t142,hok2.set (by omega) ⟨fun _=>⟨hf1,hf2,hf3.trans hy.symm⟩,fun hc=>absurd hcl hc⟩⟩⟩,rfl⟩ (he:=t38) (hk:=t34)⟩
     intro e5 qe5;refine .sk ?_;have hmy:y∈L1:=Classical.byContradiction fun hm=>by have:=fI_not hm;omega
     have hL2:=hL1;have hR2:=hR1;have hok2:=hok;obtain ⟨hf1,hf2,hf3⟩:=AM hmy;have hsg:=@C8 v pc (fI L1 y) (by omega);refine c26z ?_;refine .ca rfl rfl (R7 (L:=L1) t23 t23 rfl hCS (by omega) (fun y hy=>Nat.lt_of_le_of_lt (LI.j7 hu hL1 y hy) (by omega))) ?_;refine .n ?_;refine .c7 [1,2,4,5,6,7,8,9] ?_;refine .z ?_;refine u2z ?_ ?_
     ·intro e7 qe7;refine .og u4 (mkH 9 [0,1,0,0,12,28,63,127,255] [8] [] [0,256] []) 0 ?_;refine .p 1 ?_;refine c246z ?_;refine .cl rfl rfl (fun _=>JQ _ _ (by omega)) ?_;refine .p 1 ?_;refine .en [true] [256,0] [_] ?_;refine w4.nil rfl ?_;change g5 ..;refine c265z ?_;exact ⟨_,by omega,.v ⟨(pc+1),L1,g1,(jO R1 (fI L1 y)),(v.set pc (fI L1 y)),⟨rfl,⟨hL2,hR2.with ⟨hf1,hf2⟩,⟨M,by rw[hM]⟩,by omega,t142,hok2.set (by omega) ⟨fun _=>⟨hf1,hf2,hf3.trans hy.symm⟩,fun hc=>absurd hcl hc⟩⟩⟩,rfl⟩ (he:=t38) (hk:=t34)⟩
     intro e7 qe7;refine c4z ?_;refine .rz ?_;exact ⟨_,by omega,.v ⟨(pc+1),L1,g1,R1,(v.set pc (fI L1 y)),⟨rfl,⟨hL2,hR2,⟨M,by rw[hM]⟩,by omega,t142,hok2.set (by omega) ⟨fun _=>⟨hf1,hf2,hf3.trans hy.symm⟩,fun hc=>absurd hcl hc⟩⟩⟩,rfl⟩ (he:=t38) (hk:=t34)⟩
    ·skip;refine .sg u4 (mkH 14 [0,0,2,0,14,30,0,127,255,511,511,0,3071,8191] [11,12] [] [0,2048,6144] [0,1,2,3,4,5,6,7,8,9,10]) 0 ?_;refine c120z ?_;refine .p 2 ?_;refine c136z ?_;refine .cl rfl rfl (fun _=>DQ hu hw1 hit1 (by omega) hcl) ?_;refine .p 3 ?_;refine .en [true] [2048,0] [_] ?_;refine .en [true,false] [6144,2048,0] [_] ?_;refine .p 1 ?_;refine c37z ?_;refine c187z ?_;refine .seq ?_;refine .c7 [1,2,4,5,6,7,8,9,10,11] ?_;refine c98z ?_;refine .z ?_;refine c6z ?_;refine .rz ?_;exact ⟨_,by omega,.v ⟨(pc+1),L1,g1,R1,(v.set pc (-1)),⟨rfl,⟨hL1,hR1,⟨M,hM⟩,by omega,t142,hok.set (by omega) ⟨fun hc=>absurd hc hcl,fun _=>rfl⟩⟩⟩,rfl⟩ (he:=t38) (hk:=t34)⟩
   intro e4 qe4;refine .exit ?_;obtain rfl:pc=(c5 u (L.getD i c9)).length:=by omega
   refine g5.uZ (t:=8) (γ:=h.length+6) (len:=(c5 u (L.getD i c9)).length) (by rw[p8];exact congrArg some (bS (by intro h0;have:=congrArg List.length h0;rw[l9]at this;replace this:=s6z this;omega)).symm) (by rw[l9,hv,Nat.mul_one]) (by omega) (xJ _) (kR (by decide) rfl) ?_;rw[bL];simp only[l8,List.set_cons_succ,List.set_cons_zero];generalize fG _ _ _ _ _=Vb;change g5 ..;refine c1z ?_;refine .c7 [1,2,4,5,6] ?_;refine .rz ?_;have hP1:PI u L1 (CS++[v]) (i+1):=by rw[hM];exact hP.step hCS (by omega) hv (by rw[←hM];exact hok)
   have hs3:kD u L1 (i+1)=kD u L (i+1):=by rw[hM,JX (by omega)]
   exact ⟨_,by omega,.v ⟨(i+1),L1,g1,R1,(CS++[v]),⟨rfl,⟨hL1,hR1,by omega,by simp[hCS],hP1⟩⟩,rfl⟩ (he:=by (simp only[List.append_assoc,List.cons_append,List.nil_append,List.length_append,List.length_cons,List.length_nil,hCS];rfl)) (hk:=by exact (u6.refl _).app rfl ⟨.inl rfl,.inl rfl,.inr ((SV _).refs _),.inl rfl,.inr (fF.get ⟨.own _ _ _ _ (by simp),.own _ _ _ _ (by simp),.vec _ _,trivial⟩),.inr (by rw[o1];exact (SU _).refs _),trivial⟩) (hs:=t96)⟩
  intro e1 qe1;refine .exit ?_;obtain rfl:i=L.length:=by omega
  refine g5.zR (γ:=h.length+2) (β:=h.length+4) (k:=0) (off:=0) (len:=L.length) (cs:=j5 L) t23 rfl (by simp only[u5];omega) (by rw[List.drop_zero,List.take_of_length_le (by simp only[u5];omega)];exact (SV _).OV) t23 (by omega) rfl ?_;simp only[List.append_assoc,List.cons_append,List.nil_append,p8,l8,List.set_cons_succ,List.set_cons_zero,List.length_append,List.length_cons,List.length_nil,Nat.reduceAdd,Nat.zero_add];refine g5.nO (γ:=h.length+5) (β:=h.length+4) (k:=1) (len:=L.length) t23 (by rw[bX,hCS,Nat.mul_one]) (by omega) (SU _) t23 (by omega) rfl ?_;refine c13z ?_;refine .c7 [2,4] ?_;refine .z ?_;exact .ret (.ex (hq:=by exact ⟨⟨L,CS,R⟩,wc_of hu hL hR hCS hP,by simp only[PG,hCS]⟩))
end
end Go.Proofs.YtonbocmibeikmaaGreat
end
section
namespace Go.Un
open Go.Ab
def shV (k:Nat)(n:Int)(d:Nat):Int:=if 0≤(d:Int)+n∧(d:Int)+n≤k then 2^((d:Int)+n).toNat else 0
def shI (k:Nat)(n:Int):List Int:=(List.range (k+1)).map (shV k n)
theorem JY {k:Nat}{n:Int}:(shI k n).length=k+1:=by simp[shI]
def chI (it:w6)(x:Ins)(m:Int):Int:=if x.op=4∧xX it x.pl=m then 1 else if x.op=5∧xX it x.pl=m then -1 else 0
variable {it:w6}{x:Ins}{m:Int}
theorem chI_1 (h:x.op=4)(h2:xX it x.pl=m):chI it x m=1:=by rw[chI,if_pos ⟨h,h2⟩]
theorem chI_2 (h:x.op=5)(h2:xX it x.pl=m):chI it x m = -1:=by rw[chI,if_neg (by omega),if_pos ⟨h,h2⟩]
theorem chI_0 (h:¬(x.op=4∧xX it x.pl=m))(h2:¬(x.op=5∧xX it x.pl=m)):chI it x m=0:=by rw[chI,if_neg h,if_neg h2]
theorem oH:chI it x m=1∨chI it x m = -1∨chI it x m=0:=by
 unfold chI;split
 ·exact .inl rfl
 ·split
  ·exact .inr (.inl rfl)
  ·exact .inr (.inr rfl)
def gT (m:Mx):Nat:=if m.size=0∧m.re=false then 1 else 8
theorem jP {m:Mx}:gT m≤8:=by unfold gT;split<;>omega
variable {pc:Nat}
theorem JZ {u:Un}(hu:WU u)(w:WIt u it)(hpc:pc<(c5 u it).length)(ho:((c5 u it).getD pc c8).op=4∨((c5 u it).getD pc c8).op=5):((c5 u it).getD pc c8).pl.param=true→0≤((c5 u it).getD pc c8).pl.index∧((c5 u it).getD pc c8).pl.index.toNat<it.j7.length:=by
 obtain ⟨_,_,h3,_⟩:=(fT hu w).2.2 pc hpc;intro hp;obtain ⟨h0,⟨_,h2⟩ | ⟨h1,_⟩⟩:=h3 ho
 ·refine ⟨h0,?_⟩;rw[w.len];simp only at h2;omega
 ·rw[hp]at h1;cases h1
def n9 (x:Ins)(pc:Nat):List Int:=if x.op=8 then [] else if x.op=7 then [x.target] else if x.op=6 then (if x.target=(pc:Int)+1 then [x.target] else [min x.target ((pc:Int)+1),max x.target ((pc:Int)+1)]) else [(pc:Int)+1]
def lY (x:Ins)(pc:Nat):AV:=.vec (n9 x pc).length (g8 (n9 x pc))
theorem KA (h:x.op=8):lY x pc=.vec 0 []:=by simp[lY,n9,h,g8]
theorem KB (h:x.op=7):lY x pc=.vec 1 [.int .i64 x.target]:=by simp[lY,n9,h,g8]
theorem AO (h:x.op=6)(h2:x.target=(pc:Int)+1):lY x pc=.vec 1 [.int .i64 x.target]:=by simp[lY,n9,h,h2,g8]
theorem KC (h:x.op=6)(h2:¬x.target=(pc:Int)+1):lY x pc=.vec 2 [.int .i64 (min x.target ((pc:Int)+1)),.int .i64 (max x.target ((pc:Int)+1))]:=by simp[lY,n9,h,h2,g8]
theorem KD (h8:¬x.op=8)(h7:¬x.op=7)(h6:¬x.op=6):lY x pc=.vec 1 [.int .i64 ((pc:Int)+1)]:=by simp[lY,n9,h8,h7,h6,g8]
theorem dW:(n9 x pc).length≤2:=by
 unfold n9;split
 ·simp
 ·split
  ·simp
  ·split
   ·split<;>simp
   ·simp
theorem KE {u:Un}(hu:WU u)(w:WIt u it)(hpc:pc<(c5 u it).length):∀d,d<(n9 ((c5 u it).getD pc c8) pc).length→0≤(n9 ((c5 u it).getD pc c8) pc).getD d 0∧(n9 ((c5 u it).getD pc c8) pc).getD d 0<(c5 u it).length:=by
 obtain ⟨h1,h2,h3⟩:=fT hu w;obtain ⟨_,h4,_⟩:=h3 pc hpc;have h5:¬((c5 u it).getD pc c8).op=8→pc+1<(c5 u it).length:=fun h8=>by
  by_cases e:pc=(c5 u it).length-1
  ·rw[←e]at h2;exact absurd h2 h8
  ·omega
 intro d hd;have key:∀x∈n9 ((c5 u it).getD pc c8) pc,0≤x∧x<(c5 u it).length:=by
  intro x hx;unfold n9 at hx;split at hx
  ·simp at hx
  ·rename_i h8;have h6:=h5 h8;split at hx
   ·rename_i h7;have:=h4 (.inr h7);replace hx:=s8z hx;omega
   ·split at hx
    ·rename_i h7;have:=h4 (.inl h7);split at hx
     ·replace hx:=s8z hx;omega
     ·replace hx:=s7z hx;omega
    ·replace hx:=s8z hx;omega
 exact key _ (j4 hd)
theorem nextL_pos (h:¬x.op=8):0<(n9 x pc).length:=by
 unfold n9;rw[if_neg h];split
 ·simp
 ·split
  ·split<;>simp
  ·simp
end Go.Un
end
section
namespace Go.Proofs.YtonbocmibeikmaaGreat
open Go.Ab Go.Un
variable {i:Nat}
theorem gD {l:List Ins}(h:i<l.length):List.take 12 (List.drop (i*12) (p9 l))=[.int .i64 (l.getD i c8).op,.int .i64 (l.getD i c8).target,.bool (l.getD i c8).global,.int .i64 (l.getD i c8).e.op,.int .i64 (l.getD i c8).e.num,.str (l.getD i c8).e.name,.vec (l.getD i c8).e.args.length (n5 (l.getD i c8).e.args),.bool (l.getD i c8).pl.param,.int .i64 (l.getD i c8).pl.index,.vec (l.getD i c8).pl.at'.length (n5 (l.getD i c8).pl.at'),.vec (l.getD i c8).ints.length (n5 (l.getD i c8).ints),.vec (l.getD i c8).places.length (cY (l.getD i c8).places)]:=by rw[read_in h,lG]
theorem gE {l:List Mx}(h:i<l.length):List.take 3 (List.drop (i*3) (g6 l))=[.str (l.getD i s8).name,.bool (l.getD i s8).re,.int .i64 (l.getD i s8).size]:=zY h
theorem flat_I (n:Nat):(List.replicate n [AV.int .i64 0]).flatten=g8 (List.replicate n 0):=by
  induction n with
  | zero=>rfl
  | succ n ih=>simp only[List.replicate_succ,List.flatten_cons,ih];rfl
theorem shl1N {e:Int}(h0:0≤e)(h1:e≤9):IntKind.wrap .i64 (1*2^(min e.toNat 64))=2^e.toNat:=by
  obtain ⟨m,rfl⟩:=Int.eq_ofNat_of_zero_le h0;have:m=0∨m=1∨m=2∨m=3∨m=4∨m=5∨m=6∨m=7∨m=8∨m=9:=by omega
  rcases this with rfl | rfl | rfl | rfl | rfl | rfl | rfl | rfl | rfl | rfl<;>decide
variable {m:Nat}
theorem Cv (h1:m≤9):IntKind.wrap .i64 (1*2^(min m 64))=2^m:=by have:=shl1N (e:=(m:Int)) (by omega) (by omega);simpa using this
def yH (v:Nat→Int)(i:Nat)(zs:List Int):Prop:=(∀d,d<i→zs.getD d 0=v d)∧(∀d,i≤d→zs.getD d 0=0)
theorem yH.zero (v:Nat→Int)(n:Nat):yH v 0 (List.replicate n 0):=by refine ⟨fun d hd=>by omega,fun d _=>?_⟩;rw[List.getD_eq_getElem?_getD,List.getElem?_replicate];split<;>rfl
variable {v:Nat→Int}{zs:List Int}
theorem yH.set {x:Int}(hi:i<zs.length)(h:yH v i zs)(hx:x=v i):yH v (i+1) (zs.set i x):=by
  refine ⟨fun d hd=>?_,fun d hd=>?_⟩
  · by_cases e:d=i
    · subst e;simp[List.getD,hi,hx]
    · have:=h.1 d (by omega)
      simp only[List.getD_eq_getElem?_getD,List.getElem?_set_ne (Ne.symm e)]at this ⊢;exact this
  · have:=h.2 d (by omega)
    simp only[List.getD_eq_getElem?_getD,List.getElem?_set_ne (show i≠d from by omega)]at this ⊢;exact this
theorem yH.skip (h:yH v i zs)(hv:v i=0):yH v (i+1) zs:=by
  refine ⟨fun d hd=>?_,fun d hd=>h.2 d (by omega)⟩;by_cases e:d=i
  · subst e;rw[h.2 d (Nat.le_refl _),hv]
  · exact h.1 d (by omega)
theorem yH.all {n:Nat}(h:yH v i zs)(hl:zs.length=n)(hi:n≤i):zs=(List.range n).map v:=by refine List.ext_getElem (by simp[hl]) fun d k1 k2=>?_;have:=h.1 d (by omega);simp;simpa [List.getD,k1] using this
variable {h l:c6}{b0:Blk}{g:Nat}{a:Int}
theorem SX:gH h.length (h++(b0::⟨g,false,3,1,[.int .i64 a],0⟩::l)) 6 (.own (h.length+1) g 0 1)=some (.vec 1 [.int .i64 a]):=L5 (a:=[a]) t23 (by omega) rfl
theorem frz_2 {b:Int}:gH h.length (h++(b0::⟨g,false,3,1,[.int .i64 a,.int .i64 b],0⟩::l)) 6 (.own (h.length+1) g 0 2)=some (.vec 2 [.int .i64 a,.int .i64 b]):=L5 (a:=[a,b]) t23 (by omega) rfl
theorem vec2 {b c d:Int}(h1:a=c)(h2:b=d):AV.vec 2 [.int .i64 a,.int .i64 b]=AV.vec 2 [.int .i64 c,.int .i64 d]:=by rw[h1,h2]
theorem frz_13 {b1 b2:Blk}:gH h.length (h++(b0::b1::b2::⟨g,false,3,1,[.int .i64 a],0⟩::l)) 6 (.own (h.length+3) g 0 1)=some (.vec 1 [.int .i64 a]):=L5 (a:=[a]) t23 (by omega) rfl
theorem kE {C:Cfg}{ρ:Operand→AV}{c:Call}{r:Operand}{name:String}{t:TypeId}{v:AV}{f:FuncId}(hc:c.callee=.invoke r name)(hr:ρ r=.iface t v)(hm:C.meth t name=some f):v7 C ρ c=some (f,v::c.args.toList.map ρ):=by simp only[v7,hc,hr,hm]
theorem DR:cfg.meth 245 "lockorder/flow.next" = some 206:=by kernel_rfl
theorem KF:cfg.meth 247 "lockorder/flow.next" = some 207:=by kernel_rfl
theorem vZ:cfg.meth 248 "lockorder/flow.next" = some 208:=by kernel_rfl
theorem L6:cfg.meth 249 "lockorder/flow.next" = some 209:=by kernel_rfl
attribute [local go_sem] rd u5 z4 s6 o4 l9 Int.natCast_nonneg Int.natCast_inj jA bV jB gD gE fM JW flat_I shl1N Cv List.length_set List.length_replicate Int.toNat_natCast_add_one eT wrap64 tN max2
theorem Cw (m:Mx):CB 30 [.agg [.str m.name,.bool m.re,.int .i64 m.size]] h (.int .i64 ((gT m:Nat):Int)):=by
  refine .bz Tryz.f30 11 ?_;refine c10z ?_;refine c26z ?_;refine .spl 6 rfl rfl (fun e1=>?_) (fun e1=>?_)
  ·try simp only[e1]
   have qe1:=fact e1;refine .m [(3,6)] ?_;refine u2z ?_ ?_
   ·intro e2 qe2;refine c29z ?_;exact .ret (.ex (hq:=t147))
   intro e2 qe2;refine .sk ?_;refine c29z ?_;exact .ret (.ex (hq:=t147))
  try simp only[e1]
  have qe1:=fact e1;refine .m [(3,6)] ?_;refine c20z ?_;refine c29z ?_;exact .ret (.ex (hq:=t147))
theorem AP (m:Mx):CB 43 [.agg [.str m.name,.bool m.re,.int .i64 m.size]] h (.int .i64 ((gT m:Nat):Int)):=by
  refine .bz Tryz.f43 11 ?_;refine c10z ?_;refine c26z ?_;refine .spl 6 rfl rfl (fun e1=>?_) (fun e1=>?_)
  ·try simp only[e1]
   have qe1:=fact e1;refine .m [(3,6)] ?_;refine u2z ?_ ?_
   ·intro e2 qe2;refine c29z ?_;exact .ret (.ex (hq:=t147))
   intro e2 qe2;refine .sk ?_;refine c29z ?_;exact .ret (.ex (hq:=t147))
  try simp only[e1]
  have qe1:=fact e1;refine .m [(3,6)] ?_;refine c20z ?_;refine c29z ?_;exact .ret (.ex (hq:=t147))
theorem wB (k:Nat)(n:Int)(hk:k≤8)(h1:-1≤n)(h2:n≤1):CB 108 [.int .i64 ((k:Nat):Int),.int .i64 n] h (.vec (shI k n).length (g8 (shI k n))):=by
  refine .bz Tryz.f108 35 ?_;refine c51z ?_;refine .cU (fun m st=>∃(i:Nat) (zs:List Int),(m=(k+1)-i∧(yH (shV k n) i zs∧zs.length=(k+1)∧i≤(k+1)))∧st=⟨mkS 35 [(0,AV.int .i64 ((k:Nat):Int)),(1,AV.int .i64 n),(5,AV.own h.length 0 0 (k+1)),(11,AV.int .i64 ((k+1:Nat):Int)),(12,AV.int .i64 ((i:Nat):Int))],h++[⟨0,false,3,1,g8 zs,0⟩]⟩) _ (.v ⟨0,(List.replicate (k+1) 0),⟨rfl,⟨yH.zero _ _,by simp,by omega⟩⟩,rfl⟩) ?_;rintro m sl h' ⟨i,zs,⟨hm,⟨hI,hz,hi⟩⟩,hst⟩;obtain ⟨rfl,rfl⟩:=St.mk.inj hst;refine c10z ?_;refine u2z ?_ ?_
  ·intro e1 qe1;refine c45z ?_;refine c24z ?_;refine .spl 19 rfl rfl (fun e2=>?_) (fun e2=>?_)
   ·try simp only[e2]
    have qe2:=fact e2;refine .m [(4,19)] ?_;refine u2z ?_ ?_
    ·intro e3 qe3;refine .c7 [0,1,5,6,11,12] ?_;refine c1z ?_;refine c226z ?_;exact ⟨_,by omega,.v ⟨(i+1),(zs.set i _),⟨rfl,⟨yH.set (by omega) hI (by rw[shV,if_pos (by omega)]),t113,by omega⟩⟩,rfl⟩⟩
    intro e3 qe3;refine c4z ?_;refine c226z ?_;exact ⟨_,by omega,.v ⟨(i+1),zs,⟨rfl,⟨yH.skip hI t182,hz,by omega⟩⟩,rfl⟩⟩
   try simp only[e2]
   have qe2:=fact e2;refine .m [(4,19)] ?_;refine c50z ?_;refine c226z ?_;exact ⟨_,by omega,.v ⟨(i+1),zs,⟨rfl,⟨yH.skip hI t182,hz,by omega⟩⟩,rfl⟩⟩
  intro e1 qe1;refine c92z ?_;exact ⟨_,_,rfl,L5 t130 (Nat.le_refl _) hz,by (rw[hI.all hz (by omega),JY];rfl)⟩
theorem KG (k:Nat)(n:Int)(hk:k≤8)(h1:-1≤n)(h2:n≤1):CB 79 [.int .i64 ((k:Nat):Int),.int .i64 n] h (.vec (shI k n).length (g8 (shI k n))):=by
  refine .bz Tryz.f79 32 ?_;refine c51z ?_;refine .cU (fun m st=>∃(i:Nat) (zs:List Int),(m=(k+1)-i∧(yH (shV k n) i zs∧zs.length=(k+1)∧i≤(k+1)))∧st=⟨mkS 32 [(0,AV.int .i64 ((k:Nat):Int)),(1,AV.int .i64 n),(5,AV.own h.length 0 0 (k+1)),(6,AV.int .i64 ((i:Nat):Int))],h++[⟨0,false,3,1,g8 zs,0⟩]⟩) _ (.v ⟨0,(List.replicate (k+1) 0),⟨rfl,⟨yH.zero _ _,by simp,by omega⟩⟩,rfl⟩) ?_;rintro m sl h' ⟨i,zs,⟨hm,⟨hI,hz,hi⟩⟩,hst⟩;obtain ⟨rfl,rfl⟩:=St.mk.inj hst;refine c0z ?_;refine u2z ?_ ?_
  ·intro e1 qe1;refine c45z ?_;refine c18z ?_;refine .spl 21 rfl rfl (fun e2=>?_) (fun e2=>?_)
   ·try simp only[e2]
    have qe2:=fact e2;refine .m [(2,21)] ?_;refine u2z ?_ ?_
    ·intro e3 qe3;refine .c7 [0,1,5,6,7] ?_;refine c52z ?_;exact ⟨_,by omega,.v ⟨(i+1),(zs.set i _),⟨rfl,⟨yH.set (by omega) hI (by rw[shV,if_pos (by omega)]),t113,by omega⟩⟩,rfl⟩⟩
    intro e3 qe3;refine c4z ?_;refine c154z ?_;exact ⟨_,by omega,.v ⟨(i+1),zs,⟨rfl,⟨yH.skip hI t182,hz,by omega⟩⟩,rfl⟩⟩
   try simp only[e2]
   have qe2:=fact e2;refine .m [(2,21)] ?_;refine c50z ?_;refine c154z ?_;exact ⟨_,by omega,.v ⟨(i+1),zs,⟨rfl,⟨yH.skip hI t182,hz,by omega⟩⟩,rfl⟩⟩
  intro e1 qe1;refine c92z ?_;exact ⟨_,_,rfl,L5 t130 (Nat.le_refl _) hz,by (rw[hI.all hz (by omega),JY];rfl)⟩
theorem c_up (k:Nat)(hk:k≤8):CB 65 [.int .i64 ((k:Nat):Int)] h (.vec (shI k 1).length (g8 (shI k 1))):=by refine .bz Tryz.f65 5 ?_;refine c222z ?_;refine .ca rfl rfl (wB k 1 hk (by omega) (by omega)) ?_;refine c186z ?_;exact ⟨[],_,(List.append_nil _).symm,t42,by rfl⟩
theorem c_down (k:Nat)(hk:k≤8):CB 66 [.int .i64 ((k:Nat):Int)] h (.vec (shI k (-1)).length (g8 (shI k (-1)))):=by refine .bz Tryz.f66 5 ?_;refine c222z ?_;refine .ca rfl rfl (wB k (-1) hk (by omega) (by omega)) ?_;refine c186z ?_;exact ⟨[],_,(List.append_nil _).symm,t42,by rfl⟩
theorem c_id (k:Nat)(hk:k≤8):CB 67 [.int .i64 ((k:Nat):Int)] h (.vec (shI k 0).length (g8 (shI k 0))):=by refine .bz Tryz.f67 5 ?_;refine c222z ?_;refine .ca rfl rfl (wB k 0 hk (by omega) (by omega)) ?_;refine c186z ?_;exact ⟨[],_,(List.append_nil _).symm,t42,by rfl⟩
variable {u:Un}{it:w6}{pc:Nat}
theorem c_fcode (hu:WU u)(w:WIt u it)(hpc:pc<(c5 u it).length):CB 106 [.agg [.vec u.globals.length (g8 u.globals),.vec u.mutexes.length (g6 u.mutexes),.vec u.procs.length (g9 u.procs),.int .i64 u.main],.agg [.int .i64 it.proc,.vec it.j7.length (g8 it.j7)],.int .i64 ((pc:Nat):Int)] h (.agg [.int .i64 ((c5 u it).getD pc c8).op,.int .i64 ((c5 u it).getD pc c8).target,.bool ((c5 u it).getD pc c8).global,.int .i64 ((c5 u it).getD pc c8).e.op,.int .i64 ((c5 u it).getD pc c8).e.num,.str ((c5 u it).getD pc c8).e.name,.vec ((c5 u it).getD pc c8).e.args.length (n5 ((c5 u it).getD pc c8).e.args),.bool ((c5 u it).getD pc c8).pl.param,.int .i64 ((c5 u it).getD pc c8).pl.index,.vec ((c5 u it).getD pc c8).pl.at'.length (n5 ((c5 u it).getD pc c8).pl.at'),.vec ((c5 u it).getD pc c8).ints.length (n5 ((c5 u it).getD pc c8).ints),.vec ((c5 u it).getD pc c8).places.length (cY ((c5 u it).getD pc c8).places)]):=by refine .bz Tryz.f106 17 ?_;have w1:=w.lo;have w2:=w.hi;have hsz:(c5 u it).length≤1664:=n8 hu w;refine .z ?_;refine c124z ?_;exact .ret (.ex (hq:=by rfl))
theorem XA (it:w6)(p:Pl)(hp:p.param=true→0≤p.index∧p.index.toNat<it.j7.length):CB 107 [.agg [.int .i64 it.proc,.vec it.j7.length (g8 it.j7)],.agg [.bool p.param,.int .i64 p.index,.vec p.at'.length (n5 p.at')]] h (.int .i64 (xX it p)):=by
  refine .bz Tryz.f107 28 ?_;refine c10z ?_;refine c18z ?_;refine .spl 7 rfl rfl (fun e1=>?_) (fun e1=>?_)
  ·try simp only[e1]
   have qe1:=fact e1;refine .k 5 [(2,7)] ?_;refine .spl 12 rfl rfl (fun e2=>?_) (fun e2=>?_)
   ·try simp only[e2]
    have qe2:=fact e2;refine .m [(7,12)] ?_;refine u2z ?_ ?_
    ·intro e3 qe3;refine .c7 [2,3] ?_;refine .z ?_;exact .ret (.ex (hq:=t95))
    intro e3 qe3;refine .sk ?_;refine c190z ?_;exact .ret (.ex (hq:=t95))
   try simp only[e2]
   have qe2:=fact e2;refine .m [(7,12)] ?_;refine c20z ?_;refine c190z ?_;exact .ret (.ex (hq:=t95))
  try simp only[e1]
  have qe1:=fact e1;refine .k 8 [(2,7),(7,12)] ?_;refine .m [(7,12)] ?_;refine c20z ?_;refine c190z ?_;exact .ret (.ex (hq:=t95))
theorem SY (hu:WU u)(w:WIt u it)(hpc:pc<(c5 u it).length)(m:Int):CB 64 [.agg [.vec u.globals.length (g8 u.globals),.vec u.mutexes.length (g6 u.mutexes),.vec u.procs.length (g9 u.procs),.int .i64 u.main],.agg [.int .i64 it.proc,.vec it.j7.length (g8 it.j7)],.int .i64 ((pc:Nat):Int),.int .i64 m] h (.int .i64 (chI it ((c5 u it).getD pc c8) m)):=by
  refine .bz Tryz.f64 33 ?_;have w1:=w.lo;have w2:=w.hi;have hsz:(c5 u it).length≤1664:=n8 hu w;refine c117z ?_;refine c33z ?_;refine c261z ?_;refine .spl 17 rfl rfl (fun e1=>?_) (fun e1=>?_)
  ·try simp only[e1]
   have qe1:=fact e1;refine .k 5 [(3,17)] ?_;refine .spl 22 rfl rfl (fun e2=>?_) (fun e2=>?_)
   ·try simp only[e2]
    have qe2:=fact e2;refine .m [(8,22)] ?_;refine .T ?_;refine c29z ?_;exact .ret (.ex (hq:=t15))
   try simp only[e2]
   have qe2:=fact e2;refine .k 3 [(8,22)] ?_;refine .ca rfl rfl (XA it ((c5 u it).getD pc c8).pl (JZ hu w hpc (by omega))) ?_;refine .m [(8,22)] ?_;refine u2z ?_ ?_
   ·intro e3 qe3;refine c29z ?_;exact .ret (.ex (hq:=t15))
   intro e3 qe3;refine c210z ?_;refine .c7 [9] ?_;refine .z ?_;refine u2z ?_ ?_
   ·intro e4 qe4;refine .z ?_;exact .ret (.ex (hq:=t15))
   intro e4 qe4;refine .sk ?_;refine .z ?_;exact .ret (.ex (hq:=t15))
  try simp only[e1]
  have qe1:=fact e1;refine .k 8 [(3,17),(8,22)] ?_;refine .ca rfl rfl (XA it ((c5 u it).getD pc c8).pl (JZ hu w hpc (by omega))) ?_;refine .m [(8,22)] ?_;refine u2z ?_ ?_
  ·intro e5 qe5;refine c29z ?_;exact .ret (.ex (hq:=t15))
  intro e5 qe5;refine c210z ?_;refine .c7 [9] ?_;refine .z ?_;refine u2z ?_ ?_
  ·intro e6 qe6;refine .z ?_;exact .ret (.ex (hq:=t15))
  intro e6 qe6;refine .sk ?_;refine .z ?_;exact .ret (.ex (hq:=t15))
theorem wC (hu:WU u)(w:WIt u it)(hpc:pc<(c5 u it).length)(m:Int):CB 123 [.agg [.vec u.globals.length (g8 u.globals),.vec u.mutexes.length (g6 u.mutexes),.vec u.procs.length (g9 u.procs),.int .i64 u.main],.agg [.int .i64 it.proc,.vec it.j7.length (g8 it.j7)],.int .i64 ((pc:Nat):Int),.int .i64 m] h (.int .i64 (chI it ((c5 u it).getD pc c8) m)):=by
  refine .bz Tryz.f123 44 ?_;have w1:=w.lo;have w2:=w.hi;have hsz:(c5 u it).length≤1664:=n8 hu w;refine .z ?_;refine c124z ?_;refine .sb ?_;refine c261z ?_;refine .spl 24 rfl rfl (fun e1=>?_) (fun e1=>?_)
  ·try simp only[e1]
   have qe1:=fact e1;refine .k 3 [(3,24)] ?_;refine .ca rfl rfl (JR it ((c5 u it).getD pc c8).pl (JZ hu w hpc (by omega))) ?_;refine .m [(3,24)] ?_;refine u2z ?_ ?_
   ·intro e2 qe2;refine c29z ?_;exact .ret (.ex (hq:=t15))
   intro e2 qe2;refine c261z ?_;refine .spl 36 rfl rfl (fun e3=>?_) (fun e3=>?_)
   ·try simp only[e3]
    have qe3:=fact e3;refine .k 3 [(3,36)] ?_;refine .ca rfl rfl (JR it ((c5 u it).getD pc c8).pl (JZ hu w hpc (by omega))) ?_;refine .m [(3,36)] ?_;refine u2z ?_ ?_
    ·intro e4 qe4;refine c29z ?_;exact .ret (.ex (hq:=t15))
    intro e4 qe4;refine c4z ?_;refine c29z ?_;exact .ret (.ex (hq:=t15))
   try simp only[e3]
   have qe3:=fact e3;refine .m [(3,36)] ?_;refine c50z ?_;refine c29z ?_;exact .ret (.ex (hq:=t15))
  try simp only[e1]
  have qe1:=fact e1;refine .m [(3,24)] ?_;refine .F ?_;refine c261z ?_;refine .spl 36 rfl rfl (fun e5=>?_) (fun e5=>?_)
  ·try simp only[e5]
   have qe5:=fact e5;refine .k 3 [(3,36)] ?_;refine .ca rfl rfl (JR it ((c5 u it).getD pc c8).pl (JZ hu w hpc (by omega))) ?_;refine .m [(3,36)] ?_;refine u2z ?_ ?_
   ·intro e6 qe6;refine c29z ?_;exact .ret (.ex (hq:=t15))
   intro e6 qe6;refine c4z ?_;refine c29z ?_;exact .ret (.ex (hq:=t15))
  try simp only[e5]
  have qe5:=fact e5;refine .m [(3,36)] ?_;refine c50z ?_;refine c29z ?_;exact .ret (.ex (hq:=t15))
theorem c_rel (hu:WU u)(w:WIt u it)(hpc:pc<(c5 u it).length)(hm:m<u.mutexes.length):CB 24 [.agg [.vec u.globals.length (g8 u.globals),.vec u.mutexes.length (g6 u.mutexes),.vec u.procs.length (g9 u.procs),.int .i64 u.main],.agg [.int .i64 it.proc,.vec it.j7.length (g8 it.j7)],.int .i64 ((pc:Nat):Int),.int .i64 ((m:Nat):Int)] h (.vec (shI (gT (u.mutexes.getD m s8)) (chI it ((c5 u it).getD pc c8) ((m:Nat):Int))).length (g8 (shI (gT (u.mutexes.getD m s8)) (chI it ((c5 u it).getD pc c8) ((m:Nat):Int))))):=by
  refine .bz Tryz.f24 31 ?_;have w1:=w.lo;have w2:=w.hi;have hsz:(c5 u it).length≤1664:=n8 hu w;have hcp:=jP (m:=(u.mutexes.getD m s8));have hml:=hu.ml;have hch:=oH (it:=it) (x:=((c5 u it).getD pc c8)) (m:=(m:Int));refine .z ?_;refine c24z ?_;refine .ca rfl rfl (Cw (u.mutexes.getD m s8)) ?_;refine c33z ?_;refine .c7 [2,3,4,5,9] ?_;refine c26z ?_;refine .ca rfl rfl (SY hu w hpc _) ?_;refine c242z ?_;refine .c7 [9,20] ?_;refine .z ?_;refine u2z ?_ ?_
  ·intro e1 qe1;refine c68z ?_;refine .ca rfl rfl (c_up _ hcp) ?_;refine .n ?_;exact .ret (.ex (hq:=t62))
  intro e1 qe1;refine .z ?_;refine u2z ?_ ?_
  ·intro e2 qe2;refine c68z ?_;refine .ca rfl rfl (c_down _ hcp) ?_;refine .n ?_;exact .ret (.ex (hq:=t62))
  intro e2 qe2;refine c4z ?_;refine c68z ?_;refine .ca rfl rfl (c_id _ hcp) ?_;refine .n ?_;exact .ret (.ex (hq:=t62))
theorem c_relR (hu:WU u)(w:WIt u it)(hpc:pc<(c5 u it).length)(hm:m<u.mutexes.length):CB 80 [.agg [.vec u.globals.length (g8 u.globals),.vec u.mutexes.length (g6 u.mutexes),.vec u.procs.length (g9 u.procs),.int .i64 u.main],.agg [.int .i64 it.proc,.vec it.j7.length (g8 it.j7)],.int .i64 ((pc:Nat):Int),.int .i64 ((m:Nat):Int)] h (.vec (shI (gT (u.mutexes.getD m s8)) (chI it ((c5 u it).getD pc c8) ((m:Nat):Int))).length (g8 (shI (gT (u.mutexes.getD m s8)) (chI it ((c5 u it).getD pc c8) ((m:Nat):Int))))):=by refine .bz Tryz.f80 21 ?_;have w1:=w.lo;have w2:=w.hi;have hsz:(c5 u it).length≤1664:=n8 hu w;have hcp:=jP (m:=(u.mutexes.getD m s8));have hml:=hu.ml;have hch:=oH (it:=it) (x:=((c5 u it).getD pc c8)) (m:=(m:Int));refine .z ?_;refine .ss u4 (mkP 13 [0,1,0,7,15,31,0,0,0,0,1023,2047,4095] []) ?_;refine .k 5 [] ?_;refine .ca rfl rfl (AP (u.mutexes.getD m s8)) ?_;refine .k 4 [] ?_;refine .ca rfl rfl (wC hu w hpc _) ?_;refine .ca rfl rfl (KG _ _ hcp (by omega) (by omega)) ?_;refine .n [] ?_;exact .ret (.ex (hq:=by rfl))
theorem c_ended (pc:Nat):CB 206 [.agg [],.int .i64 ((pc:Nat):Int)] h (.vec 0 []):=by refine .bz Tryz.f206 5 ?_;refine c78z ?_;exact .ret (.ex (hq:=by rfl))
theorem c_jump (pc:Nat)(t:Int):CB 207 [.agg [.int .i64 t],.int .i64 ((pc:Nat):Int)] h (.vec 1 [.int .i64 t]):=by refine .bz Tryz.f207 8 ?_;refine c78z ?_;exact .ret (.ex (hf:=by first | rfl | exact SX) (hq:=by rfl))
theorem KH (pc:Nat)(hp:pc<100000):CB 209 [.agg [],.int .i64 ((pc:Nat):Int)] h (.vec 1 [.int .i64 ((pc:Int)+1)]):=by refine .bz Tryz.f209 8 ?_;refine c78z ?_;exact .ret (.ex (hf:=by first | rfl | exact SX) (hq:=by rfl))
theorem AQ (pc:Nat)(t:Int)(hp:pc<100000):CB 208 [.agg [.int .i64 t],.int .i64 ((pc:Nat):Int)] h (if t=(pc:Int)+1 then AV.vec 1 [AV.int .i64 t] else AV.vec 2 [AV.int .i64 (min t ((pc:Int)+1)),AV.int .i64 (max t ((pc:Int)+1))]):=by
  refine .bz Tryz.f208 24 ?_;refine c66z ?_;refine u2z ?_ ?_
  ·intro e1 qe1;refine .c7 [2] ?_;refine .z ?_;exact .ret (.ex (hf:=by first | rfl | first | exact SX | exact frz_2) (hq:=t90))
  intro e1 qe1;refine .sk ?_;refine c124z ?_;exact .ret (.ex (hf:=by first | rfl | first | exact SX | exact frz_2) (hq:=t90))
def XB (x:Ins):AV:=if x.op=8 then .iface 245 (.agg []) else if x.op=7 then .iface 247 (.agg [.int .i64 x.target]) else if x.op=6 then .iface 248 (.agg [.int .i64 x.target]) else .iface 249 (.agg [])
variable {x:Ins}
theorem XC (h:x.op=8):XB x=.iface 245 (.agg []):=if_pos h
theorem XD (h:x.op=7):XB x=.iface 247 (.agg [.int .i64 x.target]):=by rw[XB,if_neg (by omega),if_pos h]
theorem KI (h:x.op=6):XB x=.iface 248 (.agg [.int .i64 x.target]):=by rw[XB,if_neg (by omega),if_neg (by omega),if_pos h]
theorem XE (h8:¬x.op=8)(h7:¬x.op=7)(h6:¬x.op=6):XB x=.iface 249 (.agg []):=by rw[XB,if_neg h8,if_neg h7,if_neg h6]
theorem KJ (x:Ins):CB 174 [.agg [.int .i64 x.op,.int .i64 x.target,.bool x.global,.int .i64 x.e.op,.int .i64 x.e.num,.str x.e.name,.vec x.e.args.length (n5 x.e.args),.bool x.pl.param,.int .i64 x.pl.index,.vec x.pl.at'.length (n5 x.pl.at'),.vec x.ints.length (n5 x.ints),.vec x.places.length (cY x.places)]] h (XB x):=by
  refine .bz Tryz.f174 23 ?_;refine c19z ?_;refine .z ?_;refine u2z ?_ ?_
  ·intro e1 qe1;refine .z ?_;exact .ret (.ex (hq:=t63))
  intro e1 qe1;refine .z ?_;refine u2z ?_ ?_
  ·intro e2 qe2;refine c264z ?_;exact .ret (.ex (hq:=t63))
  intro e2 qe2;refine .z ?_;refine u2z ?_ ?_
  ·intro e3 qe3;refine c264z ?_;exact .ret (.ex (hq:=t63))
  intro e3 qe3;refine c4z ?_;refine c29z ?_;exact .ret (.ex (hq:=t63))
theorem c_next8 (hu:WU u)(w:WIt u it)(hpc:pc<(c5 u it).length)(ho:((c5 u it).getD pc c8).op=8):CB 146 [.agg [.vec u.globals.length (g8 u.globals),.vec u.mutexes.length (g6 u.mutexes),.vec u.procs.length (g9 u.procs),.int .i64 u.main],.agg [.int .i64 it.proc,.vec it.j7.length (g8 it.j7)],.int .i64 ((pc:Nat):Int)] h (lY ((c5 u it).getD pc c8) pc):=by refine .bz Tryz.f146 16 ?_;have w1:=w.lo;have w2:=w.hi;have hsz:(c5 u it).length≤1664:=n8 hu w;refine c117z ?_;refine .ca rfl rfl ((KJ ((c5 u it).getD pc c8)).mono fun y k hq=>⟨hq.1.trans (XC ho),hq.2⟩) ?_;refine .n ?_;refine c229z ?_;refine o2.cq rfl (kE rfl rfl DR) hb206 (c_ended pc) ?_;refine .n ?_;exact .ret (.ex (hq:=by (exact (KA ho).symm)))
theorem c_next7 (hu:WU u)(w:WIt u it)(hpc:pc<(c5 u it).length)(ho:((c5 u it).getD pc c8).op=7):CB 146 [.agg [.vec u.globals.length (g8 u.globals),.vec u.mutexes.length (g6 u.mutexes),.vec u.procs.length (g9 u.procs),.int .i64 u.main],.agg [.int .i64 it.proc,.vec it.j7.length (g8 it.j7)],.int .i64 ((pc:Nat):Int)] h (lY ((c5 u it).getD pc c8) pc):=by refine .bz Tryz.f146 16 ?_;have w1:=w.lo;have w2:=w.hi;have hsz:(c5 u it).length≤1664:=n8 hu w;refine c117z ?_;refine .ca rfl rfl ((KJ ((c5 u it).getD pc c8)).mono fun y k hq=>⟨hq.1.trans (XD ho),hq.2⟩) ?_;refine .n ?_;refine c229z ?_;refine o2.cq rfl (kE rfl rfl KF) hb207 (c_jump pc _) ?_;refine .n ?_;exact .ret (.ex (hq:=by (exact (KB ho).symm)))
theorem SZ (hu:WU u)(w:WIt u it)(hpc:pc<(c5 u it).length)(ho:((c5 u it).getD pc c8).op=6)(ht:((c5 u it).getD pc c8).target=(pc:Int)+1):CB 146 [.agg [.vec u.globals.length (g8 u.globals),.vec u.mutexes.length (g6 u.mutexes),.vec u.procs.length (g9 u.procs),.int .i64 u.main],.agg [.int .i64 it.proc,.vec it.j7.length (g8 it.j7)],.int .i64 ((pc:Nat):Int)] h (lY ((c5 u it).getD pc c8) pc):=by refine .bz Tryz.f146 16 ?_;have w1:=w.lo;have w2:=w.hi;have hsz:(c5 u it).length≤1664:=n8 hu w;refine c117z ?_;refine .ca rfl rfl ((KJ ((c5 u it).getD pc c8)).mono fun y k hq=>⟨hq.1.trans (KI ho),hq.2⟩) ?_;refine .n ?_;refine c229z ?_;refine o2.cq rfl (kE rfl rfl vZ) hb208 ((AQ pc _ (by omega)).mono fun y k hq=>⟨hq.1.trans (if_pos ht),hq.2⟩) ?_;refine .n ?_;exact .ret (.ex (hq:=by (exact (AO ho ht).symm)))
theorem c_next6 (hu:WU u)(w:WIt u it)(hpc:pc<(c5 u it).length)(ho:((c5 u it).getD pc c8).op=6)(ht:¬((c5 u it).getD pc c8).target=(pc:Int)+1):CB 146 [.agg [.vec u.globals.length (g8 u.globals),.vec u.mutexes.length (g6 u.mutexes),.vec u.procs.length (g9 u.procs),.int .i64 u.main],.agg [.int .i64 it.proc,.vec it.j7.length (g8 it.j7)],.int .i64 ((pc:Nat):Int)] h (lY ((c5 u it).getD pc c8) pc):=by refine .bz Tryz.f146 16 ?_;have w1:=w.lo;have w2:=w.hi;have hsz:(c5 u it).length≤1664:=n8 hu w;refine c117z ?_;refine .ca rfl rfl ((KJ ((c5 u it).getD pc c8)).mono fun y k hq=>⟨hq.1.trans (KI ho),hq.2⟩) ?_;refine .n ?_;refine c229z ?_;refine o2.cq rfl (kE rfl rfl vZ) hb208 ((AQ pc _ (by omega)).mono fun y k hq=>⟨hq.1.trans (if_neg ht),hq.2⟩) ?_;refine .n ?_;exact .ret (.ex (hq:=by (exact (KC ho ht).symm)))
theorem c_nextn (hu:WU u)(w:WIt u it)(hpc:pc<(c5 u it).length)(h8:¬((c5 u it).getD pc c8).op=8)(h7:¬((c5 u it).getD pc c8).op=7)(h6:¬((c5 u it).getD pc c8).op=6):CB 146 [.agg [.vec u.globals.length (g8 u.globals),.vec u.mutexes.length (g6 u.mutexes),.vec u.procs.length (g9 u.procs),.int .i64 u.main],.agg [.int .i64 it.proc,.vec it.j7.length (g8 it.j7)],.int .i64 ((pc:Nat):Int)] h (lY ((c5 u it).getD pc c8) pc):=by refine .bz Tryz.f146 16 ?_;have w1:=w.lo;have w2:=w.hi;have hsz:(c5 u it).length≤1664:=n8 hu w;refine c117z ?_;refine .ca rfl rfl ((KJ ((c5 u it).getD pc c8)).mono fun y k hq=>⟨hq.1.trans (XE h8 h7 h6),hq.2⟩) ?_;refine .n ?_;refine c229z ?_;refine o2.cq rfl (kE rfl rfl L6) hb209 (KH pc (by omega)) ?_;refine .n ?_;exact .ret (.ex (hq:=by (exact (KD h8 h7 h6).symm)))
theorem c_nextF (hu:WU u)(w:WIt u it)(hpc:pc<(c5 u it).length):CB 146 [.agg [.vec u.globals.length (g8 u.globals),.vec u.mutexes.length (g6 u.mutexes),.vec u.procs.length (g9 u.procs),.int .i64 u.main],.agg [.int .i64 it.proc,.vec it.j7.length (g8 it.j7)],.int .i64 ((pc:Nat):Int)] h (lY ((c5 u it).getD pc c8) pc):=by
  by_cases h8:((c5 u it).getD pc c8).op=8
  · exact c_next8 hu w hpc h8
  by_cases h7:((c5 u it).getD pc c8).op=7
  · exact c_next7 hu w hpc h7
  by_cases h6:((c5 u it).getD pc c8).op=6
  · by_cases ht:((c5 u it).getD pc c8).target=(pc:Int)+1
    · exact SZ hu w hpc h6 ht
    · exact c_next6 hu w hpc h6 ht
  exact c_nextn hu w hpc h8 h7 h6
variable {t:Int}
theorem kW_1 (h:a<t):kW [a] t=1:=by simp[kW,List.takeWhile,h]
theorem kW_0 (h:¬a<t):kW [a] t=0:=by simp[kW,List.takeWhile,h]
theorem KK (h:x.op=6):AV.vec (jO [(pc:Int)+1] x.target).length (g8 (jO [(pc:Int)+1] x.target))=lY x pc:=by
  by_cases h2:x.target=(pc:Int)+1
  · rw[AO h h2,jO,if_pos (by simp[h2])];rw[h2];rfl
  · rw[KC h h2,jO,if_neg t102]
    by_cases h3:(pc:Int)+1<x.target
    · rw[kW_1 h3,show min x.target ((pc:Int)+1)=(pc:Int)+1 from by omega,show max x.target ((pc:Int)+1)=x.target from by omega];rfl
    · rw[kW_0 h3,show min x.target ((pc:Int)+1)=x.target from by omega,show max x.target ((pc:Int)+1)=(pc:Int)+1 from by omega];rfl
theorem c_with1 {b1 b2:Blk}:CH 69 [.own (h.length+3) g 0 1,.int .i64 t] (h++[b0,b1,b2,⟨g,false,3,1,[.int .i64 a],0⟩]) (.vec (jO [a] t).length (g8 (jO [a] t))) (h++[b0,b1,b2,⟨g,false,3,1,[.int .i64 a],1⟩]):=by refine CallA.GA (β:=h.length+3) (off:=0) (len:=1) (b:=⟨g,false,3,1,[.int .i64 a],0⟩) (cs:=g8 [a]) (args':=[.vec 1 (g8 [a]),.int .i64 t]) t23 rfl (by simp) rfl ⟨.inr ⟨rfl,rfl⟩,.inl rfl,trivial⟩ ?_;rw[l8];exact JQ (h:=h++[b0,b1,b2,⟨g,false,3,1,[.int .i64 a],1⟩]) [a] t (by simp)
theorem KL (hu:WU u)(w:WIt u it)(hpc:pc<(c5 u it).length):CB 26 [.agg [.vec u.globals.length (g8 u.globals),.vec u.mutexes.length (g6 u.mutexes),.vec u.procs.length (g9 u.procs),.int .i64 u.main],.agg [.int .i64 it.proc,.vec it.j7.length (g8 it.j7)],.int .i64 ((pc:Nat):Int)] h (lY ((c5 u it).getD pc c8) pc):=by
  refine .bz Tryz.f26 38 ?_;have w1:=w.lo;have w2:=w.hi;have hsz:(c5 u it).length≤1664:=n8 hu w;refine .z ?_;refine c260z ?_;refine .c7 [2,7] ?_;refine c15z ?_;refine .z ?_;refine u2z ?_ ?_
  ·intro e1 qe1;refine .z ?_;exact .ret (.ex (hf:=t187) (hq:=t64))
  intro e1 qe1;refine .z ?_;refine u2z ?_ ?_
  ·intro e2 qe2;refine .z ?_;exact .ret (.ex (hf:=t187) (hq:=t64))
  intro e2 qe2;refine .z ?_;refine u2z ?_ ?_
  ·intro e3 qe3;refine .c7 [2,7] ?_;refine c24z ?_;refine .ch rfl rfl (c_with1) ?_;refine .n ?_;exact .ret (.ex (hf:=t187) (hq:=t64))
  intro e3 qe3;refine c4z ?_;refine .c7 [2] ?_;refine .z ?_;exact .ret (.ex (hf:=t187) (hq:=t64))
end Go.Proofs.YtonbocmibeikmaaGreat
end
section
namespace Go.Un
open Go.Ab
def l5 (n:Nat):AV:=.int .i64 (n:Int)
def bR (l:List Nat):AV:=.vec l.length (l.map l5)
variable {i:Nat}
theorem sD {l:List Nat}(h:i<l.length):List.take 1 (List.drop i (l.map l5))=[AV.int .i64 ((l.getD i 0:Nat):Int)]:=by rw[←List.map_drop,←List.map_take,List.drop_eq_getElem_cons h,List.take_succ_cons,List.take_zero];simp[List.getD,h,l5]
theorem wD {l:List Nat}{v:Nat}(h:i<l.length):List.take i (l.map l5)++AV.int .i64 (v:Int)::List.drop (i+1) (l.map l5)=(l.set i v).map l5:=by rw[←List.map_drop,←List.map_take,List.set_eq_take_append_cons_drop,if_pos h];simp[l5]
theorem sE (n:Nat):(List.replicate n [AV.int .i64 0]).flatten=(List.replicate n (0:Nat)).map l5:=by
 induction n with
 | zero=>rfl
 | succ n ih=>simp[List.replicate_succ,ih,l5]
theorem i64_63 (n:Int)(h0:0≤n)(h1:n<2^63):IntKind.wrap .i64 n=n:=wrap64 (by omega) (by omega)
variable {a b:Nat}
theorem orN (ha:a<512)(hb:b<512):bits .or .i64 (a:Int) (b:Int)=((a|||b:Nat):Int):=(bits_nat .i64 63 (by decide) i64_63 a b (by omega) (by omega)).2
def dhV (k:Nat)(n:Int)(d:Nat):Nat:=if 0≤(d:Int)+n∧(d:Int)+n≤k then 2^((d:Int)+n).toNat else 0
def dhN (k:Nat)(n:Int):List Nat:=(List.range (k+1)).map (dhV k n)
def Fz (s:Nat)(d:Int):Bool:=decide (0≤d∧d≤8)&&s.testBit d.toNat
theorem testAll:((List.range 9).all fun m=>(List.range 512).all fun s=>(bits .and .i64 ((s:Int).fdiv (2^(min m 64))) 1==1)==s.testBit m)=true:=by kernel_rfl
variable {s:Nat}
theorem testN {m:Nat}(hm:m≤8)(hs:s<512):(bits .and .i64 ((s:Int).fdiv (2^(min m 64))) 1==1)=s.testBit m:=by have h1:=List.all_eq_true.1 testAll m (List.mem_range.2 (by omega));have h2:=List.all_eq_true.1 h1 s (List.mem_range.2 hs);simpa using h2
theorem hasN (hi:i≤8):Fz s (i:Int)=s.testBit i:=by
 have:0≤(i:Int)∧(i:Int)≤8:=by omega
 simp[Fz,this]
def bY (r:List Nat)(s:Nat):Nat→Nat
 | 0=>0
 | i+1=>if s.testBit i then bY r s i|||r.getD i 0 else bY r s i
def applyN (r:List Nat)(s:Nat):Nat:=bY r s r.length
def o6 (a b:List Nat):List Nat:=(List.range a.length).map fun d=>applyN b (a.getD d 0)
def cJ (a b:List Nat):List Nat:=(List.range a.length).map fun d=>a.getD d 0|||b.getD d 0
def wF (a b:List Nat):Prop:=∀d,d<a.length→bits .andNot .i64 ((a.getD d 0:Nat):Int) ((b.getD d 0:Nat):Int)=0
instance (a b:List Nat):Decidable (wF a b):=by unfold wF;exact inferInstance
variable {r:List Nat}
theorem gA (hr:∀x∈r,x<512)(i:Nat):r.getD i 0<512:=by
 rw[List.getD_eq_getElem?_getD];cases h:r[i]? with
 | none=>simp
 | some x=>exact hr x (List.mem_of_getElem? h)
theorem or_lt (ha:a<512)(hb:b<512):a|||b<512:=Nat.or_lt_two_pow (n:=9) ha hb
theorem kF {r:List Nat}(hr:∀x∈r,x<512)(s:Nat):∀i,bY r s i<512
 | 0=>by simp[bY]
 | i+1=>by
  unfold bY;split
  ·exact or_lt (kF hr s i) (gA hr i)
  ·exact kF hr s i
theorem XF (h:s.testBit i=true):bY r s (i+1)=bY r s i|||r.getD i 0:=by rw[bY,if_pos h]
theorem KM (h:s.testBit i=false):bY r s (i+1)=bY r s i:=by rw[bY,if_neg (by simp[h])]
def wG (x m:Int):Nat:=(within x m).toNat
variable {k:Nat}
theorem sF (hk:k≤8):0<2^(k+1)∧2^(k+1)≤512:=by
 have:k=0∨k=1∨k=2∨k=3∨k=4∨k=5∨k=6∨k=7∨k=8:=by omega
 rcases this with rfl | rfl | rfl | rfl | rfl | rfl | rfl | rfl | rfl<;>decide
def relV (l:List Int)(k d:Nat):Nat:=if d<l.length then wG (l.getD d 0) ((2^(k+1):Nat):Int) else 0
def XG (l:List Int)(k:Nat):List Nat:=(List.range (k+1)).map (relV l k)
theorem wH {r:List Nat}{s j:Nat}:∀{i:Nat},(bY r s i).testBit j=true↔∃d,d<i∧s.testBit d=true∧(r.getD d 0).testBit j=true
 | 0=>by simp[bY]
 | i+1=>by
  have ih:=wH (r:=r) (s:=s) (j:=j) (i:=i);by_cases h:s.testBit i=true
  ·rw[XF h,Nat.testBit_or,Bool.or_eq_true,ih];constructor
   ·rintro (⟨d,h1,h2⟩ | h1)
    ·exact ⟨d,by omega,h2⟩
    ·exact ⟨i,by omega,h,h1⟩
   ·rintro ⟨d,h1,h2,h3⟩;by_cases e:d=i
    ·subst e;exact .inr h3
    ·exact .inl ⟨d,by omega,h2,h3⟩
  ·rw[KM t189,ih];constructor
   ·rintro ⟨d,h1,h2⟩;exact ⟨d,by omega,h2⟩
   ·rintro ⟨d,h1,h2,h3⟩;by_cases e:d=i
    ·subst e;exact absurd h2 h
    ·exact ⟨d,by omega,h2,h3⟩
theorem yI {j:Nat}:(applyN r s).testBit j=true↔∃d,d<r.length∧s.testBit d=true∧(r.getD d 0).testBit j=true:=wH
theorem rN (h:∀j,a.testBit j=true↔b.testBit j=true):a=b:=Nat.eq_of_testBit_eq fun j=>Bool.eq_iff_iff.2 (h j)
variable {n d:Nat}
theorem nI {f:Nat→Nat}(hd:d<n):((List.range n).map f).getD d 0=f d:=by simp[List.getD,hd]
theorem wI (a b:List Nat):(o6 a b).length=a.length:=by simp[o6]
theorem wJ (a b:List Nat):(cJ a b).length=a.length:=by simp[cJ]
theorem KN (l:List Int)(k:Nat):(XG l k).length=k+1:=by simp[XG]
theorem R8 {a b:List Nat}(hd:d<a.length):(o6 a b).getD d 0=applyN b (a.getD d 0):=nI hd
theorem KO {a b:List Nat}(hd:d<a.length):(cJ a b).getD d 0=a.getD d 0|||b.getD d 0:=nI hd
theorem DS (x:Int):wG x ((2^(k+1):Nat):Int)<2^(k+1):=by have hp:0<2^(k+1):=Nat.two_pow_pos _;have h1:=@mJ x ((2^(k+1):Nat):Int) (by exact_mod_cast hp);have h2:=@pQ x ((2^(k+1):Nat):Int) (by exact_mod_cast hp);unfold wG;exact (Int.toNat_lt h1).2 h2
theorem relV_lt (l:List Int)(k d:Nat):relV l k d<2^(k+1):=by
 unfold relV;split
 ·exact DS _
 ·exact Nat.two_pow_pos _
theorem sh_lt {n:Int}(hk:k≤8):∀x∈dhN k n,x<512:=by
 intro x hx;obtain ⟨d,hd,rfl⟩:=List.mem_map.1 hx;unfold dhV;split
 ·rename_i h;have:((d:Int)+n).toNat≤8:=by omega
  exact Nat.lt_of_le_of_lt (Nat.pow_le_pow_right (by decide) this) (by decide)
 ·decide
theorem map_ext {f g:Nat→Nat}(h:∀d,d<n→f d=g d):(List.range n).map f=(List.range n).map g:=eL fun d hd=>h d (List.mem_range.1 hd)
theorem DT {x j:Nat}(h:x<2^n)(hj:x.testBit j=true):j<n:=by
 rcases Nat.lt_or_ge j n with h' | h'
 ·exact h'
 ·rw[Nat.testBit_lt_two_pow (Nat.lt_of_lt_of_le h (Nat.pow_le_pow_right (by decide) h'))]at hj;cases hj
theorem sU (l:List Int)(k:Nat):XG l k=(List.range (XG l k).length).map fun d=>(XG l k).getD d 0:=by rw[KN];exact map_ext fun d hd=>by rw[XG,nI hd]
theorem R9 (ha:a<512)(hb:b<512):bits .andNot .i64 (a:Int) (b:Int)=0↔∀j,a.testBit j=true→b.testBit j=true:=by
 have e1:∀n:Nat,BitVec.ofInt 64 (n:Int)=BitVec.ofNat 64 n:=fun n=>BitVec.ofInt_natCast _ _;have e2:bits .andNot .i64 (a:Int) (b:Int)=IntKind.wrap .i64 (((BitVec.ofNat 64 a&&&~~~ BitVec.ofNat 64 b).toNat:Nat):Int):=by show IntKind.wrap .i64 (((BitVec.ofInt 64 (a:Int)&&&~~~ BitVec.ofInt 64 (b:Int)).toNat:Nat):Int)=_;rw[e1,e1]
 have hn:(BitVec.ofNat 64 a&&&~~~ BitVec.ofNat 64 b).toNat≤a:=by rw[BitVec.toNat_and];refine Nat.le_trans Nat.and_le_left ?_;rw[BitVec.toNat_ofNat];exact Nat.mod_le _ _
 have ht:∀j,(BitVec.ofNat 64 a&&&~~~ BitVec.ofNat 64 b).toNat.testBit j=(a.testBit j&&! b.testBit j):=fun j=>by
  rw[BitVec.testBit_toNat,BitVec.getLsbD_and,BitVec.getLsbD_not,BitVec.getLsbD_ofNat,BitVec.getLsbD_ofNat];by_cases hj:j<64
  ·simp[hj]
  ·rw[Nat.testBit_lt_two_pow (x:=a) (Nat.lt_of_lt_of_le ha (Nat.le_trans (show 512≤2^9 from by decide) (Nat.pow_le_pow_right (by decide) (by omega))))];simp
 rw[e2,wrap64 (by omega) (by omega)];constructor
 ·intro h j hj;have h0:(BitVec.ofNat 64 a&&&~~~ BitVec.ofNat 64 b).toNat=0:=by omega
  have:=ht j;rw[h0,Nat.zero_testBit,hj]at this;simpa using this.symm
 ·intro h;have:(BitVec.ofNat 64 a&&&~~~ BitVec.ofNat 64 b).toNat=0:=by
   refine Nat.eq_of_testBit_eq fun j=>?_;rw[ht,Nat.zero_testBit];cases hj:a.testBit j with
   | false=>rfl
   | true=>rw[h j hj];rfl
  omega
theorem within_iff {x y:List Nat}(hx:∀v∈x,v<512)(hy:∀v∈y,v<512):wF x y↔∀d,d<x.length→∀j,(x.getD d 0).testBit j=true→(y.getD d 0).testBit j=true:=
 ⟨fun h d hd=>(R9 (gA hx d) (gA hy d)).1 (h d hd),fun h d hd=>(R9 (gA hx d) (gA hy d)).2 (h d hd)⟩
def Rl (k:Nat)(r:List Nat):Prop:=r.length=k+1∧∀x∈r,x<2^(k+1)
variable {k:Nat}{r:List Nat}
theorem Rl.lt (hk:k≤8)(h:Rl k r):∀x∈r,x<512:=fun x hx=>Nat.lt_of_lt_of_le (h.2 x hx) (sF hk).2
variable {n:Nat}
theorem qC (hr:∀x∈r,x<2^n)(i:Nat):r.getD i 0<2^n:=by
 rw[List.getD_eq_getElem?_getD];cases h:r[i]? with
 | none=>simp;exact Nat.two_pow_pos n
 | some x=>exact hr x (List.mem_of_getElem? h)
def bt (r:List Nat)(d e:Nat):Bool:=(r.getD d 0).testBit e
variable {d e:Nat}
theorem DU (h:Rl k r)(hb:bt r d e=true):d≤k∧e≤k:=by
 unfold bt at hb;refine ⟨?_,?_⟩
 ·by_cases hd:d<r.length
  ·have:=h.1;omega
  ·rw[List.getD_eq_getElem?_getD,List.getElem?_eq_none (by omega)]at hb;simp at hb
 ·have:=DT (qC h.2 d) hb;omega
def Sub (a b:List Nat):Prop:=∀d e,bt a d e=true→bt b d e=true
theorem Sub.refl (a:List Nat):Sub a a:=fun _ _ h=>h
variable {a b:List Nat}
theorem Sub.trans {c:List Nat}(h1:Sub a b)(h2:Sub b c):Sub a c:=fun d e h=>h2 d e (h1 d e h)
theorem KP (ha:Rl k a)(hb:Rl k b)(h:∀d e,bt a d e=true↔bt b d e=true):a=b:=by refine List.ext_getElem (by rw[ha.1,hb.1]) fun d k1 k2=>?_;have:=rN (a:=a.getD d 0) (b:=b.getD d 0) fun j=>h d j;simpa [List.getD,k1,k2] using this
theorem Sub.Di (ha:Rl k a)(hb:Rl k b)(h1:Sub a b)(h2:Sub b a):a=b:=KP ha hb fun d e=>⟨h1 d e,h2 d e⟩
theorem KQ (hk:k≤8)(ha:Rl k a)(hb:Rl k b):wF a b↔Sub a b:=by rw[within_iff (ha.lt hk) (hb.lt hk)];exact ⟨fun h d e hd=>h d (by have:=(DU ha hd).1;have:=ha.1;omega) e hd,fun h d _ e he=>h d e he⟩
theorem tV (ha:Rl k a)(hb:Rl k b):bt (cJ a b) d e=true↔bt a d e=true∨bt b d e=true:=by
 by_cases hd:d<a.length
 ·unfold bt;rw[KO hd,Nat.testBit_or,Bool.or_eq_true]
 ·have h1:=ha.1;have h2:=hb.1;unfold bt;simp only[List.getD_eq_getElem?_getD];rw[List.getElem?_eq_none (l:=cJ a b) (by rw[wJ];omega),List.getElem?_eq_none (l:=a) (by omega),List.getElem?_eq_none (l:=b) (by omega)];simp
theorem kG (ha:Rl k a)(hb:Rl k b):bt (o6 a b) d e=true↔∃f,bt a d f=true∧bt b f e=true:=by
 by_cases hd:d<a.length
 ·unfold bt;rw[R8 hd,yI];constructor
  ·rintro ⟨f,_,h1,h2⟩;exact ⟨f,h1,h2⟩
  ·rintro ⟨f,h1,h2⟩;exact ⟨f,by have:=(DU hb h2).1;have:=hb.1;omega,h1,h2⟩
 ·have h0:bt (o6 a b) d e=false:=by unfold bt;rw[List.getD_eq_getElem?_getD,List.getElem?_eq_none (by rw[wI];omega)];simp
  rw[h0];constructor
  ·intro h;cases h
  ·rintro ⟨f,h1,_⟩;have:=(DU ha h1).1;have:=ha.1;omega
theorem qD (ha:Rl k a)(hb:Rl k b):Rl k (cJ a b):=by refine ⟨by rw[wJ];exact ha.1,fun x hx=>?_⟩;obtain ⟨d,_,rfl⟩:=List.mem_map.1 hx;exact Nat.or_lt_two_pow (qC ha.2 d) (qC hb.2 d)
theorem qE {r:List Nat}{n:Nat}(hr:∀x∈r,x<2^n)(s:Nat):∀i,bY r s i<2^n
 | 0=>by simp[bY];exact Nat.two_pow_pos n
 | i+1=>by
  unfold bY;split
  ·exact Nat.or_lt_two_pow (qE hr s i) (qC hr i)
  ·exact qE hr s i
theorem DV (ha:Rl k a)(hb:Rl k b):Rl k (o6 a b):=by refine ⟨by rw[wI];exact ha.1,fun x hx=>?_⟩;obtain ⟨d,_,rfl⟩:=List.mem_map.1 hx;exact qE hb.2 _ _
theorem wK:bt (List.replicate n 0) d e=false:=by unfold bt;rw[List.getD_eq_getElem?_getD,List.getElem?_replicate];split<;>simp
theorem S2 (k:Nat):Rl k (List.replicate (k+1) 0):=⟨by simp,fun x hx=>by rw[List.eq_of_mem_replicate hx];exact Nat.two_pow_pos _⟩
theorem rl_dh (k:Nat)(n:Int):Rl k (dhN k n):=by
 refine ⟨by simp[dhN],fun x hx=>?_⟩;obtain ⟨d,_,rfl⟩:=List.mem_map.1 hx;unfold dhV;split
 ·exact Nat.pow_lt_pow_right (by decide) (by omega)
 ·exact Nat.two_pow_pos _
theorem TA {n:Int}:bt (dhN k n) d e=true↔d≤k∧e≤k∧(d:Int)+n=e:=by
 unfold bt;by_cases hd:d<k+1
 ·rw[dhN,nI hd,dhV];split
  ·rw[Nat.testBit_two_pow];simp only[decide_eq_true_eq];omega
  ·simp only[Nat.zero_testBit,Bool.false_eq_true,false_iff];omega
 ·rw[List.getD_eq_getElem?_getD,List.getElem?_eq_none (by simp[dhN];omega)];simp;omega
noncomputable def nU (p:Nat→Prop):Nat→Nat
 | 0=>0
 | j+1=>@ite _ (p j) (Classical.propDecidable _) (nU p j|||2^j) (nU p j)
theorem rO {p:Nat→Prop}{j:Nat}:∀{n:Nat},(nU p n).testBit j=true↔j<n∧p j
 | 0=>by simp[nU]
 | n+1=>by
  have ih:=rO (p:=p) (j:=j) (n:=n);rw[nU];split
  ·rename_i h;rw[Nat.testBit_or,Bool.or_eq_true,ih,Nat.testBit_two_pow];simp only[decide_eq_true_eq];constructor
   ·rintro (⟨h1,h2⟩ | rfl)
    ·exact ⟨by omega,h2⟩
    ·exact ⟨by omega,h⟩
   ·rintro ⟨h1,h2⟩;by_cases e:n=j
    ·exact .inr e
    ·exact .inl ⟨by omega,h2⟩
  ·rename_i h;rw[ih];constructor
   ·rintro ⟨h1,h2⟩;exact ⟨by omega,h2⟩
   ·rintro ⟨h1,h2⟩;refine ⟨?_,h2⟩;by_cases e:j=n
    ·subst e;exact absurd h2 h
    ·omega
theorem wL {p:Nat→Prop}:∀n:Nat,nU p n<2^n
 | 0=>by simp[nU]
 | n+1=>by
  have ih:=wL (p:=p) n;have h2:2^n<2^(n+1):=Nat.pow_lt_pow_right (by decide) (by omega);rw[nU];split
  ·exact Nat.or_lt_two_pow (by omega) h2
  ·omega
noncomputable def wM (k:Nat)(p:Nat→Nat→Prop):List Nat:=(List.range (k+1)).map fun d=>nU (p d) (k+1)
theorem qF (k:Nat)(p:Nat→Nat→Prop):Rl k (wM k p):=by refine ⟨by simp[wM],fun x hx=>?_⟩;obtain ⟨d,_,rfl⟩:=List.mem_map.1 hx;exact wL _
theorem tW {p:Nat→Nat→Prop}:bt (wM k p) d e=true↔d≤k∧e≤k∧p d e:=by
 unfold bt;by_cases hd:d<k+1
 ·rw[wM,nI hd,rO];constructor
  ·rintro ⟨h1,h2⟩;exact ⟨by omega,by omega,h2⟩
  ·rintro ⟨_,h1,h2⟩;exact ⟨by omega,h2⟩
 ·rw[List.getD_eq_getElem?_getD,List.getElem?_eq_none (by simp[wM];omega)];simp;omega
def Tb (k n:Nat)(T:List (List Nat)):Prop:=T.length=n∧∀r∈T,Rl k r
variable {T:List (List Nat)}{i:Nat}
theorem Tb.get (h:Tb k n T)(hi:i<n):Rl k (T.getD i []):=by rw[List.getD_eq_getElem?_getD,List.getElem?_eq_getElem (by rw[h.1];exact hi)];exact h.2 _ (List.getElem_mem _)
theorem Tb.set (h:Tb k n T)(hr:Rl k r):Tb k n (T.set i r):=by
 refine ⟨by rw[List.length_set];exact h.1,fun x hx=>?_⟩;rcases List.mem_or_eq_of_mem_set hx with hx | rfl
 ·exact h.2 x hx
 ·exact hr
theorem eF {j:Nat}(hi:i<T.length):(T.set i r).getD j []=if j=i then r else T.getD j []:=by
 simp only[List.getD_eq_getElem?_getD];by_cases h:j=i
 ·subst h;simp[hi]
 ·rw[List.getElem?_set_ne (Ne.symm h),if_neg h]
def nR (A B:List (List Nat)):Prop:=∀i,Sub (A.getD i []) (B.getD i [])
theorem nR.refl (A:List (List Nat)):nR A A:=fun _=>Sub.refl _
variable {A B:List (List Nat)}
theorem nR.trans {C:List (List Nat)}(h1:nR A B)(h2:nR B C):nR A C:=fun i=>(h1 i).trans (h2 i)
theorem nR.Di (ha:Tb k n A)(hb:Tb k n B)(h1:nR A B)(h2:nR B A):A=B:=by refine List.ext_getElem (by rw[ha.1,hb.1]) fun d k1 k2=>?_;have e1:=h1 d;have e2:=h2 d;have:=Sub.Di (ha.get (i:=d) (by rw[←ha.1];exact k1)) (hb.get (i:=d) (by rw[←hb.1];exact k2)) e1 e2;simpa [List.getD,k1,k2] using this
theorem sub_nil (b:List Nat):Sub [] b:=fun d e h=>by simp[bt]at h
theorem wN (ha:Tb k n A)(h:∀i,i<n→Sub (A.getD i []) (B.getD i [])):nR A B:=fun i=>by
 by_cases hi:i<n
 ·exact h i hi
 ·rw[List.getD_eq_getElem?_getD,List.getElem?_eq_none (by rw[ha.1];omega)];exact sub_nil _
def tot (T:List (List Nat)):Nat:=(T.map List.sum).sum
theorem nJ {c:Nat}:∀{l:List Nat},(∀x∈l,x≤c)→l.sum≤c*l.length
 | [],_=>by simp
 | x::l,h=>by have h1:=h x (by simp);have h2:=nJ (l:=l) fun y hy=>h y (by simp[hy]);simp only[List.sum_cons,List.length_cons,Nat.mul_succ];omega
theorem rl_sum (hk:k≤8)(h:Rl k r):r.sum≤512*9:=by refine Nat.le_trans (nJ (c:=512) fun x hx=>Nat.le_of_lt (h.lt hk x hx)) ?_;rw[h.1];exact Nat.mul_le_mul_left _ (by omega)
theorem L7 (hk:k≤8)(h:Tb k n T):tot T≤4608*n:=by
 unfold tot;refine Nat.le_trans (nJ (c:=4608) fun x hx=>?_) ?_
 ·obtain ⟨r,hr,rfl⟩:=List.mem_map.1 hx;exact rl_sum hk (h.2 r hr)
 ·rw[List.length_map,h.1];exact Nat.le_refl _
theorem oI:∀{l:List Nat} {i x:Nat},i<l.length→(l.set i x).sum+l.getD i 0=l.sum+x
 | y::l,0,x,_=>by simp[List.getD];omega
 | y::l,i+1,x,h=>by have:=oI (l:=l) (i:=i) (x:=x) t189;simp only[List.set_cons_succ,List.sum_cons,List.getD_cons_succ];omega
theorem wO:(T.map List.sum).getD i 0=(T.getD i []).sum:=by simp only[List.getD_eq_getElem?_getD,List.getElem?_map];cases T[i]?<;>simp
theorem tot_set (hi:i<T.length):tot (T.set i r)+(T.getD i []).sum=tot T+r.sum:=by unfold tot;rw[List.map_set,←wO];exact oI (by simpa using hi)
theorem C9:∀{a b:List Nat},a.length=b.length→(∀d,a.getD d 0≤b.getD d 0)→a.sum≤b.sum∧(a≠b→a.sum<b.sum)
 | [],[],_,_=>by simp
 | x::a,y::b,hl,h=>by
  have h0:x≤y:=h 0;obtain ⟨i1,i2⟩:=C9 (a:=a) (b:=b) t155 fun d=>h (d+1);simp only[List.sum_cons];refine ⟨by omega,fun hne=>?_⟩;by_cases e:x=y
  ·have:=i2 fun e2=>hne (by rw[e,e2]);omega
  ·omega
 | [],_::_,hl,_=>by simp at hl
 | _::_,[],hl,_=>by simp at hl
theorem yJ {a b:Nat}(h:∀j,a.testBit j=true→b.testBit j=true):a≤b:=by
 have:a|||b=b:=rN fun j=>by rw[Nat.testBit_or,Bool.or_eq_true];exact ⟨fun h1=>h1.elim (h j) id,.inr⟩
 rw[←this];exact Nat.left_le_or
theorem S3 (ha:Rl k a)(hb:Rl k b)(h:Sub a b):a.sum≤b.sum∧(a≠b→a.sum<b.sum):=
 C9 (by rw[ha.1,hb.1]) fun d=>yJ fun j=>h d j
theorem D0 (hT:Tb k n T)(hi:i<n)(hr:Rl k r)(hs:Sub (T.getD i []) r)(hne:T.getD i []≠r):tot T<tot (T.set i r):=by have h1:=tot_set (T:=T) (i:=i) (r:=r) (by rw[hT.1];exact hi);have h2:=(S3 (hT.get hi) hr hs).2 hne;omega
inductive Way (k:Nat)(nx:Nat→List Int)(st:Nat→List Nat):Nat→Nat→Nat→Prop
 | start {d:Nat}:d≤k→Way k nx st 0 d d
 | step {pc d e f:Nat} {q:Int}:Way k nx st pc d e→bt (st pc) e f=true→q∈nx pc→Way k nx st q.toNat d f
def TB (nx:Nat→List Int)(st:Nat→List Nat)(T:List (List Nat))(pc:Nat):Prop:=∀q∈nx pc,Sub (o6 (T.getD pc []) (st pc)) (T.getD q.toNat [])
structure ClT (k n:Nat)(nx:Nat→List Int)(st:Nat→List Nat)(T:List (List Nat)):Prop where
 tb:Tb k n T
 id:Sub (dhN k 0) (T.getD 0 [])
 at':∀pc,pc<n→TB nx st T pc
noncomputable def dM (k n:Nat)(nx:Nat→List Int)(st:Nat→List Nat):List (List Nat):=(List.range n).map fun pc=>wM k (Way k nx st pc)
structure Pro (k n:Nat)(nx:Nat→List Int)(st:Nat→List Nat):Prop where
 pos:0<n
 nx:∀pc,pc<n→∀q∈nx pc,0≤q∧q<n
 st:∀pc,pc<n→Rl k (st pc)
variable {nx:Nat→List Int}{st:Nat→List Nat}{pc:Nat}
theorem Way.lt (p:Pro k n nx st)(w:Way k nx st pc d e):pc<n∧d≤k∧e≤k:=by
 induction w with
 | start h=>exact ⟨p.pos,h,h⟩
 | step w hb hq ih=>
  have h1:=p.nx _ ih.1 _ hq;exact ⟨by omega,ih.2.1,(DU (p.st _ ih.1) hb).2⟩
theorem KR (hp:pc<n):(dM k n nx st).getD pc []=wM k (Way k nx st pc):=by simp[dM,List.getD,hp]
theorem qG (k n:Nat)(nx:Nat→List Int)(st:Nat→List Nat):Tb k n (dM k n nx st):=by refine ⟨by simp[dM],fun r hr=>?_⟩;obtain ⟨pc,_,rfl⟩:=List.mem_map.1 hr;exact qF _ _
theorem lI (p:Pro k n nx st)(hp:pc<n):bt ((dM k n nx st).getD pc []) d e=true↔Way k nx st pc d e:=by rw[KR hp,tW];exact ⟨fun h=>h.2.2,fun h=>⟨(h.lt p).2.1,(h.lt p).2.2,h⟩⟩
theorem AR (p:Pro k n nx st):ClT k n nx st (dM k n nx st):=by
 have tb:=qG k n nx st;refine ⟨tb,fun d e h=>?_,fun pc hp q hq d e h=>?_⟩
 ·obtain ⟨h1,h2,h3⟩:=TA.1 h;have:d=e:=by omega
  subst this;exact (lI p p.pos).2 (.start h1)
 ·obtain ⟨f,h1,h2⟩:=(kG (tb.get hp) (p.st pc hp)).1 h;have h3:=p.nx pc hp q hq;exact (lI p (by omega)).2 (.step ((lI p hp).1 h1) h2 hq)
theorem ClT.way (p:Pro k n nx st)(c:ClT k n nx st T)(w:Way k nx st pc d e):bt (T.getD pc []) d e=true:=by
 induction w with
 | start h=>exact c.id _ _ (TA.2 ⟨h,h,by omega⟩)
 | step w hb hq ih=>
  have h1:=(w.lt p).1;exact c.at' _ h1 _ hq _ _ ((kG (c.tb.get h1) (p.st _ h1)).2 ⟨_,ih,hb⟩)
theorem ClT.least (p:Pro k n nx st)(c:ClT k n nx st T):nR (dM k n nx st) T:=
 wN (qG k n nx st) fun i hi d e h=>c.way p ((lI p hi).1 h)
theorem ClT.eq (p:Pro k n nx st)(c:ClT k n nx st T)(h:nR T (dM k n nx st)):T=dM k n nx st:=
 nR.Di c.tb (qG k n nx st) h (c.least p)
theorem Way.mono {st':Nat→List Nat}(h:∀pc,Sub (st pc) (st' pc))(w:Way k nx st pc d e):Way k nx st' pc d e:=by
 induction w with
 | start h=>exact .start h
 | step w hb hq ih=>exact .step ih (h _ _ _ hb) hq
theorem TC {k n:Nat}{A B:List (List Nat)}(ha:Tb k n A)(hb:Tb k n B)(h:nR A B):tot A≤tot B∧(A≠B→tot A<tot B):=by
 have e:∀T:List (List Nat),∀d,(T.map List.sum).getD d 0=(T.getD d []).sum:=fun T d=>wO;have h1:∀d,(A.map List.sum).getD d 0≤(B.map List.sum).getD d 0:=fun d=>by
  rw[e,e];by_cases hd:d<n
  ·exact (S3 (ha.get hd) (hb.get hd) (h d)).1
  ·rw[List.getD_eq_getElem?_getD,List.getElem?_eq_none (by rw[ha.1];omega)];simp
 obtain ⟨h2,h3⟩:=C9 (a:=A.map List.sum) (b:=B.map List.sum) (by simp[ha.1,hb.1]) h1;refine ⟨h2,fun hne=>h3 fun he=>hne ?_⟩;refine nR.Di ha hb h (wN hb fun i hi=>?_);have h4:=congrArg (fun l=>l.getD i 0) he;simp only[e]at h4;by_cases h5:A.getD i []=B.getD i []
 ·rw[h5];exact Sub.refl _
 ·have:=(S3 (ha.get hi) (hb.get hi) (h i)).2 h5;omega
section
variable (u:Un)(c:Clo)(m:Nat)
def kM:Nat:=gT (u.mutexes.getD m s8)
def itI (i:Nat):w6:=c.insts.getD i c9
def dP (i pc:Nat):Ins:=(c5 u (itI c i)).getD pc c8
def u7 (i:Nat):Nat:=(c5 u (itI c i)).length
def dB (i pc:Nat):Nat:=((c.calls.getD i []).getD pc 0).toNat
def nxI (i pc:Nat):List Int:=n9 (dP u c i pc) pc
def stS (S:List (List Nat))(i pc:Nat):List Nat:=if (dP u c i pc).op=2 then S.getD (dB c i pc) [] else dhN (kM u m) (chI (itI c i) (dP u c i pc) m)
noncomputable def kH (S:List (List Nat))(i:Nat):List (List Nat):=dM (kM u m) (u7 u c i) (nxI u c i) (stS u c m S i)
noncomputable def S4 (i:Nat)(T:List (List Nat))(j:Nat):List Nat:=wM (kM u m) fun d e=>∃pc,pc<j∧(dP u c i pc).op=8∧bt (T.getD pc []) d e=true
noncomputable def exT (S:List (List Nat))(i:Nat):List Nat:=S4 u c m i (kH u c m S i) (u7 u c i)
noncomputable def yK (S:List (List Nat)):List (List Nat):=(List.range c.insts.length).map fun i=>exT u c m S i
def sP:List (List Nat):=List.replicate c.insts.length (List.replicate (kM u m+1) 0)
inductive Inn:Nat→Nat→Nat→Nat→Prop
 | start {i d:Nat}:d≤kM u m→Inn i 0 d d
 | step {i pc d e f:Nat} {q:Int}:Inn i pc d e→(dP u c i pc).op≠2→bt (dhN (kM u m) (chI (itI c i) (dP u c i pc) m)) e f=true→q∈nxI u c i pc→Inn i q.toNat d f
 | call {i pc d e f p:Nat} {q:Int}:Inn i pc d e→(dP u c i pc).op=2→Inn (dB c i pc) p e f→(dP u c (dB c i pc) p).op=8→q∈nxI u c i pc→Inn i q.toNat d f
noncomputable def cR:List (List Nat):=(List.range c.insts.length).map fun i=>wM (kM u m) fun d e=>∃pc,pc<u7 u c i∧(dP u c i pc).op=8∧Inn u c m i pc d e
end
section
variable {u:Un}{c:Clo}{m:Nat}
theorem gR:kM u m≤8:=jP
variable {i:Nat}
theorem dX (wc:WC u c)(hi:i<c.insts.length):WIt u (itI c i):=wc.wi _ (j4 hi)
variable {pc:Nat}
theorem jC (hu:WU u)(wc:WC u c)(hi:i<c.insts.length)(hp:pc<u7 u c i)(ho:(dP u c i pc).op=2):dB c i pc<c.insts.length:=by have h1:=((wc.call i hi pc hp).1 (.inl ho));unfold dB;omega
variable {S:List (List Nat)}
theorem TD (hu:WU u)(wc:WC u c)(hS:Tb (kM u m) c.insts.length S)(hi:i<c.insts.length):Pro (kM u m) (u7 u c i) (nxI u c i) (stS u c m S i):=by
 have w:=dX wc hi;refine ⟨(fT hu w).1,fun pc hp q hq=>?_,fun pc hp=>?_⟩
 ·obtain ⟨d,hd,rfl⟩:=List.getElem_of_mem hq;have h:=KE hu w hp d hd;have e:(n9 ((c5 u (itI c i)).getD pc c8) pc).getD d 0=(nxI u c i pc)[d]:=by show (nxI u c i pc).getD d 0=_;simp[List.getD,hd]
  rw[←e];exact h
 ·unfold stS;split
  ·rename_i ho;exact hS.get (jC hu wc hi hp ho)
  ·exact rl_dh _ _
theorem iP (S:List (List Nat))(i:Nat):Tb (kM u m) (u7 u c i) (kH u c m S i):=qG _ _ _ _
variable {T:List (List Nat)}{j d e:Nat}
theorem S5 (hT:Tb (kM u m) (u7 u c i) T)(hj:j≤u7 u c i):bt (S4 u c m i T j) d e=true↔∃pc,pc<j∧(dP u c i pc).op=8∧bt (T.getD pc []) d e=true:=by rw[S4,tW];refine ⟨fun h=>h.2.2,fun h=>?_⟩;obtain ⟨pc,h1,h2,h3⟩:=h;have:=DU (hT.get (i:=pc) (by omega)) h3;exact ⟨this.1,this.2,pc,h1,h2,h3⟩
theorem oJ (i:Nat)(T:List (List Nat))(j:Nat):Rl (kM u m) (S4 u c m i T j):=qF _ _
theorem KS (i:Nat)(T:List (List Nat)):S4 u c m i T 0=List.replicate (kM u m+1) 0:=
 KP (qF _ _) (S2 _) fun d e=>by
  rw[wK,S4,tW];constructor
  ·rintro ⟨_,_,pc,h,_⟩;omega
  ·intro h;cases h
theorem TE (hT:Tb (kM u m) (u7 u c i) T)(hj:j<u7 u c i)(ho:(dP u c i j).op=8):S4 u c m i T (j+1)=cJ (S4 u c m i T j) (T.getD j []):=
 KP (oJ i T (j+1)) (qD (oJ i T j) (hT.get hj)) fun d e=>by
  rw[tV (oJ i T j) (hT.get hj),S5 hT hj,S5 hT (Nat.le_of_lt hj)];constructor
  ·rintro ⟨pc,h1,h2,h3⟩;by_cases e:pc=j
   ·subst e;exact .inr h3
   ·exact .inl ⟨pc,by omega,h2,h3⟩
  ·rintro (⟨pc,h1,h2,h3⟩ | h)
   ·exact ⟨pc,by omega,h2,h3⟩
   ·exact ⟨j,by omega,ho,h⟩
theorem exOf_no (ho:¬(dP u c i j).op=8):S4 u c m i T (j+1)=S4 u c m i T j:=by
 unfold S4;refine congrArg (wM _) (funext fun d=>funext fun e=>propext ?_);constructor
 ·rintro ⟨pc,h1,h2,h3⟩;refine ⟨pc,?_,h2,h3⟩;by_cases e:pc=j
  ·subst e;exact absurd h2 ho
  ·omega
 ·rintro ⟨pc,h1,h2,h3⟩;exact ⟨pc,by omega,h2,h3⟩
theorem L9 (S:List (List Nat))(i:Nat):Rl (kM u m) (exT u c m S i):=qF _ _
theorem wP (hu:WU u)(wc:WC u c)(hS:Tb (kM u m) c.insts.length S)(hi:i<c.insts.length):bt (exT u c m S i) d e=true↔∃pc,pc<u7 u c i∧(dP u c i pc).op=8∧Way (kM u m) (nxI u c i) (stS u c m S i) pc d e:=by
 rw[exT,S5 (iP S i) (Nat.le_refl _)];constructor
 ·rintro ⟨pc,h1,h2,h3⟩;exact ⟨pc,h1,h2,(lI (TD hu wc hS hi) h1).1 h3⟩
 ·rintro ⟨pc,h1,h2,h3⟩;exact ⟨pc,h1,h2,(lI (TD hu wc hS hi) h1).2 h3⟩
theorem TF {S':List (List Nat)}(h:nR S S')(i pc:Nat):Sub (stS u c m S i pc) (stS u c m S' i pc):=by
 unfold stS;split
 ·exact h _
 ·exact Sub.refl _
theorem D1 (hu:WU u)(wc:WC u c){S':List (List Nat)}(hS:Tb (kM u m) c.insts.length S)(hS':Tb (kM u m) c.insts.length S')(h:nR S S')(hi:i<c.insts.length):Sub (exT u c m S i) (exT u c m S' i):=fun d e hb=>by obtain ⟨pc,h1,h2,h3⟩:=(wP hu wc hS hi).1 hb;exact (wP hu wc hS' hi).2 ⟨pc,h1,h2,h3.mono fun pc=>TF h i pc⟩
theorem jQ (S:List (List Nat)):Tb (kM u m) c.insts.length (yK u c m S):=by refine ⟨by simp[yK],fun r hr=>?_⟩;obtain ⟨i,_,rfl⟩:=List.mem_map.1 hr;exact L9 S i
theorem tX (hi:i<c.insts.length):(yK u c m S).getD i []=exT u c m S i:=by simp[yK,List.getD,hi]
theorem TG:Tb (kM u m) c.insts.length (sP u c m):=⟨by simp[sP],fun r hr=>by rw[List.eq_of_mem_replicate hr];exact S2 _⟩
theorem zero_sub {b:List Nat}:Sub ((sP u c m).getD i []) b:=fun d e h=>by
 have:bt ((sP u c m).getD i []) d e=false:=by
  unfold sP;rw[List.getD_eq_getElem?_getD,List.getElem?_replicate];split
  ·exact wK
  ·simp[bt]
 rw[this]at h;cases h
theorem KT:nR (sP u c m) S:=fun i=>zero_sub
theorem w7:Tb (kM u m) c.insts.length (cR u c m):=by refine ⟨by simp[cR],fun r hr=>?_⟩;obtain ⟨i,_,rfl⟩:=List.mem_map.1 hr;exact qF _ _
theorem TH (hi:i<c.insts.length):(cR u c m).getD i []=wM (kM u m) fun d e=>∃pc,pc<u7 u c i∧(dP u c i pc).op=8∧Inn u c m i pc d e:=by simp[cR,List.getD,hi]
theorem Inn.lt (hu:WU u)(wc:WC u c)(h:Inn u c m i pc d e):i<c.insts.length→pc<u7 u c i∧d≤kM u m∧e≤kM u m:=by
 induction h with
 | start h=>exact fun hi=>⟨(fT hu (dX wc hi)).1,h,h⟩
 | step h ho hb hq ih=>
  intro hi;have h1:=ih hi;have p:=TD hu wc (S:=cR u c m) w7 hi;have h2:=p.nx _ h1.1 _ hq;exact ⟨by omega,h1.2.1,(TA.1 hb).2.1⟩
 | call h ho h2 ho2 hq ih ih2=>
  intro hi;have h1:=ih hi;have p:=TD hu wc (S:=cR u c m) w7 hi;have h3:=p.nx _ h1.1 _ hq;exact ⟨by omega,h1.2.1,(ih2 (jC hu wc hi h1.1 ho)).2.2⟩
theorem oK (hu:WU u)(wc:WC u c)(hi:i<c.insts.length):bt ((cR u c m).getD i []) d e=true↔∃pc,pc<u7 u c i∧(dP u c i pc).op=8∧Inn u c m i pc d e:=by rw[TH hi,tW];refine ⟨fun h=>h.2.2,fun ⟨pc,h1,h2,h3⟩=>?_⟩;have:=h3.lt hu wc hi;exact ⟨this.2.1,this.2.2,pc,h1,h2,h3⟩
theorem S6 (hu:WU u)(wc:WC u c)(hi:i<c.insts.length)(w:Way (kM u m) (nxI u c i) (stS u c m (cR u c m) i) pc d e):Inn u c m i pc d e:=by
 induction w with
 | start h=>exact .start h
 | step w hb hq ih=>
  have h1:=(ih.lt hu wc hi).1;unfold stS at hb;split at hb
  ·rename_i ho;obtain ⟨p,h2,h3,h4⟩:=(oK hu wc (jC hu wc hi h1 ho)).1 hb;exact .call ih ho h4 h3 hq
  ·rename_i ho;exact .step ih ho hb hq
theorem S7 (hu:WU u)(wc:WC u c)(hS:Tb (kM u m) c.insts.length S)(hc:∀i,i<c.insts.length→Sub (exT u c m S i) (S.getD i []))(h:Inn u c m i pc d e):i<c.insts.length→Way (kM u m) (nxI u c i) (stS u c m S i) pc d e:=by
 induction h with
 | start h=>exact fun _=>.start h
 | step h ho hb hq ih=>
  intro hi;exact .step (ih hi) (by unfold stS;rw[if_neg ho];exact hb) hq
 | call h ho h2 ho2 hq ih ih2=>
  intro hi;have h1:=(h.lt hu wc hi).1;have hj:=jC hu wc hi h1 ho;exact .step (ih hi) (by unfold stS;rw[if_pos ho];exact hc _ hj _ _ ((wP hu wc hS hj).2 ⟨_,(h2.lt hu wc hj).1,ho2,ih2 hj⟩)) hq
theorem KU (hu:WU u)(wc:WC u c)(hi:i<c.insts.length):exT u c m (cR u c m) i=(cR u c m).getD i []:=by
 have h1:Sub (exT u c m (cR u c m) i) ((cR u c m).getD i []):=fun d e hb=>by obtain ⟨pc,h1,h2,h3⟩:=(wP hu wc w7 hi).1 hb;exact (oK hu wc hi).2 ⟨pc,h1,h2,S6 hu wc hi h3⟩
 refine Sub.Di (L9 _ _) (w7.get hi) h1 fun d e hb=>?_;obtain ⟨pc,h2,h3,h4⟩:=(oK hu wc hi).1 hb;refine (wP hu wc w7 hi).2 ⟨pc,h2,h3,S7 hu wc w7 (fun j hj d e hb=>?_) h4 hi⟩;obtain ⟨pc,h1,h2,h3⟩:=(wP hu wc w7 hj).1 hb;exact (oK hu wc hj).2 ⟨pc,h1,h2,S6 hu wc hj h3⟩
theorem KV (hu:WU u)(wc:WC u c)(hS:Tb (kM u m) c.insts.length S)(hc:∀i,i<c.insts.length→Sub (exT u c m S i) (S.getD i [])):nR (cR u c m) S:=
 wN w7 fun i hi d e hb=>by obtain ⟨pc,h2,h3,h4⟩:=(oK hu wc hi).1 hb;exact hc i hi _ _ ((wP hu wc hS hi).2 ⟨pc,h2,h3,S7 hu wc hS hc h4 hi⟩)
theorem XH (hu:WU u)(wc:WC u c)(hS:Tb (kM u m) c.insts.length S)(hs:nR S (cR u c m))(hc:∀i,i<c.insts.length→exT u c m S i=S.getD i []):S=cR u c m:=
 nR.Di hS w7 hs (KV hu wc hS fun i hi=>by rw[hc i hi];exact Sub.refl _)
theorem wQ (hu:WU u)(wc:WC u c)(hS:Tb (kM u m) c.insts.length S)(hs:nR S (cR u c m))(hi:i<c.insts.length):Sub (exT u c m S i) ((cR u c m).getD i []):=by rw[←KU hu wc hi];exact D1 hu wc hS w7 hs hi
theorem M0 (hu:WU u)(wc:WC u c)(hS:Tb (kM u m) c.insts.length S)(hs:nR S (cR u c m)):nR (yK u c m S) (cR u c m):=
 wN (jQ S) fun i hi=>by rw[tX hi];exact wQ hu wc hS hs hi
structure Low (u:Un)(c:Clo)(m:Nat)(S:List (List Nat)):Prop where
 tb:Tb (kM u m) c.insts.length S
 up:∀i,i<c.insts.length→Sub (S.getD i []) (exT u c m S i)
 le:nR S (cR u c m)
theorem Low.zero:Low u c m (sP u c m):=⟨TG,fun i _=>zero_sub,KT⟩
theorem Low.set (hu:WU u)(wc:WC u c)(h:Low u c m S)(hi:i<c.insts.length):Low u c m (S.set i (exT u c m S i))∧nR S (S.set i (exT u c m S i)):=by
 have tb':Tb (kM u m) c.insts.length (S.set i (exT u c m S i)):=h.tb.set (L9 _ _);have hl:i<S.length:=by rw[h.tb.1];exact hi
 have hs:nR S (S.set i (exT u c m S i)):=fun j=>by
  rw[eF hl];split
  ·rename_i e;subst e;exact h.up j hi
  ·exact Sub.refl _
 refine ⟨⟨tb',fun j hj=>?_,fun j=>?_⟩,hs⟩
 ·have:=D1 hu wc h.tb tb' hs hj;rw[eF hl];split
  ·rename_i e;subst e;exact this
  ·exact (h.up j hj).trans this
 ·rw[eF hl];split
  ·rename_i e;subst e;exact wQ hu wc h.tb h.le hi
  ·exact h.le j
theorem Low.round (hu:WU u)(wc:WC u c)(h:Low u c m S):Low u c m (yK u c m S)∧nR S (yK u c m S):=by
 have hs:nR S (yK u c m S):=wN h.tb fun i hi=>by rw[tX hi];exact h.up i hi
 exact ⟨⟨jQ S,fun i hi=>by rw[tX hi];exact D1 hu wc h.tb (jQ S) hs hi,M0 hu wc h.tb h.le⟩,hs⟩
theorem Low.done (hu:WU u)(wc:WC u c)(h:Low u c m S)(he:yK u c m S=S):S=cR u c m:=
 XH hu wc h.tb h.le fun i hi=>by rw[←tX hi,he]
end
theorem M1 {k:Nat}{r:List Nat}(hr:Rl k r){s j:Nat}:(applyN r s).testBit j=true↔∃d,s.testBit d=true∧bt r d j=true:=by
 rw[yI];constructor
 ·rintro ⟨d,_,h1,h2⟩;exact ⟨d,h1,h2⟩
 ·rintro ⟨d,h1,h2⟩;exact ⟨d,by have:=(DU hr h2).1;have:=hr.1;omega,h1,h2⟩
theorem nK {k:Nat}{r:List Nat}(hr:Rl k r)(s:Nat):applyN r s<2^(k+1):=qE hr.2 s _
section
variable (u:Un)(c:Clo)(m:Nat)
inductive NI:Nat→Nat→Prop
 | root {i:Nat}:(i:Int)∈c.roots→NI i 0
 | call {i pc d e:Nat}:NI i d→Inn u c m i pc d e→(dP u c i pc).op=2→NI (dB c i pc) e
noncomputable def kN:List Nat:=(List.range c.insts.length).map fun i=>nU (NI u c m i) (kM u m+1)
noncomputable def inS (i:Nat):List (List Nat):=kH u c m (cR u c m) i
noncomputable def lZ (i:Nat):List Nat:=(inS u c m i).map fun r=>applyN r ((kN u c m).getD i 0)
noncomputable def jR:List (List Nat):=(List.range c.insts.length).map (lZ u c m)
noncomputable def AS:List Nat:=(List.range c.insts.length).map fun i=>applyN ((cR u c m).getD i []) ((kN u c m).getD i 0)
def Es (E:List Nat):Prop:=E.length=c.insts.length∧∀x∈E,x<2^(kM u m+1)
def ClE (E:List Nat)(i pc:Nat):Prop:=(dP u c i pc).op=2→∀j,(applyN ((inS u c m i).getD pc []) (E.getD i 0)).testBit j=true→bt E (dB c i pc) j=true
end
section
variable {u:Un}{c:Clo}{m:Nat}
variable {E:List Nat}
theorem Es.lt (h:Es u c m E):∀x∈E,x<512:=fun x hx=>Nat.lt_of_lt_of_le (h.2 x hx) (sF gR).2
theorem Es.get (h:Es u c m E)(i:Nat):E.getD i 0<2^(kM u m+1):=qC h.2 i
variable {i x:Nat}
theorem Es.set (h:Es u c m E)(hx:x<2^(kM u m+1)):Es u c m (E.set i x):=by
 refine ⟨by rw[List.length_set];exact h.1,fun y hy=>?_⟩;rcases List.mem_or_eq_of_mem_set hy with hy | rfl
 ·exact h.2 y hy
 ·exact hx
theorem Es.zero:Es u c m (List.replicate c.insts.length 0):=⟨by simp,fun x hx=>by rw[List.eq_of_mem_replicate hx];exact Nat.two_pow_pos _⟩
theorem rP:Es u c m (kN u c m):=by refine ⟨by simp[kN],fun r hr=>?_⟩;obtain ⟨i,_,rfl⟩:=List.mem_map.1 hr;exact wL _
variable {d:Nat}
theorem NI.lt (hu:WU u)(wc:WC u c)(h:NI u c m i d):i<c.insts.length∧d≤kM u m:=by
 induction h with
 | root h=>have:=wc.rr _ h;exact ⟨by omega,Nat.zero_le _⟩
 | call h h2 ho ih=>have h3:=h2.lt hu wc ih.1;exact ⟨jC hu wc ih.1 h3.1 ho,h3.2.2⟩
theorem lJ (hu:WU u)(wc:WC u c):bt (kN u c m) i d=true↔NI u c m i d:=by
 unfold bt;by_cases hi:i<c.insts.length
 ·rw[kN,nI hi,rO];exact ⟨fun h=>h.2,fun h=>⟨by have:=(h.lt hu wc).2;omega,h⟩⟩
 ·rw[List.getD_eq_getElem?_getD,List.getElem?_eq_none (by simp[kN];omega)];constructor
  ·intro h;simp at h
  ·intro h;exact absurd (h.lt hu wc).1 hi
theorem wR (i:Nat):Tb (kM u m) (u7 u c i) (inS u c m i):=iP _ _
variable {pc e:Nat}
theorem XI (hu:WU u)(wc:WC u c)(hi:i<c.insts.length)(hp:pc<u7 u c i):bt ((inS u c m i).getD pc []) d e=true↔Inn u c m i pc d e:=by unfold inS kH;rw[lI (TD hu wc w7 hi) hp];refine ⟨S6 hu wc hi,fun h=>S7 hu wc w7 (fun j hj=>?_) h hi⟩;rw[KU hu wc hj];exact Sub.refl _
theorem S8 (hu:WU u)(wc:WC u c)(hi:i<c.insts.length)(hp:pc<u7 u c i):(applyN ((inS u c m i).getD pc []) (E.getD i 0)).testBit e=true↔∃d,bt E i d=true∧Inn u c m i pc d e:=by
 rw[M1 ((wR i).get hp)];constructor
 ·rintro ⟨d,h1,h2⟩;exact ⟨d,h1,(XI hu wc hi hp).1 h2⟩
 ·rintro ⟨d,h1,h2⟩;exact ⟨d,h1,(XI hu wc hi hp).2 h2⟩
theorem tY (hp:pc<u7 u c i):(lZ u c m i).getD pc 0=applyN ((inS u c m i).getD pc []) ((kN u c m).getD i 0):=by have:=(wR (u:=u) (c:=c) (m:=m) i).1;simp[lZ,List.getD,this,hp]
theorem aQ:(lZ u c m i).length=u7 u c i:=by rw[lZ,List.length_map];exact (wR i).1
theorem M3 (hu:WU u)(wc:WC u c)(hi:i<c.insts.length)(hp:pc<u7 u c i):((lZ u c m i).getD pc 0).testBit e=true↔∃d,NI u c m i d∧Inn u c m i pc d e:=by
 rw[tY hp,S8 hu wc hi hp];constructor
 ·rintro ⟨d,h1,h2⟩;exact ⟨d,(lJ hu wc).1 h1,h2⟩
 ·rintro ⟨d,h1,h2⟩;exact ⟨d,(lJ hu wc).2 h1,h2⟩
theorem rQ (hp:pc<u7 u c i):(lZ u c m i).getD pc 0<2^(kM u m+1):=by rw[tY hp];exact nK ((wR i).get hp) _
theorem KW (hu:WU u)(wc:WC u c)(hr:∀i:Nat,(i:Int)∈c.roots→bt E i 0=true)(hc:∀i pc,i<c.insts.length→pc<u7 u c i→ClE u c m E i pc):Sub (kN u c m) E:=fun i d h=>by
 have h1:=(lJ hu wc).1 h;clear h;induction h1 with
 | root h=>exact hr _ h
 | call h h2 ho ih=>
  have hi:=(h.lt hu wc).1;have hp:=(h2.lt hu wc hi).1;exact hc _ _ hi hp ho _ ((S8 hu wc hi hp).2 ⟨_,ih,h2⟩)
theorem es_anti {F:List Nat}(he:Es u c m E)(hf:Es u c m F)(h1:Sub E F)(h2:Sub F E):E=F:=by refine List.ext_getElem (by rw[he.1,hf.1]) fun d k1 k2=>?_;have:=rN (a:=E.getD d 0) (b:=F.getD d 0) fun j=>⟨h1 d j,h2 d j⟩;simpa [List.getD,k1,k2] using this
theorem ent_eq (hu:WU u)(wc:WC u c)(he:Es u c m E)(hs:Sub E (kN u c m))(hr:∀i:Nat,(i:Int)∈c.roots→bt E i 0=true)(hc:∀i pc,i<c.insts.length→pc<u7 u c i→ClE u c m E i pc):E=kN u c m:=
 es_anti he rP hs (KW hu wc hr hc)
theorem yL {j:Nat}(hi:i<E.length):bt (E.set i x) j e=if j=i then x.testBit e else bt E j e:=by
 unfold bt;simp only[List.getD_eq_getElem?_getD];by_cases h:j=i
 ·subst h;simp[hi]
 ·rw[List.getElem?_set_ne (Ne.symm h),if_neg h]
theorem XJ (h:Es u c m E):E.sum≤512*c.insts.length:=by rw[←h.1];exact nJ fun x hx=>Nat.le_of_lt (h.lt x hx)
theorem TJ (hi:i<E.length)(hs:∀j,bt E i j=true→x.testBit j=true)(hne:E.getD i 0≠x):E.sum<(E.set i x).sum:=by have h1:=oI (l:=E) (i:=i) (x:=x) hi;have h2:E.getD i 0≤x:=yJ hs;omega
end
end Go.Un
end
section
namespace Go.Proofs.YtonbocmibeikmaaGreat
open Go.Ab Go.Un
theorem KX (l:List Nat):l.map l5=g8 (l.map fun n:Nat=>(n:Int)):=by simp[g8,l5,Function.comp_def]
theorem KY (l:List Nat):bR l=.vec (l.map fun n:Nat=>(n:Int)).length (g8 (l.map fun n:Nat=>(n:Int))):=by simp[bR,KX]
variable {n len:Nat}{a:List Nat}
theorem AT {β g:Nat}{H:c6}(hb:H[β]?=some ⟨g,false,3,1,a.map l5,0⟩)(hn:n≤β)(hl:a.length=len):gH n H 6 (.own β g 0 len)=some (.vec len (a.map l5)):=by rw[KX]at hb ⊢;exact L5 hb hn t155
def UpN (v:Nat→Nat)(i:Nat)(zs:List Nat):Prop:=(∀d,d<i→zs.getD d 0=v d)∧(∀d,i≤d→zs.getD d 0=0)
theorem UpN.zero (v:Nat→Nat)(n:Nat):UpN v 0 (List.replicate n 0):=by refine ⟨fun d hd=>by omega,fun d _=>?_⟩;rw[List.getD_eq_getElem?_getD,List.getElem?_replicate];split<;>rfl
variable {v:Nat→Nat}{zs:List Nat}{i:Nat}
theorem UpN.set {x:Nat}(hi:i<zs.length)(h:UpN v i zs)(hx:x=v i):UpN v (i+1) (zs.set i x):=by
  refine ⟨fun d hd=>?_,fun d hd=>?_⟩
  · by_cases e:d=i
    · subst e;simp[List.getD,hi,hx]
    · have:=h.1 d (by omega)
      simp only[List.getD_eq_getElem?_getD,List.getElem?_set_ne (Ne.symm e)]at this ⊢;exact this
  · have:=h.2 d (by omega)
    simp only[List.getD_eq_getElem?_getD,List.getElem?_set_ne (show i≠d from by omega)]at this ⊢;exact this
theorem UpN.skip (h:UpN v i zs)(hv:v i=0):UpN v (i+1) zs:=by
  refine ⟨fun d hd=>?_,fun d hd=>h.2 d (by omega)⟩;by_cases e:d=i
  · subst e;rw[h.2 d (Nat.le_refl _),hv]
  · exact h.1 d (by omega)
theorem UpN.all2 (h:UpN v i zs)(hl:zs.length=n)(hi:∀d,i≤d→d<n→v d=0):zs=(List.range n).map v:=by
  refine List.ext_getElem (by simp[hl]) fun d k1 k2=>?_;by_cases hd:d<i
  · have:=h.1 d hd
    simp;simpa [List.getD,k1] using this
  · have:=h.2 d (by omega)
    have e:=hi d (by omega) (by omega);simp[e];simpa [List.getD,k1] using this
theorem UpN.all (h:UpN v i zs)(hl:zs.length=n)(hi:n≤i):zs=(List.range n).map v:=h.all2 hl fun d h1 h2=>by omega
theorem AU (k:Nat)(n:Int):AV.vec (shI k n).length (g8 (shI k n))=bR (dhN k n):=by
  have:shI k n=(dhN k n).map fun n:Nat=>(n:Int):=by unfold shI dhN;rw[List.map_map];refine List.map_congr_left fun d _=>?_;unfold shV dhV;simp only[Function.comp_apply];split<;>simp
  rw[KY,this]
def n7 (T:List (List Nat)):List AV:=T.map bR
variable {T:List (List Nat)}
theorem v9:(n7 T).length=T.length:=List.length_map _
theorem D2 (h:i<T.length):List.take 1 (List.drop i (n7 T))=[bR (T.getD i [])]:=by unfold n7;rw[←List.map_drop,←List.map_take,List.drop_eq_getElem_cons h,List.take_succ_cons,List.take_zero];simp[List.getD,h]
theorem overT {r:List Nat}(h:i<T.length):List.take i (n7 T)++bR r::List.drop (i+1) (n7 T)=n7 (T.set i r):=by unfold n7;rw[←List.map_drop,←List.map_take,List.set_eq_take_append_cons_drop,if_pos h];simp
theorem ext_T {a b:List (List Nat)}(hl:a.length=b.length)(h:∀d,d<a.length→a.getD d []=b.getD d []):a=b:=by refine List.ext_getElem hl fun d k1 k2=>?_;have:=h d k1;simpa [List.getD,k1,k2] using this
theorem ext_N {b:List Nat}(hl:a.length=b.length)(h:∀d,d<a.length→a.getD d 0=b.getD d 0):a=b:=by refine List.ext_getElem hl fun d k1 k2=>?_;have:=h d k1;simpa [List.getD,k1,k2] using this
theorem N4 (l:List Nat):v5 (l.map l5):=v5.map fun _=>.int
theorem TK (T:List (List Nat)):v5 (n7 T):=v5.map fun _=>.vec
theorem S9 {β g:Nat}{H:c6}{a:List (List Nat)}(hb:H[β]?=some ⟨g,false,22,1,n7 a,0⟩)(hn:n≤β)(hl:a.length=len):gH n H 6 (.own β g 0 len)=some (.vec len (n7 a)):=by subst hl;rw[aY,if_neg (by omega),dE,hb];simp only[hn,and_self,if_true,Bool.false_eq_true,if_false,Nat.zero_add,Nat.mul_one,v9,Nat.le_refl,List.drop_zero];rw[List.take_of_length_le (by rw[v9];exact Nat.le_refl _),(TK a).frz]
theorem TL {b:List Nat}:(a.map (fun n:Nat=>(n:Int))=b.map (fun n:Nat=>(n:Int)))↔a=b:=List.map_inj_right (fun x y h=>by exact_mod_cast h)
variable {h:c6}
theorem KZ (a b:List Nat)(hl:a.length<1000000):CB 31 [bR a,bR b] h (.bool (decide (a=b))):=by rw[KY,KY];refine (WY _ _ t155).mono fun r h' ⟨h1,h2⟩=>⟨h1.trans ?_,h2⟩;exact congrArg AV.bool (decide_eq_decide.2 TL)
theorem shl1K {k:Nat}(h:k≤8):IntKind.wrap .i64 (1*2^(min (k+1) 64))=((2^(k+1):Nat):Int):=by rw[Cv (by omega)];simp
theorem c_withNN (x m:Int)(hn:0<m)(hm:m<4611686018427387904):CB 27 [.int .i64 x,.int .i64 m] h (.int .i64 ((wG x m:Nat):Int)):=by have e:((wG x m:Nat):Int)=within x m:=Int.toNat_of_nonneg (mJ hn);rw[e];exact nD x m hn (Int.le_of_lt hm)
attribute [local go_sem] rd bR l9 Int.natCast_nonneg Int.natCast_inj sD wD sE testN hasN orN shl1K List.length_set List.length_replicate Int.toNat_natCast_add_one eT List.length_map wrap64 tN max2 fM D2 v9
theorem c_has8 (s:Nat)(d:Int)(hs:s<512):CB 84 [.int .i64 ((s:Nat):Int),.int .i64 d] h (.bool (Fz s d)):=by
  refine .bz Tryz.f84 18 ?_;refine c91z ?_;refine .spl 7 rfl rfl (fun e1=>?_) (fun e1=>?_)
  ·try simp only[e1]
   have qe1:=fact e1;refine .k 4 [(2,7)] ?_;refine .spl 11 rfl rfl (fun e2=>?_) (fun e2=>?_)
   ·try simp only[e2]
    have qe2:=fact e2;refine c201z ?_;exact ⟨[],_,(List.append_nil _).symm,t42,t39⟩
   try simp only[e2]
   have qe2:=fact e2;refine c201z ?_;exact ⟨[],_,(List.append_nil _).symm,t42,t39⟩
  try simp only[e1]
  have qe1:=fact e1;refine .k 8 [(2,7),(6,11)] ?_;refine c201z ?_;exact ⟨[],_,(List.append_nil _).symm,t42,t39⟩
theorem c_in8 (s:Nat)(d:Int)(hs:s<512):CB 52 [.int .i64 ((s:Nat):Int),.int .i64 d] h (.bool (Fz s d)):=by
  refine .bz Tryz.f52 18 ?_;refine c91z ?_;refine .spl 7 rfl rfl (fun e1=>?_) (fun e1=>?_)
  ·try simp only[e1]
   have qe1:=fact e1;refine .k 4 [(2,7)] ?_;refine .spl 11 rfl rfl (fun e2=>?_) (fun e2=>?_)
   ·try simp only[e2]
    have qe2:=fact e2;refine c201z ?_;exact ⟨[],_,(List.append_nil _).symm,t42,t39⟩
   try simp only[e2]
   have qe2:=fact e2;refine c201z ?_;exact ⟨[],_,(List.append_nil _).symm,t42,t39⟩
  try simp only[e1]
  have qe1:=fact e1;refine .k 8 [(2,7),(6,11)] ?_;refine c201z ?_;exact ⟨[],_,(List.append_nil _).symm,t42,t39⟩
theorem c_inN (s i:Nat)(hs:s<512)(hi:i≤8):CB 52 [.int .i64 ((s:Nat):Int),.int .i64 ((i:Nat):Int)] h (.bool (s.testBit i)):=by rw[←hasN hi];exact c_in8 s _ hs
theorem c_appM (r:List Nat)(s:Nat)(hr:∀x∈r,x<512)(hs:s<512)(hl:r.length≤9):CB 68 [bR r,.int .i64 ((s:Nat):Int)] h (.int .i64 ((applyN r s:Nat):Int)):=by
  refine .bz Tryz.f68 25 ?_;refine c51z ?_;refine .cU (fun m st=>∃(i:Nat),(m=r.length-i∧i≤r.length)∧st=⟨mkS 25 [(1,AV.int .i64 ((s:Nat):Int)),(5,AV.int .i64 ((bY r s i:Nat):Int)),(8,bR r),(9,AV.int .i64 ((r.length:Nat):Int)),(10,AV.int .i64 ((i:Nat):Int))],h⟩) _ (.v ⟨0,⟨rfl,by omega⟩,rfl⟩ (hs:=t43)) ?_;rintro m sl h' ⟨i,⟨hm,hi⟩,hst⟩;obtain ⟨rfl,rfl⟩:=St.mk.inj hst;have hacc:=kF hr s i;have hgi:=gA hr i;refine c10z ?_;refine u2z ?_ ?_
  ·intro e1 qe1;refine c45z ?_;refine .z ?_;refine u2z ?_ ?_
   ·intro e2 qe2;refine .c7 [1,5,7,8,9,10] ?_;refine c52z ?_;exact ⟨_,by omega,.v ⟨(i+1),⟨rfl,by omega⟩,rfl⟩ (hs:=t43)⟩
   intro e2 qe2;refine c4z ?_;refine .c7 [1,5,8,9,10] ?_;refine .rz ?_;exact ⟨_,by omega,.v ⟨(i+1),⟨rfl,by omega⟩,rfl⟩ (hs:=t43)⟩
  intro e1 qe1;refine c92z ?_;exact ⟨[],_,(List.append_nil _).symm,t42,t194⟩
theorem AW (r:List Nat)(s:Nat)(hr:∀x∈r,x<512)(hs:s<512)(hl:r.length≤9):CB 58 [bR r,.int .i64 ((s:Nat):Int)] h (.int .i64 ((applyN r s:Nat):Int)):=by
  refine .bz Tryz.f58 23 ?_;refine c51z ?_;refine .cU (fun m st=>∃(i:Nat),(m=r.length-i∧i≤r.length)∧st=⟨mkS 23 [(0,bR r),(1,AV.int .i64 ((s:Nat):Int)),(5,AV.int .i64 ((bY r s i:Nat):Int)),(6,AV.int .i64 ((i:Nat):Int))],h⟩) _ (.v ⟨0,⟨rfl,by omega⟩,rfl⟩ (hs:=t43)) ?_;rintro m sl h' ⟨i,⟨hm,hi⟩,hst⟩;obtain ⟨rfl,rfl⟩:=St.mk.inj hst;have hacc:=kF hr s i;have hgi:=gA hr i;refine c0z ?_;refine u2z ?_ ?_
  ·intro e1 qe1;refine c3z ?_;refine c34z ?_;refine .ca rfl rfl (c_inN _ _ hs (by omega)) ?_;refine .nil ?_;refine u2z ?_ ?_
   ·intro e2 qe2;refine c1z ?_;refine c154z ?_;exact ⟨_,by omega,.v ⟨(i+1),⟨rfl,by omega⟩,rfl⟩ (hs:=t43)⟩
   intro e2 qe2;refine c4z ?_;refine .rz ?_;exact ⟨_,by omega,.v ⟨(i+1),⟨rfl,by omega⟩,rfl⟩ (hs:=t43)⟩
  intro e1 qe1;refine c92z ?_;exact ⟨[],_,(List.append_nil _).symm,t42,t194⟩
theorem tZ (r:List Nat)(s:Nat)(hr:∀x∈r,x<512)(hs:s<512)(hl:r.length≤9):CB 25 [bR r,.int .i64 ((s:Nat):Int)] h (.int .i64 ((applyN r s:Nat):Int)):=by refine .bz Tryz.f25 8 ?_;refine .z ?_;refine c34z ?_;refine .ca rfl rfl (c_appM _ _ hr hs hl) ?_;refine c186z ?_;exact ⟨[],_,(List.append_nil _).symm,t42,by rfl⟩
theorem c_comp (a b:List Nat)(hb:∀x∈b,x<512)(hl:b.length≤9)(ha:∀x∈a,x<512)(hla:a.length≤9):CB 145 [bR a,bR b] h (bR (o6 a b)):=by
  refine .bz Tryz.f145 26 ?_;refine c51z ?_;refine .cU (fun m st=>∃(i:Nat) (zs:List Nat),(m=(a.length)-i∧(UpN (fun d=>applyN b (a.getD d 0)) i zs∧zs.length=(a.length)∧i≤(a.length)))∧st=⟨mkS 26 [(1,bR b),(5,AV.own h.length 0 0 (a.length)),(11,bR a),(12,AV.int .i64 ((a.length:Nat):Int)),(13,AV.int .i64 ((i:Nat):Int))],h++[⟨0,false,3,1,zs.map l5,0⟩]⟩) _ (.v ⟨0,(List.replicate (a.length) 0),⟨rfl,⟨UpN.zero _ _,by simp,by omega⟩⟩,rfl⟩) ?_;rintro m sl h' ⟨i,zs,⟨hm,⟨hI,hz,hi⟩⟩,hst⟩;obtain ⟨rfl,rfl⟩:=St.mk.inj hst;have hga:=gA ha i;refine c10z ?_;refine u2z ?_ ?_
  ·intro e1 qe1;refine c45z ?_;refine c153z ?_;refine .ca rfl rfl (tZ _ _ hb hga hl) ?_;refine c27z ?_;refine .c7 [1,5,11,12,13] ?_;refine .rz ?_;exact ⟨_,by omega,.v ⟨(i+1),(zs.set i _),⟨rfl,⟨UpN.set (by omega) hI rfl,t113,by omega⟩⟩,rfl⟩⟩
  intro e1 qe1;refine c92z ?_;exact ⟨_,_,rfl,AT t130 (Nat.le_refl _) hz,t181⟩
theorem c_compR (a b:List Nat)(hb:∀x∈b,x<512)(hl:b.length≤9)(ha:∀x∈a,x<512)(hla:a.length≤9):CB 81 [bR a,bR b] h (bR (o6 a b)):=by
  refine .bz Tryz.f81 26 ?_;refine c51z ?_;refine .cU (fun m st=>∃(i:Nat) (zs:List Nat),(m=(a.length)-i∧(UpN (fun d=>applyN b (a.getD d 0)) i zs∧zs.length=(a.length)∧i≤(a.length)))∧st=⟨mkS 26 [(0,bR a),(1,bR b),(5,AV.own h.length 0 0 (a.length)),(6,AV.int .i64 ((i:Nat):Int))],h++[⟨0,false,3,1,zs.map l5,0⟩]⟩) _ (.v ⟨0,(List.replicate (a.length) 0),⟨rfl,⟨UpN.zero _ _,by simp,by omega⟩⟩,rfl⟩) ?_;rintro m sl h' ⟨i,zs,⟨hm,⟨hI,hz,hi⟩⟩,hst⟩;obtain ⟨rfl,rfl⟩:=St.mk.inj hst;have hga:=gA ha i;refine c0z ?_;refine u2z ?_ ?_
  ·intro e1 qe1;refine c3z ?_;refine .r ?_;refine .e 7 ?_;refine .ca rfl rfl (AW _ _ hb hga hl) ?_;refine c27z ?_;refine c154z ?_;exact ⟨_,by omega,.v ⟨(i+1),(zs.set i _),⟨rfl,⟨UpN.set (by omega) hI rfl,t113,by omega⟩⟩,rfl⟩⟩
  intro e1 qe1;refine c92z ?_;exact ⟨_,_,rfl,AT t130 (Nat.le_refl _) hz,t181⟩
theorem T3 (a b:List Nat)(hb:∀x∈b,x<512)(ha:∀x∈a,x<512)(hla:a.length≤9)(hab:b.length=a.length):CB 105 [bR a,bR b] h (bR (cJ a b)):=by
  refine .bz Tryz.f105 29 ?_;refine c51z ?_;refine .cU (fun m st=>∃(i:Nat) (zs:List Nat),(m=(a.length)-i∧(UpN (fun d=>a.getD d 0|||b.getD d 0) i zs∧zs.length=(a.length)∧i≤(a.length)))∧st=⟨mkS 29 [(0,bR a),(1,bR b),(5,AV.own h.length 0 0 (a.length)),(11,AV.int .i64 ((a.length:Nat):Int)),(12,AV.int .i64 ((i:Nat):Int))],h++[⟨0,false,3,1,zs.map l5,0⟩]⟩) _ (.v ⟨0,(List.replicate (a.length) 0),⟨rfl,⟨UpN.zero _ _,by simp,by omega⟩⟩,rfl⟩) ?_;rintro m sl h' ⟨i,zs,⟨hm,⟨hI,hz,hi⟩⟩,hst⟩;obtain ⟨rfl,rfl⟩:=St.mk.inj hst;have hga:=gA ha i;have hgb:=gA hb i;refine c10z ?_;refine u2z ?_ ?_
  ·intro e1 qe1;refine c45z ?_;refine .so u4 (mkP 13 [0,0,0,0,12,28,0,0,192,448,1020,2047,4095] [12]) ?_;refine c36z ?_;change g5 ..;refine c226z ?_;exact ⟨_,by omega,.v ⟨(i+1),(zs.set i _),⟨rfl,⟨UpN.set (by omega) hI rfl,t113,by omega⟩⟩,rfl⟩⟩
  intro e1 qe1;refine c92z ?_;exact ⟨_,_,rfl,AT t130 (Nat.le_refl _) hz,t188⟩
theorem D3 (a b:List Nat)(hb:∀x∈b,x<512)(ha:∀x∈a,x<512)(hla:a.length≤9)(hab:b.length=a.length):CB 78 [bR a,bR b] h (bR (cJ a b)):=by
  refine .bz Tryz.f78 29 ?_;refine c51z ?_;refine .cU (fun m st=>∃(i:Nat) (zs:List Nat),(m=(a.length)-i∧(UpN (fun d=>a.getD d 0|||b.getD d 0) i zs∧zs.length=(a.length)∧i≤(a.length)))∧st=⟨mkS 29 [(0,bR a),(1,bR b),(5,AV.own h.length 0 0 (a.length)),(6,AV.int .i64 ((i:Nat):Int))],h++[⟨0,false,3,1,zs.map l5,0⟩]⟩) _ (.v ⟨0,(List.replicate (a.length) 0),⟨rfl,⟨UpN.zero _ _,by simp,by omega⟩⟩,rfl⟩) ?_;rintro m sl h' ⟨i,zs,⟨hm,⟨hI,hz,hi⟩⟩,hst⟩;obtain ⟨rfl,rfl⟩:=St.mk.inj hst;have hga:=gA ha i;have hgb:=gA hb i;refine c0z ?_;refine u2z ?_ ?_
  ·intro e1 qe1;refine c3z ?_;refine .so u4 (mkP 13 [0,0,0,0,12,28,0,0,192,448,1020,2047,4095] [12]) ?_;refine c36z ?_;change g5 ..;refine c154z ?_;exact ⟨_,by omega,.v ⟨(i+1),(zs.set i _),⟨rfl,⟨UpN.set (by omega) hI rfl,t113,by omega⟩⟩,rfl⟩⟩
  intro e1 qe1;refine c92z ?_;exact ⟨_,_,rfl,AT t130 (Nat.le_refl _) hz,t188⟩
theorem LA (a b:List Nat)(hla:a.length≤9)(hab:b.length=a.length):CB 117 [bR a,bR b] h (.bool (decide (wF a b))):=by
  refine .bz Tryz.f117 22 ?_;refine c19z ?_;refine .cU (fun m st=>∃(i:Nat),(m=a.length-i∧((∀d,d<i→bits .andNot .i64 ((a.getD d 0:Nat):Int) ((b.getD d 0:Nat):Int)=0)∧i≤a.length))∧st=⟨mkS 22 [(0,bR a),(1,bR b),(7,AV.int .i64 ((a.length:Nat):Int)),(8,AV.int .i64 ((i:Nat):Int))],h⟩) _ (.v ⟨0,⟨rfl,⟨t104,by omega⟩⟩,rfl⟩) ?_;rintro m sl h' ⟨i,⟨hm,⟨hI,hi⟩⟩,hst⟩;obtain ⟨rfl,rfl⟩:=St.mk.inj hst;refine c10z ?_;refine u2z ?_ ?_
  ·intro e1 qe1;refine c45z ?_;refine .ss u4 (mkP 10 [0,0,3,7,0,0,48,112,255,511] []) ?_;refine c36z ?_;refine u2z ?_ ?_
   ·intro e2 qe2;refine c86z ?_;exact ⟨[],_,(List.append_nil _).symm,t42,t114⟩
   intro e2 qe2;refine c4z ?_;refine .c7 [0,1,7,8] ?_;refine .rz ?_;exact ⟨_,by omega,.v ⟨(i+1),⟨rfl,⟨(fun d hd=>if e:d=i then by rw[e];assumption else hI d (by omega)),by omega⟩⟩,rfl⟩⟩
  intro e1 qe1;refine c92z ?_;exact ⟨[],_,(List.append_nil _).symm,t42,t114⟩
theorem c_sameT {n:Nat}(a b:List (List Nat))(hl:a.length<1000000)(ha:∀r∈a,r.length<100000):CB 33 [.vec a.length (n7 a),.vec b.length (n7 b)] h (.bool (decide (a=b))):=by
  refine .bz Tryz.f33 27 ?_;refine c66z ?_;refine u2z ?_ ?_
  ·intro e1 qe1;refine c86z ?_;exact ⟨[],_,(List.append_nil _).symm,t42,t78⟩
  intro e1 qe1;refine .sk ?_;refine c5z ?_;refine .cU (fun m st=>∃(i:Nat),(m=a.length-i∧((∀d,d<i→a.getD d []=b.getD d [])∧i≤a.length))∧st=⟨mkS 27 [(0,AV.vec a.length (n7 a)),(1,AV.vec b.length (n7 b)),(5,AV.int .i64 ((i:Nat):Int))],h⟩) _ (.v ⟨0,⟨rfl,⟨t104,by omega⟩⟩,rfl⟩) ?_;rintro m sl h' ⟨i,⟨hm,⟨hI,hi⟩⟩,hst⟩;obtain ⟨rfl,rfl⟩:=St.mk.inj hst;refine c0z ?_;refine u2z ?_ ?_
  ·intro e2 qe2;refine c3z ?_;refine .ss u4 (mkP 10 [0,0,3,7,0,0,48,112,255,511] []) ?_;refine .k 8 [] ?_;refine .ca rfl rfl (KZ _ _ (by have:=ha _ (j4 (i:=i) (d:=[]) (by omega));omega)) ?_;refine .n [] ?_;refine u2z ?_ ?_
   ·intro e3 qe3;refine c86z ?_;exact ⟨[],_,(List.append_nil _).symm,t42,t78⟩
   intro e3 qe3;refine c4z ?_;refine c213z ?_;exact ⟨_,by omega,.v ⟨(i+1),⟨rfl,⟨(fun d hd=>if e:d=i then by rw[e];assumption else hI d (by omega)),by omega⟩⟩,rfl⟩⟩
  intro e2 qe2;refine c92z ?_;exact ⟨[],_,(List.append_nil _).symm,t42,t78⟩
end Go.Proofs.YtonbocmibeikmaaGreat
end
section
namespace Go.Un
open Go.Ab
def TM (p:Int×Int):List AV:=[.int .i64 p.1,.int .i64 p.2]
def l4 (l:List (Int×Int)):List AV:=l.flatMap TM
theorem s7 (l:List (Int×Int)):(l4 l).length=2*l.length:=cD _ 2 (fun _=>rfl) l
variable {i:Nat}
theorem rR {l:List (Int×Int)}(h:i<l.length):List.take 2 (List.drop (i*2) (l4 l))=[.int .i64 (l.getD i (0,0)).1,.int .i64 (l.getD i (0,0)).2]:=aZ TM 2 (fun _=>rfl) (0,0) h
structure Cf where
 d:Int
 st:List (Int×Int)
deriving DecidableEq
def Dr:Cf:=⟨0,[]⟩
def DW (x:Cf):List AV:=[.int .i64 x.d,.vec x.st.length (l4 x.st)]
def aB (l:List Cf):List AV:=l.flatMap DW
theorem eO (l:List Cf):(aB l).length=2*l.length:=cD _ 2 (fun _=>rfl) l
theorem wS {l:List Cf}(h:i<l.length):List.take 2 (List.drop (i*2) (aB l))=[.int .i64 (l.getD i Dr).d,.vec (l.getD i Dr).st.length (l4 (l.getD i Dr).st)]:=aZ DW 2 (fun _=>rfl) Dr h
def ptI (c:Clo)(p:Int×Int):w6:=c.insts.getD p.1.toNat c9
def ptX (u:Un)(c:Clo)(p:Int×Int):Ins:=(c5 u (ptI c p)).getD p.2.toNat c8
def ptC (c:Clo)(p:Int×Int):Int:=(c.calls.getD p.1.toNat []).getD p.2.toNat 0
def jS (u:Un)(c:Clo)(m:Nat)(d:Int)(b:List (Int×Int))(p:Int×Int):List Cf:=
 if (ptX u c p).op=8 then [⟨d,b⟩]
 else if (ptX u c p).op=2 then [⟨d,b++[(p.1,p.2+1),(ptC c p,0)]⟩]
 else if 0≤d+chI (ptI c p) (ptX u c p) m∧d+chI (ptI c p) (ptX u c p) m≤(gT (u.mutexes.getD m s8):Int) then (n9 (ptX u c p) p.2.toNat).map fun k=>⟨d+chI (ptI c p) (ptX u c p) m,b++[(p.1,k)]⟩ else []
def hU (u:Un)(c:Clo)(m:Nat)(x:Cf):List Cf:=match x.st.getLast? with
 | none=>[]
 | some p=>jS u c m x.d x.st.dropLast p
variable {u:Un}{c:Clo}{m:Nat}{d:Int}
theorem DX:hU u c m ⟨d,[]⟩=[]:=rfl
variable {b:List (Int×Int)}
theorem oL {p:Int×Int}:hU u c m ⟨d,b++[p]⟩=jS u c m d b p:=by simp[hU]
structure WPt (u:Un)(c:Clo)(p:Int×Int):Prop where
 i0:0≤p.1
 i1:p.1<c.insts.length
 p0:0≤p.2
 p1:p.2<(c5 u (ptI c p)).length
structure WCf (u:Un)(c:Clo)(m n:Nat)(x:Cf):Prop where
 d0:0≤x.d
 d1:x.d≤(gT (u.mutexes.getD m s8):Int)
 pt:∀p∈x.st,WPt u c p
 len:x.st.length≤n
variable {pc:Nat}
theorem WPt.of (h1:i<c.insts.length)(h2:pc<(c5 u (c.insts.getD i c9)).length):WPt u c ((i:Int),(pc:Int)):=⟨by simp,t123,by simp,by simpa [ptI] using h2⟩
theorem WPt.nat {u:Un}{c:Clo}{p:Int×Int}(h:WPt u c p):∃i pc:Nat,p=((i:Int),(pc:Int))∧i<c.insts.length∧pc<(c5 u (c.insts.getD i c9)).length:=by
 obtain ⟨a,b⟩:=p
 obtain ⟨h1,h2,h3,h4⟩:=h
 obtain ⟨i,rfl⟩:=Int.eq_ofNat_of_zero_le h1
 obtain ⟨pc,rfl⟩:=Int.eq_ofNat_of_zero_le h3
 simp only[ptI,Int.toNat_natCast]at h4
 exact ⟨i,pc,rfl,by simpa using h2,by simpa using h4⟩
theorem WCf.mono {u:Un}{c:Clo}{m n k:Nat}{x:Cf}(h:WCf u c m n x)(hk:n≤k):WCf u c m k x:=⟨h.d0,h.d1,h.pt,Nat.le_trans h.len hk⟩
theorem WCf.snoc {u:Un}{c:Clo}{m n:Nat}{x:Cf}(h:WCf u c m n x)(hn:0<x.st.length):∃(b:List (Int×Int))(i pc:Nat),x=⟨x.d,b++[((i:Int),(pc:Int))]⟩∧i<c.insts.length∧pc<(c5 u (c.insts.getD i c9)).length∧b.length+1=x.st.length:=by
 obtain ⟨d,st⟩:=x
 have hne:st≠[]:=fun e=>by subst e;simp at hn
 obtain ⟨i,pc,he,h1,h2⟩:=(h.pt (st.getLast hne) (List.getLast_mem hne)).nat
 refine ⟨st.dropLast,i,pc,?_,h1,h2,?_⟩
 · rw[←he,List.dropLast_concat_getLast]
 · simp only[List.length_dropLast]
   simp only at hn
   omega
theorem op_next (hu:WU u){it:w6}(w:WIt u it)(hpc:pc<(c5 u it).length)(h8:¬((c5 u it).getD pc c8).op=8):pc+1<(c5 u it).length:=by
 obtain ⟨_,h2,_⟩:=fT hu w;by_cases e:pc=(c5 u it).length-1
 ·rw[←e]at h2;exact absurd h2 h8
 ·omega
theorem TN (hu:WU u)(wc:WC u c){n:Nat}(hd0:0≤d)(hd1:d≤(gT (u.mutexes.getD m s8):Int))(hb:∀p∈b,WPt u c p)(hn:b.length+1≤n)(hi:i<c.insts.length)(hpc:pc<(c5 u (c.insts.getD i c9)).length) :
  ∀y∈jS u c m d b ((i:Int),(pc:Int)),WCf u c m (n+1) y:=by
 have w:WIt u (c.insts.getD i c9):=wc.wi _ (j4 hi);have eX:ptX u c ((i:Int),(pc:Int))=(c5 u (c.insts.getD i c9)).getD pc c8:=rfl;have eI:ptI c ((i:Int),(pc:Int))=c.insts.getD i c9:=rfl;have eC:ptC c ((i:Int),(pc:Int))=(c.calls.getD i []).getD pc 0:=rfl;intro y hy;unfold jS at hy;rw[eX,eI,eC]at hy;simp only[Int.toNat_natCast]at hy;split at hy
 ·replace hy:=s8z hy;subst hy;exact ⟨hd0,hd1,hb,t86⟩
 ·rename_i h8;split at hy
  ·rename_i h2;replace hy:=s8z hy;subst hy;have hnx:=op_next hu w hpc h8;obtain ⟨c1,c2,c3⟩:=(wc.call i hi pc hpc).1 (.inl h2);refine ⟨hd0,hd1,fun p hp=>?_,t84⟩;simp only[List.mem_append,List.mem_cons,List.not_mem_nil,or_false]at hp;rcases hp with hp | rfl | rfl
   ·exact hb p hp
   ·have:=WPt.of (u:=u) hi hnx;simpa using this
   ·have w2:WIt u (c.insts.getD ((c.calls.getD i []).getD pc 0).toNat c9):=wc.wi _ (j4 (by omega));exact ⟨c1,c2,Int.le_refl _,by have:=(fT hu w2).1;show (0:Int)<((c5 u (c.insts.getD ((c.calls.getD i []).getD pc 0).toNat c9)).length:Int);omega⟩
  ·split at hy
   ·rename_i hr;obtain ⟨k,hk,rfl⟩:=List.mem_map.1 hy;refine ⟨hr.1,hr.2,fun p hp=>?_,t84⟩;simp only[List.mem_append,List.mem_cons,List.not_mem_nil,or_false]at hp;rcases hp with hp | rfl
    ·exact hb p hp
    ·obtain ⟨j,hj,rfl⟩:=List.mem_iff_getElem.1 hk;have:=KE hu w hpc j hj;rw[List.getD_eq_getElem?_getD,List.getElem?_eq_getElem hj,Option.getD_some]at this;exact ⟨by simp,by simpa using hi,this.1,this.2⟩
   ·simp at hy
theorem LB (hu:WU u)(wc:WC u c){n:Nat}{x:Cf}(h:WCf u c m n x):∀y∈hU u c m x,WCf u c m (n+1) y:=by
 by_cases hn:0<x.st.length
 ·obtain ⟨b,i,pc,he,hi,hpc,hl⟩:=h.snoc hn;have hb:∀p∈b,WPt u c p:=fun p hp=>h.pt p (by rw[he];exact List.mem_append.2 (.inl hp));have h1:=h.d0;have h2:=h.d1;have h3:=h.len;rw[he,oL];exact TN hu wc h1 h2 hb (by omega) hi hpc
 ·obtain ⟨d,st⟩:=x;have:st=[]:=List.length_eq_zero_iff.1 (by simp only at hn;omega);subst this;intro y hy;simp[DX]at hy
theorem TO (hu:WU u)(wc:WC u c){r:Int}(hr:r∈c.roots):WCf u c m 1 ⟨0,[(r,0)]⟩:=by obtain ⟨h0,h1⟩:=wc.rr r hr;have w:WIt u (c.insts.getD r.toNat c9):=wc.wi _ (j4 (by omega));refine ⟨Int.le_refl _,by simp,fun p hp=>?_,by simp⟩;replace hp:=s8z hp;subst hp;exact ⟨h0,h1,Int.le_refl _,by have:=(fT hu w).1;show (0:Int)<((c5 u (c.insts.getD r.toNat c9)).length:Int);omega⟩
theorem LC {p:Int×Int}:(jS u c m d b p).length≤2:=by
 unfold jS;split
 ·simp
 ·split
  ·simp
  ·split
   ·rw[List.length_map];exact dW
   ·simp
theorem DY {x:Cf}:(hU u c m x).length≤2:=by
 unfold hU;split
 ·simp
 ·exact LC
end Go.Un
end
