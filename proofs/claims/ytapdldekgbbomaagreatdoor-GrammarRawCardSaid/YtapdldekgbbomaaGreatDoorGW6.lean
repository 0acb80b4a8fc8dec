/- My own texts, put together by a program of mine. -/
import Derived.Test.YtapdldekgbbomaaGreatDoorGW5
set_option linter.unusedSimpArgs false
set_option linter.unusedVariables false
set_option maxRecDepth 100000
set_option maxHeartbeats 4000000
section
namespace Go.Proofs.YtapdldekgbbomaaGreatDoor
open Go.Ab Go.Un
variable {p:Go.Un.Pg}{f:Fu}
theorem GM (h:GH p)(hf:f∈p.funcs):∀x∈f.params,sP x.name=false:=by
  obtain ⟨i,hi,rfl⟩:=cM (d:=j5) hf;intro x hx;have hm:x.name∈(p.funcs.getD i j5).params.map (·.name):=List.mem_map.2 ⟨x,hx,rfl⟩;rcases (h.fn i hi).2.2 with e | e | e<;>rw[e]at hm<;>simp at hm
  · rw[hm];exact M4 1 (by omega)
  · rcases hm with e | e<;>rw[e]
    · exact M4 2 (by omega)
    · exact M4 1 (by omega)
variable {i:Nat}
theorem nK {α:Type}(f:α→List AV)(K j:Nat)(hK:∀a,(f a).length=K)(hj:j<K)(d:α){l:List α}(h:i<l.length):List.take 1 (List.drop (i*K+j) (l.flatMap f))=List.take 1 (List.drop j (f (l.getD i d))):=by rw[←bM f K hK d h,List.drop_take,List.take_take,List.drop_drop,Nat.min_eq_left (by omega)]
theorem OF {l:List Gl}(h:i<l.length):List.take 1 (List.drop (i*2) (o6 l))=[.str (l.getD i lQ).name]:=nK K6 2 0 (fun _=>rfl) (by omega) lQ h
theorem OG {l:List Gl}(h:i<l.length):List.take 1 (List.drop (i*2+1) (o6 l))=[.int .i64 (l.getD i lQ).init]:=nK K6 2 1 (fun _=>rfl) (by omega) lQ h
variable {l:List Pm}
theorem OH (h:i<l.length):List.take 1 (List.drop (i*2) (p9 l))=[.str (l.getD i fC).name]:=nK K5 2 0 (fun _=>rfl) (by omega) fC h
theorem OI (h:i<l.length):List.take 1 (List.drop (i*2+1) (p9 l))=[.bool (l.getD i fC).mu]:=nK K5 2 1 (fun _=>rfl) (by omega) fC h
theorem txtGl_0 {l:List Gl}(h:(l.getD i lQ).init=0):kX l (i+1)=kX l i++E4++(l.getD i lQ).name++qN:=by rw[kX,if_pos h]
theorem txtGl_1 {l:List Gl}(h:¬(l.getD i lQ).init=0):kX l (i+1)=kX l i++E4++(l.getD i lQ).name++MC++AI (l.getD i lQ).init++qN:=by rw[kX,if_neg h]
variable {out:BA}
theorem OJ {l:List Mx}(h1:(l.getD i cK).re=false)(h:¬0<(l.getD i cK).size):eJ l out (i+1)=eJ l out i++cC++(l.getD i cK).name++qN:=by rw[eJ,if_neg h,if_neg (by rw[h1];decide)]
theorem OK {l:List Mx}(h1:(l.getD i cK).re=true)(h:¬0<(l.getD i cK).size):eJ l out (i+1)=eJ l out i++t_r++cC++(l.getD i cK).name++qN:=by rw[eJ,if_neg h,if_pos h1]
theorem OL {l:List Mx}(h1:(l.getD i cK).re=false)(h:0<(l.getD i cK).size):eJ l out (i+1)=eJ l out i++cC++(l.getD i cK).name++JW++AI (l.getD i cK).size++JX++qN:=by rw[eJ,if_pos h,if_neg (by rw[h1];decide)]
theorem OM {l:List Mx}(h1:(l.getD i cK).re=true)(h:0<(l.getD i cK).size):eJ l out (i+1)=eJ l out i++t_r++cC++(l.getD i cK).name++JW++AI (l.getD i cK).size++JX++qN:=by rw[eJ,if_pos h,if_pos h1]
theorem ON (h1:(l.getD i fC).mu=false)(h:¬0<i):gD l out (i+1)=gD l out i++(l.getD i fC).name:=by rw[gD,if_neg h,if_neg (by rw[h1];decide)]
theorem OO (h1:(l.getD i fC).mu=true)(h:¬0<i):gD l out (i+1)=gD l out i++cC++(l.getD i fC).name:=by rw[gD,if_neg h,if_pos h1]
theorem OP (h1:(l.getD i fC).mu=false)(h:0<i):gD l out (i+1)=gD l out i++lY++(l.getD i fC).name:=by rw[gD,if_pos h,if_neg (by rw[h1];decide)]
theorem OQ (h1:(l.getD i fC).mu=true)(h:0<i):gD l out (i+1)=gD l out i++lY++cC++(l.getD i fC).name:=by rw[gD,if_pos h,if_pos h1]
theorem GHgres (h:GH p)(hf:f∈p.funcs):qY (MH p f):=by
  refine ⟨⟨fun m hm=>?_,fun x hx=>?_⟩,fun x hx=>?_⟩
  · obtain ⟨i,hi,rfl⟩:=cM (d:=cK) hm
    show sP (p.c6.getD i cK).name=false;rw[(h.mn i hi).1];exact FP i (by have:=h.ml;have hi2:i<p.c6.length:=hi;omega)
  · exact GM h hf x hx
  · obtain ⟨g,hg,rfl⟩:=List.mem_map.1 hx
    obtain ⟨i,hi,rfl⟩:=cM (d:=j5) hg;show sP (p.funcs.getD i j5).name=false;rw[(h.fn i hi).1];exact FQ i (by have:=h.fl;omega)
theorem GN (h:GH p)(hf:f∈p.funcs):aV (MI p f):=by
  intro x hx;refine ⟨h.UR hf x hx,?_⟩;rcases List.mem_append.1 hx with hx | hx
  · obtain ⟨g,hg,rfl⟩:=List.mem_map.1 hx
    obtain ⟨i,hi,rfl⟩:=cM (d:=lQ) hg;rw[(h.gn i hi).1];exact FO i (by have:=h.gl;omega)
  · obtain ⟨g,hg,rfl⟩:=List.mem_map.1 hx
    exact GM h hf g (List.mem_filter.1 hg).1
theorem N6 {l:List Fu}(h:i<l.length):(l.getD i j5).body.wt≤rM l l.length:=by
  have key:∀n,i<n→(l.getD i j5).body.wt≤rM l n:=by
    intro n hn;induction n with
    | zero=>omega
    | succ n ih=>
      rw[rM];by_cases e:i=n
      · rw[e];omega
      · have:=ih (by omega);omega
  exact key _ h
variable {h:c8}
theorem c_lexF {L:Bs}(hx:LX L 4000)(hl:L.length≤262144):CB 69 [.vec L.length (sO L)] h (.tup [.any,.int .i64 L.length,.int .i64 0]):=
  F3 rfl ((c_lex0 L 4000 hx (Nat.le_refl _) hl).mono fun _ _ h=>h.1) h
theorem encB_8 {b:BA}:b.toList.map (fun c=>AV.int .u8 ((c.toNat:Nat):Int))=sO (L8 b):=by rw[ByteArray.toList_eq];rfl
theorem c_lexB {b:BA}(hx:LX (L8 b) 4000)(hl:b.size≤262144):CB 69 [.vec b.size (b.toList.map fun c=>AV.int .u8 ((c.toNat:Nat):Int))] h (.tup [.any,.int .i64 b.size,.int .i64 0]):=by rw[encB_8,kV];exact c_lexF hx (by rw[←kV];exact hl)
attribute [local go_sem] nI w3 o8 bY cR aM l7 cS n7 aJ w9 Int.natCast_nonneg Int.natCast_inj List.length_map wrap64 AO kC yX bB mN eq_mk mO Nat.reduceMul OF OG OH OI tW mL aO
theorem V3 {l:List Pm}(hn:∀x∈l,isName (L8 x.name))(out:BA):∀i,i≤l.length→(gD l out i).size≤out.size+30*i
  | 0,_=>Nat.le_refl _
  | i+1,hi=>by
    have ih:=V3 hn out i (by omega);have hs:=aP (hn _ (l6 (d:=fC) (show i<l.length from by omega)));have e1:cC.size=6:=rfl;have e2:lY.size=2:=rfl;unfold gD;repeat' split
    all_goals simp only[bB]
    all_goals omega
theorem GO {l:List Fu}:∀{a b:Nat},a≤b→rM l a≤rM l b:=by
  intro a b h;induction h with
  | refl=>exact Nat.le_refl _
  | step _ ih=>rw[rM];omega
theorem c_progT (hp:GP p):CB 70 [.agg [.vec p.globals.length (o6 p.globals),.vec p.c6.length (j4 p.c6),.vec p.funcs.length (l8 p.funcs)]] h (.str (txtP p)):=by
  refine .bz Tryz.f70 131 ?_;have hgl:=sK hp.toGH p.globals.length (Nat.le_refl _);have hmx:=sL hp.toGH hgl.1 p.c6.length (Nat.le_refl _);have hgl0:=hp.gl;have hml0:=hp.ml;have hfl0:=hp.fl;have htot:=hp.wt;have hwm:∀i,i≤p.funcs.length→rM p.funcs i≤48:=fun i hi=>Nat.le_trans (GO hi) htot;refine c87z ?_;refine .jE (fun m st=>∃(i:Nat),(m=p.globals.length-i∧i≤p.globals.length)∧st=⟨mkS 131 [(1,AV.ptr h.length 0 0),(3,AV.str (kX p.globals i)),(4,AV.int .i64 ((i:Nat):Int))],h++[⟨0,false,27,3,[.vec p.globals.length (o6 p.globals),.vec p.c6.length (j4 p.c6),.vec p.funcs.length (l8 p.funcs)],0⟩]⟩) _ (.v ⟨0,⟨rfl,by omega⟩,rfl⟩ (hs:=t75)) ?_;rintro m sl h' ⟨i,⟨hm,hi⟩,hst⟩;obtain ⟨rfl,rfl⟩:=St.mk.inj hst;have hsz:=(sK hp.toGH i hi).2;refine c0z ?_;refine u2z ?_ ?_
  ·intro e1 qe1;refine c5z ?_;have hgn:=eV (hp.toGH.EB (l6 (d:=lQ) (l:=p.globals) (i:=i) (by omega)));have hgi:=(hp.gn i (by omega)).2;refine c135z ?_;refine c55z ?_;refine .c9 [1,3,4] ?_;refine .z ?_;refine u2z ?_ ?_
   ·intro e2 qe2;have hns:=(tZ hgi.1 hgi.2).2;refine c158z ?_;refine c255z ?_;refine .c9 [1,3,4] ?_;refine c70z ?_;exact ⟨_,by omega,.v ⟨(i+1),⟨rfl,by omega⟩,rfl⟩ (hs:=t75)⟩
   intro e2 qe2;refine .sk ?_;refine c122z ?_;exact ⟨_,by omega,.v ⟨(i+1),⟨rfl,by omega⟩,rfl⟩ (hs:=t75)⟩
  intro e1 qe1;refine .exit ?_;obtain rfl:i=p.globals.length:=by omega
  change g6 ..;refine c6z ?_;refine .aD (fun m st=>∃(i:Nat),(m=p.c6.length-i∧i≤p.c6.length)∧st=⟨mkS 131 [(1,AV.ptr h.length 0 0),(3,AV.str (eJ p.c6 (kX p.globals p.globals.length) i)),(5,AV.int .i64 ((i:Nat):Int))],h++[⟨0,false,27,3,[.vec p.globals.length (o6 p.globals),.vec p.c6.length (j4 p.c6),.vec p.funcs.length (l8 p.funcs)],0⟩]⟩) (.v ⟨0,⟨rfl,by omega⟩,rfl⟩ (hs:=t28)) ?_;rintro m sl h' ⟨i,⟨hm,hi⟩,hst⟩;obtain ⟨rfl,rfl⟩:=St.mk.inj hst;clear hst;have hsz:=(sL hp.toGH hgl.1 i hi).2;refine c0z ?_;refine u2z ?_ ?_
  ·intro e3 qe3;refine c5z ?_;have hmn:=eV (hp.toGH.MM (l6 (d:=cK) (l:=p.c6) (i:=i) (by omega)));have hmi:=(hp.mn i (by omega)).2;refine c20z ?_;refine .c9 [1,3,5,6] ?_;refine .z ?_;refine u2z ?_ ?_
   ·intro e4 qe4;refine c1z ?_;refine c20z ?_;refine .c9 [1,3,5,6] ?_;refine .z ?_;refine u2z ?_ ?_
    ·intro e5 qe5;have hns:=(tZ (n:=(p.c6.getD i cK).size) (by omega) (by omega)).2;refine c150z ?_;refine c255z ?_;refine .c9 [1,3,5] ?_;refine c70z ?_;exact ⟨_,by omega,.v ⟨(i+1),⟨rfl,by omega⟩,rfl⟩ (he:=t29) (hs:=t28)⟩
    intro e5 qe5;refine .sk ?_;refine c70z ?_;exact ⟨_,by omega,.v ⟨(i+1),⟨rfl,by omega⟩,rfl⟩ (he:=t29) (hs:=t28)⟩
   intro e4 qe4;refine .sk ?_;refine c82z ?_;refine u2z ?_ ?_
   ·intro e6 qe6;refine .c9 [1,3,5,6] ?_;have hns:=(tZ (n:=(p.c6.getD i cK).size) (by omega) (by omega)).2;refine c150z ?_;refine c255z ?_;refine .c9 [1,3,5] ?_;refine c70z ?_;exact ⟨_,by omega,.v ⟨(i+1),⟨rfl,by omega⟩,rfl⟩ (he:=t29) (hs:=t28)⟩
   intro e6 qe6;refine .sk ?_;refine .c9 [1,3,5] ?_;refine c70z ?_;exact ⟨_,by omega,.v ⟨(i+1),⟨rfl,by omega⟩,rfl⟩ (he:=t29) (hs:=t28)⟩
  intro e3 qe3;refine .exit ?_;obtain rfl:i=p.c6.length:=by omega
  change g6 ..;refine c6z ?_;refine .aD (fun m st=>∃(i:Nat),(m=p.funcs.length-i∧i≤p.funcs.length)∧st=⟨mkS 131 [(1,AV.ptr h.length 0 0),(3,AV.str (rU p.funcs (eJ p.c6 (kX p.globals p.globals.length) p.c6.length) i)),(7,AV.int .i64 ((i:Nat):Int))],h++[⟨0,false,27,3,[.vec p.globals.length (o6 p.globals),.vec p.c6.length (j4 p.c6),.vec p.funcs.length (l8 p.funcs)],0⟩]⟩) (.v ⟨0,⟨rfl,by omega⟩,rfl⟩) ?_;rintro m sl h' ⟨i,⟨hm,hi⟩,hst⟩;obtain ⟨rfl,rfl⟩:=St.mk.inj hst;clear hst;have hsz:=(yP hp hmx.1 i hi).2;have hwi:=hwm i hi;refine c0z ?_;refine u2z ?_ ?_
  ·intro e7 qe7;refine c5z ?_;have hfm:=l6 (d:=j5) (l:=p.funcs) (i:=i) (by omega);have hfn:=eV (hp.toGH.EC hfm);have hpn:=hp.toGH.pD hfm;have hbd:=hp.body i (by omega);have hwt:=N6 (l:=p.funcs) (i:=i) (by omega);have hww:=hp.wt;have hlw:=bF (p.funcs.getD i j5).body;refine .z ?_;refine .c9 [1,3,7,8] ?_;refine c25z ?_;refine .jE (fun m st=>∃(j:Nat),(m=(p.funcs.getD i j5).params.length-j∧j≤(p.funcs.getD i j5).params.length)∧st=⟨mkS 131 [(1,AV.ptr h.length 0 0),(3,AV.str (gD (p.funcs.getD i j5).params (rU p.funcs (eJ p.c6 (kX p.globals p.globals.length) p.c6.length) i++rL++(p.funcs.getD i j5).name++vY) j)),(7,AV.int .i64 ((i:Nat):Int)),(8,AV.ptr (h.length+1) 0 0),(9,AV.int .i64 ((j:Nat):Int))],h++[⟨0,false,27,3,[.vec p.globals.length (o6 p.globals),.vec p.c6.length (j4 p.c6),.vec p.funcs.length (l8 p.funcs)],0⟩,⟨0,false,122,3,[.str (p.funcs.getD i j5).name,.vec (p.funcs.getD i j5).params.length (p9 (p.funcs.getD i j5).params),.vec (p.funcs.getD i j5).body.len (n8 (p.funcs.getD i j5).body)],0⟩]⟩) _ (.v ⟨0,⟨rfl,by omega⟩,rfl⟩ (hs:=t36)) ?_;rintro m sl h' ⟨j,⟨hm,hj⟩,hst⟩;obtain ⟨rfl,rfl⟩:=St.mk.inj hst;have hsp:=V3 (l:=(p.funcs.getD i j5).params) hpn.2 (rU p.funcs (eJ p.c6 (kX p.globals p.globals.length) p.c6.length) i++rL++(p.funcs.getD i j5).name++vY) j hj;have hs0:(rU p.funcs (eJ p.c6 (kX p.globals p.globals.length) p.c6.length) i++rL++(p.funcs.getD i j5).name++vY).size≤(rU p.funcs (eJ p.c6 (kX p.globals p.globals.length) p.c6.length) i).size+30:=by simp only[bB];have e1:rL.size=5:=rfl;have e2:vY.size=1:=rfl;omega
   refine c0z ?_;refine u2z ?_ ?_
   ·intro e8 qe8;refine c5z ?_;refine c0z ?_;refine u2z ?_ ?_
    ·intro e9 qe9;refine c1z ?_;refine .seq ?_;refine .c9 [1,3,7,8,9] ?_;have hpj:=eV (hpn.2 _ (l6 (d:=fC) (l:=(p.funcs.getD i j5).params) (i:=j) (by omega)));refine .z ?_;refine u2z ?_ ?_
     ·intro e10 qe10;refine c1z ?_;refine .c9 [1,3,7,8,9] ?_;refine c259z ?_;refine .rz ?_;exact ⟨_,by omega,.v ⟨(j+1),⟨rfl,by omega⟩,rfl⟩ (hs:=t36)⟩
     intro e10 qe10;refine .sk ?_;refine c259z ?_;refine .rz ?_;exact ⟨_,by omega,.v ⟨(j+1),⟨rfl,by omega⟩,rfl⟩ (hs:=t36)⟩
    intro e9 qe9;refine c116z ?_;have hpj:=eV (hpn.2 _ (l6 (d:=fC) (l:=(p.funcs.getD i j5).params) (i:=j) (by omega)));refine .z ?_;refine u2z ?_ ?_
    ·intro e11 qe11;refine .c9 [1,3,7,8,9] ?_;refine c1z ?_;refine c259z ?_;refine .rz ?_;exact ⟨_,by omega,.v ⟨(j+1),⟨rfl,by omega⟩,rfl⟩ (hs:=t36)⟩
    intro e11 qe11;refine .sk ?_;refine .c9 [1,3,7,8,9] ?_;refine c259z ?_;refine .rz ?_;exact ⟨_,by omega,.v ⟨(j+1),⟨rfl,by omega⟩,rfl⟩ (hs:=t36)⟩
   intro e8 qe8;refine .exit ?_;obtain rfl:j=(p.funcs.getD i j5).params.length:=by omega
   change g6 ..;have htab:hY.size=1:=rfl;have hbs:=(jY (hp.toGH.genv hfm) (p.funcs.getD i j5).body _ hY ByteArray.empty 0 (hp.toGH.UR hfm) hbd.1 (by omega) E5 Cl.nil).2;have he0:ByteArray.empty.size=0:=rfl;refine c150z ?_;refine .ca rfl rfl (FR (hp.toGH.genv hfm) 1000 _ (by omega) (Nat.le_refl _) _ hY (GN hp.toGH hfm) hbd.1 (by omega) E5 _) ?_;refine c42z ?_;refine .c9 [1,3,7] ?_;refine .rz ?_;exact ⟨_,by omega,.v ⟨(i+1),⟨rfl,by omega⟩,rfl⟩ (he:=t29)⟩
  intro e7 qe7;refine .exit ?_;obtain rfl:i=p.funcs.length:=by omega
  change g6 ..;refine .z ?_;exact .ret (.ex (hq:=by rfl))
theorem c_valid (hp:GP p):CB 46 [.agg [.vec p.globals.length (o6 p.globals),.vec p.c6.length (j4 p.c6),.vec p.funcs.length (l8 p.funcs)]] h (.bool true):=by
  refine .bz Tryz.f46 140 ?_;have hgl0:=hp.gl;have hml0:=hp.ml;have hfl0:=hp.fl;refine c20z ?_;refine c40z ?_;refine .spl 16 rfl rfl (fun e1=>by exfalso;have q:=fact e1;omega) (fun e1=>?_);try simp only[e1]
  have qe1:=fact e1;refine .k 6 [(4,16)] ?_;refine .spl 22 rfl rfl (fun e2=>by exfalso;have q:=fact e2;omega) (fun e2=>?_);try simp only[e2]
  have qe2:=fact e2;refine .m [(10,22)] ?_;refine uFbz ?_;intro e3 qe3;refine c116z ?_;refine .c9 [1] ?_;refine c36z ?_;refine .jE (fun m st=>∃(i:Nat),(m=p.globals.length-i∧i≤p.globals.length)∧st=⟨mkS 140 [(1,AV.ptr h.length 0 0),(3,AV.int .i64 ((i:Nat):Int))],h++[⟨0,false,27,3,[.vec p.globals.length (o6 p.globals),.vec p.c6.length (j4 p.c6),.vec p.funcs.length (l8 p.funcs)],0⟩]⟩) _ (.v ⟨0,⟨rfl,by omega⟩,rfl⟩) ?_;rintro m sl h' ⟨i,⟨hm,hi⟩,hst⟩;obtain ⟨rfl,rfl⟩:=St.mk.inj hst;refine c0z ?_;refine u2z ?_ ?_
  ·intro e4 qe4;refine c5z ?_;have hgi:=(hp.gn i (by omega)).2;have hgr:sP (p.globals.getD i lQ).name=false:=by rw[(hp.gn i (by omega)).1];exact FO i (by omega)
   refine c108z ?_;refine .ca rfl rfl (mM _ (hp.toGH.EB (l6 (d:=lQ) (l:=p.globals) (i:=i) (by omega))) hgr) ?_;refine .k 8 [(8,43)] ?_;refine .m [(8,43)] ?_;refine uFbz ?_;intro e5 qe5;refine c8z ?_;refine .c9 [1,3] ?_;refine .rz ?_;exact ⟨_,by omega,.v ⟨(i+1),⟨rfl,by omega⟩,rfl⟩⟩
  intro e4 qe4;refine c12z ?_;refine c6z ?_;refine .aD (fun m st=>∃(i:Nat),(m=p.c6.length-i∧i≤p.c6.length)∧st=⟨mkS 140 [(1,AV.ptr h.length 0 0),(4,AV.int .i64 ((i:Nat):Int))],h++[⟨0,false,27,3,[.vec p.globals.length (o6 p.globals),.vec p.c6.length (j4 p.c6),.vec p.funcs.length (l8 p.funcs)],0⟩]⟩) (.v ⟨0,⟨rfl,by omega⟩,rfl⟩) ?_;rintro m sl h' ⟨i,⟨hm,hi⟩,hst⟩;obtain ⟨rfl,rfl⟩:=St.mk.inj hst;clear hst;refine c0z ?_;refine u2z ?_ ?_
  ·intro e6 qe6;refine c5z ?_;have hmi:=(hp.mn i (by omega)).2;have hmr:sP (p.c6.getD i cK).name=false:=by rw[(hp.mn i (by omega)).1];exact FP i (by omega)
   refine .z ?_;refine .c9 [1,4,5] ?_;refine c45z ?_;refine .ca rfl rfl (mM _ (hp.toGH.MM (l6 (d:=cK) (l:=p.c6) (i:=i) (by omega))) hmr) ?_;refine .k 7 [(4,68)] ?_;refine .spl 73 rfl rfl (fun e7=>by exfalso;have q:=fact e7;omega) (fun e7=>?_);try simp only[e7]
   have qe7:=fact e7;refine .k 5 [(9,73)] ?_;refine .spl 78 rfl rfl (fun e8=>by exfalso;have q:=fact e8;omega) (fun e8=>?_);try simp only[e8]
   have qe8:=fact e8;refine .k 3 [(14,78)] ?_;refine .spl 81 rfl rfl (fun e9=>?_) (fun e9=>?_)
   ·try simp only[e9]
    have qe9:=fact e9;refine .m [(14,78),(17,81)] ?_;refine .spl 86 rfl rfl (fun e10=>by exfalso;have q:=fact e10;have:=hmi.2.2 (by assumption);omega) (fun e10=>?_);try simp only[e10]
    have qe10:=fact e10;refine c54z ?_;refine .c9 [1,4] ?_;refine .rz ?_;exact ⟨_,by omega,.v ⟨(i+1),⟨rfl,by omega⟩,rfl⟩ (he:=t29)⟩
   try simp only[e9]
   have qe9:=fact e9;refine .m [(14,78),(17,81)] ?_;refine c54z ?_;refine .c9 [1,4] ?_;refine .rz ?_;exact ⟨_,by omega,.v ⟨(i+1),⟨rfl,by omega⟩,rfl⟩ (he:=t29)⟩
  intro e6 qe6;refine c12z ?_;refine c6z ?_;refine .aD (fun m st=>∃(i:Nat),(m=p.funcs.length-i∧i≤p.funcs.length)∧st=⟨mkS 140 [(1,AV.ptr h.length 0 0),(6,AV.int .i64 ((i:Nat):Int))],h++[⟨0,false,27,3,[.vec p.globals.length (o6 p.globals),.vec p.c6.length (j4 p.c6),.vec p.funcs.length (l8 p.funcs)],0⟩]⟩) (.v ⟨0,⟨rfl,by omega⟩,rfl⟩) ?_;rintro m sl h' ⟨i,⟨hm,hi⟩,hst⟩;obtain ⟨rfl,rfl⟩:=St.mk.inj hst;clear hst;refine c0z ?_;refine u2z ?_ ?_
  ·intro e11 qe11;refine c5z ?_;have hfm:=l6 (d:=j5) (l:=p.funcs) (i:=i) (by omega);have hfn:=eV (hp.toGH.EC hfm);have hpn:=hp.toGH.pD hfm;have hbd:=hp.body i (by omega);have hwt:=N6 (l:=p.funcs) (i:=i) (by omega);have hww:=hp.wt;have hlw:=bF (p.funcs.getD i j5).body;have hfr:sP (p.funcs.getD i j5).name=false:=by rw[(hp.fn i (by omega)).1];exact FQ i (by omega)
   refine c20z ?_;refine .c9 [1,6,7] ?_;refine c45z ?_;refine .ca rfl rfl (mM _ (hp.toGH.EC hfm) hfr) ?_;refine .k 8 [(4,103)] ?_;refine .spl 109 rfl rfl (fun e12=>by exfalso;have q:=fact e12;omega) (fun e12=>?_);try simp only[e12]
   have qe12:=fact e12;refine .k 2 [(10,109)] ?_;refine .ca rfl rfl (c_okS (hp.toGH.genv hfm) (GHgres hp.toGH hfm) 1000 _ (by omega) (Nat.le_refl _) _ 0 (GN hp.toGH hfm) hbd.1 (by omega) (by omega) _) ?_;refine .m [(10,109)] ?_;refine c22z ?_;refine .c9 [1,6,7] ?_;refine c36z ?_;refine .jE (fun m st=>∃(j:Nat),(m=(p.funcs.getD i j5).params.length-j∧j≤(p.funcs.getD i j5).params.length)∧st=⟨mkS 140 [(1,AV.ptr h.length 0 0),(6,AV.int .i64 ((i:Nat):Int)),(7,AV.ptr (h.length+1) 0 0),(8,AV.int .i64 ((j:Nat):Int))],h++[⟨0,false,27,3,[.vec p.globals.length (o6 p.globals),.vec p.c6.length (j4 p.c6),.vec p.funcs.length (l8 p.funcs)],0⟩,⟨0,false,122,3,[.str (p.funcs.getD i j5).name,.vec (p.funcs.getD i j5).params.length (p9 (p.funcs.getD i j5).params),.vec (p.funcs.getD i j5).body.len (n8 (p.funcs.getD i j5).body)],0⟩]⟩) _ (.v ⟨0,⟨rfl,by omega⟩,rfl⟩) ?_;rintro m sl h' ⟨j,⟨hm,hj⟩,hst⟩;obtain ⟨rfl,rfl⟩:=St.mk.inj hst;refine c0z ?_;refine u2z ?_ ?_
   ·intro e13 qe13;refine c5z ?_;refine c108z ?_;refine .ca rfl rfl (mM _ (hpn.2 _ (l6 (d:=fC) (l:=(p.funcs.getD i j5).params) (i:=j) (by omega))) (GM hp.toGH hfm _ (l6 (d:=fC) (l:=(p.funcs.getD i j5).params) (i:=j) (by omega)))) ?_;refine .n ?_;refine c54z ?_;refine .c9 [1,6,7,8] ?_;refine .rz ?_;exact ⟨_,by omega,.v ⟨(j+1),⟨rfl,by omega⟩,rfl⟩⟩
   intro e13 qe13;refine c12z ?_;refine .rz ?_;exact ⟨_,by omega,.v ⟨(i+1),⟨rfl,by omega⟩,rfl⟩ (he:=t29)⟩
  intro e11 qe11;refine c12z ?_;have htx:=txtP_ok hp;refine c159z ?_;refine .ca rfl rfl (c_progT hp) ?_;refine .e 1 ?_;refine .ca rfl rfl (c_lexB htx.1 htx.2) ?_;refine .n ?_;refine .c9 [11] ?_;refine .z ?_;exact .ret (.ex (hq:=by rfl))
end Go.Proofs.YtapdldekgbbomaaGreatDoor
end
section
namespace Go.Proofs.YtapdldekgbbomaaGreatDoor
open Go.Ab Go.Un
def sc1:AV→AV
  | .bool b=>.bool b
  | .int k n=>.int k n
  | .str s=>.str s
  | _=>.any
def sc2:AV→AV
  | .agg cs=>.agg (cs.map sc1)
  | x=>sc1 x
def WV:AV→AV
  | .tup xs=>.tup (xs.map sc2)
  | x=>sc2 x
section
variable {h1 h2:c8}{φ1 φ2:Map}{w:World}{v:Value}{x:AV}
theorem GQ (r:Rel h1 φ1 w v x):Rel h2 φ2 w v (sc1 x):=by
  unfold sc1;split
  · cases r.bool_inv;exact .bool_of _
  · cases r.aA;exact .int_of _ _
  · cases r.eB;exact .oK _
  · exact .iR _
theorem GU (r:Rel h1 φ1 w v x):Rel h2 φ2 w v (sc2 x):=by
  unfold sc2;split
  · rename_i cs
    obtain ⟨a,rfl,ha,hc,hr⟩:=r.iQ;refine .agg a _ (by simp[ha]) hc fun j u z hu hz=>?_;rw[List.getElem?_map]at hz;obtain ⟨y,hy,rfl⟩:=Option.map_eq_some_iff.1 hz;exact GQ (hr j u y hu hy)
  · exact GQ r
theorem GV (r:Rel h1 φ1 w v x):Rel h2 φ2 w v (WV x):=by
  unfold WV;split
  · rename_i xs
    obtain ⟨a,rfl,ha,hr⟩:=r.mC;refine .tup a _ (by simp[ha]) fun j u z hu hz=>?_;rw[List.getElem?_map]at hz;obtain ⟨y,hy,rfl⟩:=Option.map_eq_some_iff.1 hz;exact GU (hr j u y hu hy)
  · exact GU r
end
variable {h:c8}
theorem borrowD {f:FuncId}{args args':List AV}{x:AV}(ha:JU 0 h args' args)(r:CallA Tryz.prog cfg f args' (bR 0 h) fun y _=>y=x):CallA Tryz.prog cfg f args h fun y k=>y=WV x∧k=h:=by
  intro B φ w cargs i hs hr;obtain ⟨i',_⟩:=xX 0 i;obtain ⟨k1,k2⟩:=ha.get;refine (r B φ w cargs i' t232 fun j v y h1 h2=>?_).mono fun e w' hp=>?_
  · have hj:j<args.length:=by rw[←k1];exact (List.getElem?_eq_some_iff.1 h2).1
    have e1:args'.getD j .any=y:=by simp[List.getD,h2]
    have e2:args.getD j .any=args[j]:=by simp[List.getD,hj]
    rcases k2 j with h | h
    · rw[e1]at h
      rw[h];exact .iR _
    · rw[e1,e2]at h
      exact xY i 0 h (hr j v _ h1 (List.getElem?_eq_getElem hj))
  · obtain ⟨v,y,h',φ',rfl,h1,h2,h3,rfl⟩:=hp
    have hfree:∀k,k<w.heap.size→Free (bR 0 h) φ w k:=fun k hk=>⟨hk,fun β b hb hv=>by
      rcases dE hb with ⟨hn,_⟩ | ⟨_,b',_,rfl⟩
      · omega
      · cases hv⟩
    have hk:∀k,k<w.heap.size→w'.heap[k]?=w.heap[k]?:=fun k hk=>(h2.keep k (hfree k hk)).1;have ev:Ev h φ w h φ w':=⟨h2.os,h2.tape,h2.output,h2.size,fun k hs=>⟨hk k hs.1,Nat.lt_of_lt_of_le hs.1 h2.size,hs.2⟩,fun k j hs=>⟨World.cell?_of_block (hk k hs.1),Nat.lt_of_lt_of_le hs.1 h2.size,hs.2⟩,Nat.le_refl _,fun β b b' e1 e2=>by rw[e1]at e2;cases e2;exact ⟨Nat.le_refl _,fun _=>⟨rfl,rfl,rfl⟩⟩⟩;refine ⟨v,_,h,φ,rfl,⟨fun β b hb hv=>?_,i.inj,i.base,i.cG,Nat.le_trans i.room h2.size,fun g=>ev.A9 (i.glob g)⟩,ev,GV h3,rfl,rfl⟩;obtain ⟨cur,q1,q2,q3,q4⟩:=i.blk β b hb hv;exact ⟨cur,(hk _ (Array.getElem?_eq_some_iff.1 q1).1).trans q1,q2,q3,fun j v x a d=>⟨(q4 j v x a d).1,ev.rel (q4 j v x a d).2⟩⟩
variable {g n:Nat}
theorem zL {H:c8}{β:Nat}{l:List Ent}{x:BA}(hb:H[β]?=some (n4 131 3 g (j8 l)))(hn:l.length=n)(hl:l.length<1000000)(hf:cD l x=none):CB 48 [.own β g 0 n,.str x] H (.tup [.agg [.str ByteArray.empty,.int .i64 0,.int .i64 0],.bool false]):=by subst hn;have e:LO 0 H (.own β g 0 l.length)=some (.vec l.length (j8 l)):=eH hb (Nat.zero_le _) (by rw[w5];omega) (by omega) ((qX l).frz _ _ _);have ha:JU 0 H [.vec l.length (j8 l),.str x] [.own β g 0 l.length,.str x]:=And.intro (.inr e) (And.intro (.inr rfl) trivial);exact borrowD ha ((GB hf hl).mono fun _ _ h=>h.1)
variable {p:Go.Un.Pg}
theorem pO:(bK p).length=p.globals.length+(p.c6.length+p.funcs.length):=by simp[bK]
variable {i:Nat}
theorem OR (h:i<(bK p).length):(bK p).getD i jX=if i<p.globals.length then ⟨(p.globals.getD i lQ).name,1,(i:Int)⟩ else if i-p.globals.length<p.c6.length then ⟨(p.c6.getD (i-p.globals.length) cK).name,2,((i-p.globals.length:Nat):Int)⟩ else ⟨(p.funcs.getD (i-p.globals.length-p.c6.length) j5).name,3,((i-p.globals.length-p.c6.length:Nat):Int)⟩:=by
  rw[pO]at h;unfold bK;rw[List.getD_eq_getElem?_getD];by_cases h1:i<p.globals.length
  · rw[if_pos h1,List.getElem?_append_left t157]
    simp[h1]
  · rw[if_neg h1,List.getElem?_append_right (by simpa using Nat.le_of_not_lt h1)]
    simp only[List.length_map,List.length_range];by_cases h2:i-p.globals.length<p.c6.length
    · rw[if_pos h2,List.getElem?_append_left t127]
      simp[h2]
    · rw[if_neg h2,List.getElem?_append_right (by simpa using Nat.le_of_not_lt h2)]
      simp only[List.length_map,List.length_range];have h3:i-p.globals.length-p.c6.length<p.funcs.length:=by omega
      simp[h3]
theorem GW (h:i<(bK p).length):(bK p).getD i jX=if i<p.globals.length then ⟨(p.globals.getD i lQ).name,1,(i:Int)⟩ else if (i:Int)-p.globals.length<p.c6.length then ⟨(p.c6.getD ((i:Int)-p.globals.length).toNat cK).name,2,(i:Int)-p.globals.length⟩ else ⟨(p.funcs.getD ((i:Int)-p.globals.length-p.c6.length).toNat j5).name,3,(i:Int)-p.globals.length-p.c6.length⟩:=by
  rw[OR h];by_cases h1:i<p.globals.length
  · rw[if_pos h1,if_pos h1]
  · rw[if_neg h1,if_neg h1,show ((i:Int)-p.globals.length).toNat=i-p.globals.length from by omega,show ((i:Int)-p.globals.length-p.c6.length).toNat=i-p.globals.length-p.c6.length from by omega]
    by_cases h2:i-p.globals.length<p.c6.length
    · rw[if_pos h2,if_pos (by omega),show ((i-p.globals.length:Nat):Int)=(i:Int)-p.globals.length from by omega]
    · rw[if_neg h2,if_neg (by omega),show ((i-p.globals.length-p.c6.length:Nat):Int)=(i:Int)-p.globals.length-p.c6.length from by omega]
theorem GX {l:List Ent}(hn:(l.map (·.name)).Nodup)(hi:i<l.length):cD (l.take i) (l.getD i jX).name=none:=by
  refine uA fun h=>?_;obtain ⟨e,he,hx⟩:=List.mem_map.1 h;obtain ⟨j,hj,rfl⟩:=List.mem_iff_getElem.1 he;simp only[List.length_take]at hj;have hjl:j<l.length:=by omega
  simp only[List.getElem_take]at hx;have e1:l.getD i jX=l[i]:=by simp[List.getD,hi]
  rw[e1]at hx;have:=(List.pairwise_iff_getElem.1 hn) j i (by simpa using hjl) (by simpa using hi) (by omega);simp only[List.getElem_map]at this;exact this hx
theorem wU (h:GP p):((bK p).map (·.name)).Nodup:=by have h1:=(uC h.toGH (i:=0) (by have:=h.fl;omega)).nodup uB;rw[List.map_append]at h1;exact (List.nodup_append.1 h1).1
theorem takeD {l:List Ent}(h:i<l.length):l.take (i+1)=l.take i++[l.getD i jX]:=by rw[List.take_add_one];simp[List.getD,h]
theorem G3 {l:List Ent}{x:Ent}:j8 (l++[x])=j8 l++[.str x.name,.int .i64 x.kind,.int .i64 x.n]:=by simp[j8,iU]
variable {b0 b2 b3:Blk}{es:List Ent}
theorem app_ent {l:c8}{x:BA}{k m:Int}(hn:es.length=n)(hl:n<100000):g8 cfg 131 (h++(b0::n4 131 3 g (j8 es)::b2::b3::⟨0,false,131,3,[.str x,.int .i64 k,.int .i64 m],0⟩::l)) (.own (h.length+1) g 0 n) (.own (h.length+4) 0 0 1)=some (.own (h.length+1) (g+1) 0 (n+1),h++(b0::n4 131 3 (g+1) (j8 (es++[⟨x,k,m⟩]))::b2::b3::⟨0,false,131,3,[.str x,.int .i64 k,.int .i64 m],0⟩::l)):=by subst hn;rw[s9 (C:=cfg) (K:=3) (m:=1) (new:=[.str x,.int .i64 k,.int .i64 m]) (zs:=j8 es) t47 rfl (by omega) (by rw[w5];omega) rfl (by omega) t190 rfl (by decide) (by omega),G3,u4];rfl
theorem OS {l:List Gl}(h:i<l.length):List.take 1 (List.drop (i*2) (o6 l))=[.str (l.getD i lQ).name]:=A6 K6 2 0 (fun _=>rfl) (by omega) lQ h
theorem OT {l:List Mx}(h:i<l.length):List.take 1 (List.drop (i*3) (j4 l))=[.str (l.getD i cK).name]:=A6 DS 3 0 (fun _=>rfl) (by omega) cK h
theorem OU {l:List Fu}(h:i<l.length):List.take 1 (List.drop (i*3) (l8 l))=[.str (l.getD i j5).name]:=A6 aO 3 0 (fun _=>rfl) (by omega) j5 h
attribute [local go_sem] rd w5 o8 bY cR u5 bN gG cS n7 aJ w9 l7 aM Int.natCast_nonneg Int.natCast_inj List.length_map wrap64 eT jO jP I6 vZ A5 I7 nH max2 fG dL cA Nat.reduceMul nG kH aW iU lH fK uR OS OT OU app_ent
theorem c_decl (hp:GP p):CB 47 [.agg [.vec p.globals.length (o6 p.globals),.vec p.c6.length (j4 p.c6),.vec p.funcs.length (l8 p.funcs)]] h (.tup [.vec (bK p).length (j8 (bK p)),.int .i64 (-1)]):=by
  refine .bz Tryz.f47 94 ?_;have hdl:=pO (p:=p);have hnd:=wU hp;have hgl:=hp.gl;have hml:=hp.ml;have hfl:=hp.fl;refine c281z ?_;refine c263z ?_;refine c55z ?_;refine .c9 [1,4,5,6] ?_;refine c36z ?_;refine g6.oB 4 rfl ?_;refine .aD (fun m st=>∃(i:Nat),(m=(bK p).length-i∧i≤(bK p).length)∧st=⟨mkS 94 [(1,AV.ptr h.length 0 0),(4,AV.own (h.length+1) i 0 i),(5,AV.int .i64 (-1)),(6,AV.int .i64 ((bK p).length:Int)),(7,AV.int .i64 ((i:Nat):Int))],h++[⟨0,false,27,3,[.vec p.globals.length (o6 p.globals),.vec p.c6.length (j4 p.c6),.vec p.funcs.length (l8 p.funcs)],0⟩,n4 131 3 i (j8 ((bK p).take i))]⟩) (.v ⟨0,⟨rfl,by omega⟩,rfl⟩ (hs:=t65)) ?_;rintro m sl h' ⟨i,⟨hm,hi⟩,hst⟩;obtain ⟨rfl,rfl⟩:=St.mk.inj hst;clear hst;have htl:((bK p).take i).length=i:=by simp;omega
  refine c0z ?_;refine u2z ?_ ?_
  ·intro e1 qe1;refine c5z ?_;refine c20z ?_;have hat:=GW (p:=p) (i:=i) (by omega);have hfn:=GX hnd (i:=i) (by omega);refine c36z ?_;refine .c9 [1,4,5,6,7,8,9] ?_;refine .z ?_;refine u2z ?_ ?_
   ·intro e2 qe2;refine c222z ?_;refine .seq ?_;refine .c9 [1,4,5,6,7,8] ?_;rw[if_pos (by omega)]at hat;rw[hat]at hfn;refine c251z ?_;refine .n ?_;refine c270z ?_;refine c22z ?_;refine c1z ?_;refine .c9 [1,4,5,6,7] ?_;refine .rz ?_;exact ⟨_,by omega,.v ⟨(i+1),⟨rfl,by omega⟩,rfl⟩ (he:=t130) (hk:=t128) (hs:=t65)⟩
   intro e2 qe2;refine .z ?_;refine u2z ?_ ?_
   ·intro e3 qe3;refine .c9 [1,4,5,6,7,8,9] ?_;refine c222z ?_;refine .seq ?_;refine .c9 [1,4,5,6,7,8] ?_;rw[if_neg (by omega),if_pos (by omega)]at hat;rw[hat]at hfn;refine c251z ?_;refine .n ?_;refine c270z ?_;refine c22z ?_;refine c1z ?_;refine .c9 [1,4,5,6,7] ?_;refine .rz ?_;exact ⟨_,by omega,.v ⟨(i+1),⟨rfl,by omega⟩,rfl⟩ (he:=t130) (hk:=t128) (hs:=t65)⟩
   intro e3 qe3;refine .c9 [1,4,5,6,7,8,9] ?_;refine .so w7 (mkP 17 [0,1,0,0,8,24,60,127,255,511,0,0,2048,6144,15360,32767,65535] [16]) ?_;refine .k 8 [] ?_;refine .k 8 [] ?_;refine c86z ?_;refine .seq ?_;refine .c9 [1,4,5,6,7,8] ?_;rw[if_neg (by omega),if_neg (by omega)]at hat;rw[hat]at hfn;refine c251z ?_;refine .n ?_;refine c270z ?_;refine c22z ?_;refine c1z ?_;refine .c9 [1,4,5,6,7] ?_;refine .rz ?_;exact ⟨_,by omega,.v ⟨(i+1),⟨rfl,by omega⟩,rfl⟩ (he:=t130) (hk:=t128) (hs:=t65)⟩
  intro e1 qe1;refine .exit ?_;obtain rfl:i=(bK p).length:=by omega
  rw[List.take_length];refine g6.tU (t:=4) (γ:=h.length+1) (len:=(bK p).length) t47 (by rw[w5];omega) (by omega) (qX _) (oC (by decide) rfl) ?_;rw[aE];simp only[u4,List.set_cons_succ,List.set_cons_zero];change g6 ..;refine .z ?_;exact .ret (.ex (hq:=by rfl))
def s0F (p:Go.Un.Pg)(f:Fu):Sco:=⟨p,bK p++lR f.params 0 0,(gJ f.params:Int),0,[],[]⟩
def s1F (p:Go.Un.Pg)(f:Fu):Sco:=dG (s0F p f).l (s0F p f) f.body
def s2F (p:Go.Un.Pg)(f:Fu):Sco:=r8 (s1F p f) ⟨8,0,false,l4,cL,[],[]⟩ (s1F p f).st
variable {a b c d:Blk}{s:Sco}{r:c8}
theorem OV:(h++(a::b::c::d::aW (h.length+4) s::n4 105 12 (s).code.length (s3 (s).code)::n4 3 1 (s).sites.length (encI (s).sites)::r))=hT ⟨h++[a,b,c,d],r⟩ (aW (h.length+4) s) s.code s.sites:=by simp[hT]
theorem hF_k:Frm.k ⟨h++[a,b,c,d],r⟩=h.length+4:=by simp[Frm.k]
theorem OW {E:Env}{cx:Ctx}{S:Sl}(hw:S.wt≤1000){vars:List BA}(sc:SC E cx vars s.l)(hG:GS E S vars)(bd:Bd E cx s.p)(B:Bnd s S.wt):CH 71 [.ptr (h.length+4) 0 0,.vec S.len (n8 S)] (h++(a::b::c::d::aW (h.length+4) s::n4 105 12 (s).code.length (s3 (s).code)::n4 3 1 (s).sites.length (encI (s).sites)::r)) (.tup []) (h++(a::b::c::d::aW (h.length+4) (dG s.l s S)::n4 105 12 ((dG s.l s S)).code.length (s3 ((dG s.l s S)).code)::n4 3 1 ((dG s.l s S)).sites.length (encI ((dG s.l s S)).sites)::r)):=by have:=V2 1000 S hw (Nat.le_refl _) vars s sc hG bd B ⟨h++[a,b,c,d],r⟩;rw[hF_k,←OV,←OV]at this;exact this
theorem c_putF (hc:s.code.length<10000)(hs:s.sites.length<10000)(i:Ins)(t:Int){zs:List AV}(hz:mB (eS i) zs):CH 72 [.ptr (h.length+4) 0 0,.agg zs,.int .i64 t] (h++(a::b::c::d::aW (h.length+4) s::n4 105 12 (s).code.length (s3 (s).code)::n4 3 1 (s).sites.length (encI (s).sites)::r)) (.int .i64 ((s.code.length:Nat):Int)) (h++(a::b::c::d::aW (h.length+4) (r8 s i t)::n4 105 12 ((r8 s i t)).code.length (s3 ((r8 s i t)).code)::n4 3 1 ((r8 s i t)).sites.length (encI ((r8 s i t)).sites)::r)):=by have:=mR (e:=⟨h++[a,b,c,d],r⟩) hc hs i t hz;rw[hF_k,←OV,←OV]at this;exact this
variable {b1:Blk}
theorem app_cpF {l:c8}(hz:es.length=n)(h0:0<n)(hn:n<1000):g8 cfg 131 (h++(b0::b1::b2::⟨0,false,131,3,[],0⟩::l)) (.own (h.length+3) 0 0 0) (.vec n (j8 es))=some (.own (h.length+3) 1 0 n,h++(b0::b1::b2::⟨1,false,131,3,j8 es,0⟩::l)):=by
  subst hz;have e1:cfg.sz 131=3:=rfl;have e2:(cfg.ti 131).bytes=32:=rfl;have hm:es.length≤maxLen:=by
    have:(1000:Nat)≤maxLen:=by decide
    omega
  have hb:es.length*32≤140737488355328:=by omega
  have h1:(j8 es).length=es.length*3:=by rw[w5];omega
  have h2:¬es.length=0:=by omega
  have h3:¬es.length*3=0:=by omega
  simp[g8,rd,lenOf,e1,e2,h1,hm,hb,v5,u4,h0,h2,h3]
variable {b4:Blk}
theorem app_onF {b5 b6 b7 b8:Blk}{l:c8}{x:BA}{k m:Int}(hz:es.length=n)(hn:n<1000):g8 cfg 131 (h++(b0::b1::b2::⟨g,false,131,3,j8 es,0⟩::b4::b5::b6::b7::b8::⟨0,false,131,3,[.str x,.int .i64 k,.int .i64 m],0⟩::l)) (.own (h.length+3) g 0 n) (.own (h.length+9) 0 0 1)=some (.own (h.length+3) (g+1) 0 (n+1),h++(b0::b1::b2::⟨g+1,false,131,3,j8 (es++[⟨x,k,m⟩]),0⟩::b4::b5::b6::b7::b8::⟨0,false,131,3,[.str x,.int .i64 k,.int .i64 m],0⟩::l)):=by
  subst hz;have e1:cfg.sz 131=3:=rfl;have e2:(cfg.ti 131).bytes=32:=rfl;have hm:es.length+1≤maxLen:=by
    have:(1001:Nat)≤maxLen:=by decide
    omega
  have hb:(es.length+1)*32≤140737488355328:=by omega
  have h1:(j8 es).length=es.length*3:=by rw[w5];omega
  have ht:List.take (es.length*3) (j8 es)=j8 es:=List.take_of_length_le (by omega);have hnl:¬(es.length+1)*3≤es.length*3:=by omega
  have hs:j8 (es++[⟨x,k,m⟩])=j8 es++[.str x,.int .i64 k,.int .i64 m]:=by simp[j8,iU]
  simp[g8,rd,lenOf,e1,e2,h1,hm,hb,ht,hnl,v5,u4,hs]
theorem pP:∀{l:List Pm} {x:Pm} {a b:Nat},lR (l++[x]) a b=lR l a b++[if x.mu then ⟨x.name,5,((b+bU l:Nat):Int)⟩ else ⟨x.name,4,((a+gJ l:Nat):Int)⟩]
  | [],x,a,b=>by simp[lR,bU,gJ];split<;>rfl
  | y::l,x,a,b=>by
    simp only[List.cons_append,lR];cases hy:y.mu with
    | true=>
      simp only[if_true,pP (l:=l),List.cons_append,bU,gJ,List.filter_cons,hy,Bool.not_true,Bool.false_eq_true,if_false,List.length_cons];rw[show b+1+(l.filter fun x=>x.mu).length=b+((l.filter fun x=>x.mu).length+1) from by omega]
    | false=>
      simp only[Bool.false_eq_true,if_false,pP (l:=l),List.cons_append,bU,gJ,List.filter_cons,hy,Bool.not_false,if_true,List.length_cons];rw[show a+1+(l.filter fun x=>!x.mu).length=a+((l.filter fun x=>!x.mu).length+1) from by omega]
variable {l:List Pm}
theorem V4 {a b:Nat}:(lR l a b).length=l.length:=by have:=congrArg List.length (iN l a b);simpa using this
theorem V5:gJ l≤l.length:=List.length_filter_le _ _
theorem qZ (h:i<l.length):l.take (i+1)=l.take i++[l.getD i fC]:=by rw[List.take_add_one];simp[List.getD,h]
theorem wV {x:Pm}:gJ (l++[x])=gJ l+(if x.mu then 0 else 1):=by simp only[gJ,List.filter_append,List.length_append];cases h:x.mu<;>simp[h]
theorem uW {x:Pm}:bU (l++[x])=bU l+(if x.mu then 1 else 0):=by simp only[bU,List.filter_append,List.length_append];cases h:x.mu<;>simp[h]
theorem drop_pm (hi:i<l.length):l.drop i=l.getD i fC::l.drop (i+1):=by rw[List.drop_eq_getElem_cons hi];simp[List.getD,hi]
theorem findP (hp:GP p){j:Nat}(hj:j<p.funcs.length)(hi:i<(p.funcs.getD j j5).params.length):cD (bK p++lR ((p.funcs.getD j j5).params.take i) 0 0) ((p.funcs.getD j j5).params.getD i fC).name=none:=by
  have hn:=(uC hp.toGH hj).nodup uB;rw[List.map_append,iN]at hn;have hs:((p.funcs.getD j j5).params.map (·.name))=(((p.funcs.getD j j5).params.take i).map (·.name))++((p.funcs.getD j j5).params.getD i fC).name::(((p.funcs.getD j j5).params.drop (i+1)).map (·.name)):=by
    have h1:(p.funcs.getD j j5).params=(p.funcs.getD j j5).params.take i++((p.funcs.getD j j5).params.getD i fC::(p.funcs.getD j j5).params.drop (i+1)):=by have h2:=drop_pm hi;rw[←h2,List.take_append_drop]
    have h3:=congrArg (List.map (fun x:Pm=>x.name)) h1;rw[List.map_append,List.map_cons]at h3;exact h3
  rw[hs,←List.append_assoc]at hn;refine uA fun hm=>?_;rw[List.map_append,iN]at hm;exact (List.nodup_append.1 hn).2.2 _ hm _ (by simp) rfl
theorem bd_of (hp:GP p){f:Fu}:Bd (MH p f) (ctxP p f) p:=⟨rfl,rfl,rfl,fun x hx=>by obtain ⟨g,hg,rfl⟩:=List.mem_map.1 hx;exact (hp.toGH.pD hg).1⟩
theorem OX (h:i<l.length):List.take 1 (List.drop (i*2) (p9 l))=[.str (l.getD i fC).name]:=A6 K5 2 0 (fun _=>rfl) (by omega) fC h
section
attribute [local go_sem] app_cpF app_onF zI uS uT zJ zK qV nJ OX
theorem c_func (hp:GP p){j:Nat}(hj:j<p.funcs.length):CB 49 [.agg [.vec p.globals.length (o6 p.globals),.vec p.c6.length (j4 p.c6),.vec p.funcs.length (l8 p.funcs)],.vec (bK p).length (j8 (bK p)),.agg (aO (p.funcs.getD j j5))] h (.tup [.agg (tX (nM p (p.funcs.getD j j5))),.vec (s2F p (p.funcs.getD j j5)).sites.length (encI (s2F p (p.funcs.getD j j5)).sites),.int .i64 0,.int .i64 0]):=by
  unfold aO;refine .bz Tryz.f49 136 ?_;have hdl:=pO (p:=p);have hgl:=hp.gl;have hml:=hp.ml;have hfl:=hp.fl;have hpn:=(hp.toGH.pD (l6 (d:=j5) hj)).1;have hbd:=hp.body j hj;have hwt:=N6 (l:=p.funcs) hj;have hww:=hp.wt;refine .z ?_;refine .sg w7 (mkH 7 [0,0,0,6,15,31,63] [1,3,5] [] [0,2,10,42] [0]) 0 ?_;refine .rm [true] ?_;refine .en [true] [2,0] [_] ?_;refine .p 1 ?_;refine .en [true,false] [10,2,0] [_] ?_;refine .p 1 ?_;refine .en [true,false,false] [42,10,2,0] [_] ?_;refine .p 1 ?_;refine .po [false,true,true,true] ?_;refine aC.nil rfl ?_;refine .c9 [5,6,10] ?_;refine g6.jU (β:=h.length+4) (k:=8) t47 rfl ?_;simp only[List.append_assoc,List.cons_append,List.nil_append,v5,u4,List.set_cons_succ,List.set_cons_zero,List.length_append,List.length_cons,List.length_nil,Nat.reduceAdd,Nat.zero_add];refine g6.jU (β:=h.length+4) (k:=9) t47 rfl ?_;simp only[List.append_assoc,List.cons_append,List.nil_append,v5,u4,List.set_cons_succ,List.set_cons_zero,List.length_append,List.length_cons,List.length_nil,Nat.reduceAdd,Nat.zero_add];refine c25z ?_;refine .aD (fun m st=>∃(i:Nat),(m=(p.funcs.getD j j5).params.length-i∧i≤(p.funcs.getD j j5).params.length)∧st=⟨mkS 136 [(5,AV.ptr (h.length+1) 0 0),(6,AV.ptr (h.length+2) 0 0),(10,AV.ptr (h.length+4) 0 0),(11,AV.ptr (h.length+7) 0 0),(12,AV.int .i64 ((i:Nat):Int))],h++[⟨0,false,27,3,[.vec p.globals.length (o6 p.globals),.vec p.c6.length (j4 p.c6),.vec p.funcs.length (l8 p.funcs)],0⟩,⟨0,false,122,3,[.str (p.funcs.getD j j5).name,.vec (p.funcs.getD j j5).params.length (p9 (p.funcs.getD j j5).params),.vec (p.funcs.getD j j5).body.len (n8 (p.funcs.getD j j5).body)],0⟩,⟨0,false,108,5,[.str ByteArray.empty,.int .i64 0,.int .i64 0,.int .i64 0,.j9],0⟩,⟨1+i,false,131,3,j8 (bK p++lR ((p.funcs.getD j j5).params.take i) 0 0),0⟩,⟨0,false,161,10,[.vec p.globals.length (o6 p.globals),.vec p.c6.length (j4 p.c6),.vec p.funcs.length (l8 p.funcs),.own (h.length+3) (1+i) 0 ((bK p).length+i),.int .i64 0,.int .i64 0,.int .i64 0,.int .i64 0,.own (h.length+5) 0 0 0,.own (h.length+6) 0 0 0],0⟩,⟨0,true,0,0,[],0⟩,⟨0,true,0,0,[],0⟩,⟨0,false,108,5,[.str (p.funcs.getD j j5).name,.int .i64 ((gJ ((p.funcs.getD j j5).params.take i):Nat):Int),.int .i64 ((bU ((p.funcs.getD j j5).params.take i):Nat):Int),.int .i64 0,.j9],0⟩]⟩) (.v ⟨0,⟨rfl,by omega⟩,rfl⟩) ?_ (he:=by (simp[lR,gJ,bU]));rintro m sl h' ⟨i,⟨hm,hi⟩,hst⟩;obtain ⟨rfl,rfl⟩:=St.mk.inj hst;clear hst;have hLl:(bK p++lR ((p.funcs.getD j j5).params.take i) 0 0).length=(bK p).length+i:=by simp only[List.length_append,V4,List.length_take];omega
  have hpl:(lR ((p.funcs.getD j j5).params.take i) 0 0).length=i:=by simp only[V4,List.length_take];omega
  have hne:j8 (bK p++lR ((p.funcs.getD j j5).params.take i) 0 0)≠[]:=by intro h0;have:=congrArg List.length h0;rw[w5]at this;simp only[List.length_nil]at this;omega
  have hni:=V5 (l:=(p.funcs.getD j j5).params.take i);have hnl:=E7 (l:=(p.funcs.getD j j5).params.take i);rw[List.length_take]at hni hnl;refine c0z ?_;refine u2z ?_ ?_
  ·intro e1 qe1;refine c5z ?_;refine .seq ?_;have hfn:=findP hp hj (i:=i) (by omega);refine .sg w7 (mkH 17 [0,1,3,7,0,16,0,112,240,496,1023,2047,4095,4095,0,24575,65535] [10,14,15] [(14,0)] [0,1024,16384,17408,50176] [0,1,2,3,4,5,6,7,8,9,10,11,12,13]) 1 ?_;refine aC.bA t23 ?_;refine .p 3 ?_;refine c118z ?_;refine c206z ?_;refine .cm [true] [1024,0] [_] rfl rfl (by simp only[kO,and_true,List.cons_append,List.nil_append];exact zL t236 hLl (by omega) hfn) ?_;refine .p 3 ?_;refine .en [true,true] [17408,16384,1024,0] [_,_] ?_;refine .en [true,false,false,false] [50176,17408,16384,1024,0] [_] ?_;refine .p 1 ?_;refine aC.pop [false,false,true,false,true] (by kernel_rfl) (by simp only[rI,and_true,List.cons_append,List.nil_append];exact ⟨dN.v7 rfl rfl rfl rfl hb48 (zL t236 hLl (by omega) hfn) rfl,dN.v7 rfl rfl rfl rfl hb48 (zL t236 hLl (by omega) hfn) rfl⟩) ?_;refine c77z ?_;refine .po [false,false,true,false,true] ?_;refine aC.nil rfl ?_;refine .c9 [5,6,10,11,12,14] ?_;refine c14z ?_;refine c241z ?_;refine u2z ?_ ?_
   ·intro e2 qe2;refine .c9 [5,6,10,11,12] ?_;refine .sg w7 (mkH 19 [0,0,2,6,14,0,32,0,224,480,992,0,2048,8160,16352,32766,65535,131071,262143] [14,15,18] [] [0,16384,49152,311296] [0,1,2,3,4]) 0 ?_;refine c147z ?_;refine .p 1 ?_;refine c76z ?_;refine c235z ?_;refine c202z ?_;refine .p 2 ?_;refine .en [true,false,false] [311296,49152,16384,0] [_] ?_;refine c184z ?_;refine .c9 [5,6,10,11,12] ?_;refine c70z ?_;have hmu:((p.funcs.getD j j5).params.getD i fC).mu=true:=by simp_all
    have hs1:lR ((p.funcs.getD j j5).params.take (i+1)) 0 0=lR ((p.funcs.getD j j5).params.take i) 0 0++[⟨((p.funcs.getD j j5).params.getD i fC).name,5,((bU ((p.funcs.getD j j5).params.take i):Nat):Int)⟩]:=by rw[qZ (by omega),pP,hmu];simp
    have hs2:gJ ((p.funcs.getD j j5).params.take (i+1))=gJ ((p.funcs.getD j j5).params.take i)+0:=by rw[qZ (by omega),wV,hmu];rfl
    have hs3:bU ((p.funcs.getD j j5).params.take (i+1))=bU ((p.funcs.getD j j5).params.take i)+1:=by rw[qZ (by omega),uW,hmu];rfl
    exact ⟨_,by omega,.v ⟨(i+1),⟨rfl,by omega⟩,rfl⟩ (he:=t153) (hk:=t91)⟩
   intro e2 qe2;refine .c9 [5,6,10,11,12] ?_;refine .sg w7 (mkH 19 [0,0,2,6,14,0,32,0,224,480,992,0,2048,8160,16352,32766,65535,131071,262143] [14,15,18] [] [0,16384,49152,311296] [0,1,2,3,4]) 0 ?_;refine c147z ?_;refine .p 1 ?_;refine c76z ?_;refine c235z ?_;refine c202z ?_;refine .p 2 ?_;refine .en [true,false,false] [311296,49152,16384,0] [_] ?_;refine c184z ?_;refine .c9 [5,6,10,11,12] ?_;refine c70z ?_;have hmu:((p.funcs.getD j j5).params.getD i fC).mu=false:=by simp_all
   have hs1:lR ((p.funcs.getD j j5).params.take (i+1)) 0 0=lR ((p.funcs.getD j j5).params.take i) 0 0++[⟨((p.funcs.getD j j5).params.getD i fC).name,4,((gJ ((p.funcs.getD j j5).params.take i):Nat):Int)⟩]:=by rw[qZ (by omega),pP,hmu];simp
   have hs2:gJ ((p.funcs.getD j j5).params.take (i+1))=gJ ((p.funcs.getD j j5).params.take i)+1:=by rw[qZ (by omega),wV,hmu];rfl
   have hs3:bU ((p.funcs.getD j j5).params.take (i+1))=bU ((p.funcs.getD j j5).params.take i)+0:=by rw[qZ (by omega),uW,hmu];rfl
   exact ⟨_,by omega,.v ⟨(i+1),⟨rfl,by omega⟩,rfl⟩ (he:=t153) (hk:=t91)⟩
  intro e1 qe1;refine .exit ?_;obtain rfl:i=(p.funcs.getD j j5).params.length:=by omega
  rw[List.take_length]at hLl hne ⊢;rw[←hLl];refine g6.yC (γ:=h.length+3) (β:=h.length+4) (k:=3) (off:=0) (len:=(bK p++lR (p.funcs.getD j j5).params 0 0).length) (cs:=j8 (bK p++lR (p.funcs.getD j j5).params 0 0)) t47 rfl (by simp only[w5];omega) (by rw[List.drop_zero,List.take_of_length_le (by simp only[w5];omega)];exact (qX _).QM) t47 (by omega) rfl ?_;refine c24z ?_;refine .z ?_;refine .c9 [5,6,10,11] ?_;refine g6.bA (h++[⟨0,false,27,3,[.vec p.globals.length (o6 p.globals),.vec p.c6.length (j4 p.c6),.vec p.funcs.length (l8 p.funcs)],0⟩,⟨0,false,122,3,[.str (p.funcs.getD j j5).name,.vec (p.funcs.getD j j5).params.length (p9 (p.funcs.getD j j5).params),.vec (p.funcs.getD j j5).body.len (n8 (p.funcs.getD j j5).body)],0⟩,⟨0,false,108,5,[.str ByteArray.empty,.int .i64 0,.int .i64 0,.int .i64 0,.j9],0⟩,dM ⟨1+(p.funcs.getD j j5).params.length,false,131,3,j8 (bK p++lR (p.funcs.getD j j5).params 0 0),0⟩ (0+(bK p++lR (p.funcs.getD j j5).params 0 0).length*3),aW (h.length+4) (s0F p (p.funcs.getD j j5)),n4 105 12 (s0F p (p.funcs.getD j j5)).code.length (s3 (s0F p (p.funcs.getD j j5)).code),n4 3 1 (s0F p (p.funcs.getD j j5)).sites.length (encI (s0F p (p.funcs.getD j j5)).sites),⟨0,false,108,5,[.str (p.funcs.getD j j5).name,.int .i64 ((gJ (p.funcs.getD j j5).params:Nat):Int),.int .i64 ((bU (p.funcs.getD j j5).params:Nat):Int),.int .i64 0,.j9],0⟩]) (by simp only[s0F,aW,List.length_append,Nat.zero_add];rfl) ?_;generalize dM ⟨1+(p.funcs.getD j j5).params.length,false,131,3,j8 (bK p++lR (p.funcs.getD j j5).params 0 0),0⟩ (0+(bK p++lR (p.funcs.getD j j5).params 0 0).length*3)=Lb;have hni2:=V5 (l:=(p.funcs.getD j j5).params);have hB0:Bnd (s0F p (p.funcs.getD j j5)) (p.funcs.getD j j5).body.wt:=⟨by show 0<(bK p++lR (p.funcs.getD j j5).params 0 0).length;omega,by show (bK p++lR (p.funcs.getD j j5).params 0 0).length+_≤_;omega,by show 0+_≤_;omega,by show 0+_≤_;omega,by show 0≤((gJ (p.funcs.getD j j5).params:Nat):Int);omega,by show ((gJ (p.funcs.getD j j5).params:Nat):Int)+_≤_;omega,Int.le_refl _,by show 0+_≤_;omega⟩;refine c13z ?_;refine .ch rfl rfl (OW (s:=(s0F p (p.funcs.getD j j5))) (by omega) (sc_of hp.toGH hj) hbd.1 (bd_of hp) hB0) ?_;refine .nil ?_;have hc1:=iW (l0:=(s0F p (p.funcs.getD j j5)).l) (s:=(s0F p (p.funcs.getD j j5))) (S:=(p.funcs.getD j j5).body);have hc2:=iP (l0:=(s0F p (p.funcs.getD j j5)).l) (s:=(s0F p (p.funcs.getD j j5))) (S:=(p.funcs.getD j j5).body);change _≤(s1F p (p.funcs.getD j j5)).code.length∧(s1F p (p.funcs.getD j j5)).code.length≤0+_ at hc1;change _≤(s1F p (p.funcs.getD j j5)).sites.length∧(s1F p (p.funcs.getD j j5)).sites.length≤0+_ at hc2;refine g6.bA (h++[⟨0,false,27,3,[.vec p.globals.length (o6 p.globals),.vec p.c6.length (j4 p.c6),.vec p.funcs.length (l8 p.funcs)],0⟩,⟨0,false,122,3,[.str (p.funcs.getD j j5).name,.vec (p.funcs.getD j j5).params.length (p9 (p.funcs.getD j j5).params),.vec (p.funcs.getD j j5).body.len (n8 (p.funcs.getD j j5).body)],0⟩,⟨0,false,108,5,[.str ByteArray.empty,.int .i64 0,.int .i64 0,.int .i64 0,.j9],0⟩,Lb,aW (h.length+4) (s1F p (p.funcs.getD j j5)),n4 105 12 (s1F p (p.funcs.getD j j5)).code.length (s3 (s1F p (p.funcs.getD j j5)).code),n4 3 1 (s1F p (p.funcs.getD j j5)).sites.length (encI (s1F p (p.funcs.getD j j5)).sites),⟨0,false,108,5,[.str (p.funcs.getD j j5).name,.int .i64 ((gJ (p.funcs.getD j j5).params:Nat):Int),.int .i64 ((bU (p.funcs.getD j j5).params:Nat):Int),.int .i64 0,.j9],0⟩]) rfl ?_;refine c108z ?_;refine .ch rfl rfl (c_putF (s:=(s1F p (p.funcs.getD j j5))) (by omega) (by omega) ⟨8,0,false,l4,cL,[],[]⟩ _ (by repeat' (first | exact trivial | exact mB.refl _ | exact .inl rfl | exact .inr ⟨rfl,rfl⟩ | refine ⟨?_,?_⟩))) ?_;refine .nil ?_;refine .c9 [6,10,11,108] ?_;refine g6.bA (h++[⟨0,false,27,3,[.vec p.globals.length (o6 p.globals),.vec p.c6.length (j4 p.c6),.vec p.funcs.length (l8 p.funcs)],0⟩,⟨0,false,122,3,[.str (p.funcs.getD j j5).name,.vec (p.funcs.getD j j5).params.length (p9 (p.funcs.getD j j5).params),.vec (p.funcs.getD j j5).body.len (n8 (p.funcs.getD j j5).body)],0⟩,⟨0,false,108,5,[.str ByteArray.empty,.int .i64 0,.int .i64 0,.int .i64 0,.j9],0⟩,Lb,aW (h.length+4) (s2F p (p.funcs.getD j j5)),n4 105 12 (s2F p (p.funcs.getD j j5)).code.length (s3 (s2F p (p.funcs.getD j j5)).code),n4 3 1 (s2F p (p.funcs.getD j j5)).sites.length (encI (s2F p (p.funcs.getD j j5)).sites),⟨0,false,108,5,[.str (p.funcs.getD j j5).name,.int .i64 ((gJ (p.funcs.getD j j5).params:Nat):Int),.int .i64 ((bU (p.funcs.getD j j5).params:Nat):Int),.int .i64 0,.j9],0⟩]) rfl ?_;refine g6.mK (γ:=h.length+5) (β:=h.length+4) (k:=8) (len:=(s2F p (p.funcs.getD j j5)).code.length) t47 (by rw[u5];omega) (by omega) (RT _) t47 (by omega) rfl ?_;simp only[zI,uS,uT,zJ,zK,qV,List.append_assoc,List.cons_append,List.nil_append,v5,u4,List.set_cons_succ,List.set_cons_zero,List.length_append,List.length_cons,List.length_nil,Nat.reduceAdd,Nat.zero_add];generalize eI 105 12 (s2F p (p.funcs.getD j j5)).code.length (s3 (s2F p (p.funcs.getD j j5)).code) ((s2F p (p.funcs.getD j j5)).code.length*12)=Cb;refine g6.mK (γ:=h.length+6) (β:=h.length+4) (k:=9) (len:=(s2F p (p.funcs.getD j j5)).sites.length) t47 (by rw[l7];omega) (by omega) (pK _) t47 (by omega) rfl ?_;simp only[List.append_assoc,List.cons_append,List.nil_append,v5,u4,List.set_cons_succ,List.set_cons_zero,List.length_append,List.length_cons,List.length_nil,Nat.reduceAdd,Nat.zero_add];generalize eI 3 1 (s2F p (p.funcs.getD j j5)).sites.length (encI (s2F p (p.funcs.getD j j5)).sites) ((s2F p (p.funcs.getD j j5)).sites.length*1)=Sb;refine .sg w7 (mkH 12 [0,1,3,7,0,16,48,112,15,271,1023,2047] [9,11] [] [0,512,2560] [4,5,6,7]) 0 ?_;refine .p 3 ?_;refine c76z ?_;refine .rm [true] ?_;refine .p 1 ?_;refine .en [true] [512,0] [_] ?_;refine .p 1 ?_;refine .en [true,false] [2560,512,0] [_] ?_;refine c166z ?_;refine .c9 [6,10,11,108] ?_;refine .sg w7 (mkH 17 [0,0,2,6,14,0,32,96,224,0,512,1536,3584,1,8223,25087,65535] [13] [] [0,8192] [1,2,3,4,5,6,7,8,9,10,11,12]) 0 ?_;refine c76z ?_;refine .rm [true] ?_;refine c206z ?_;refine c206z ?_;refine .en [true] [8192,0] [_] ?_;refine .p 3 ?_;refine .po [true,true] ?_;refine .po [true,true] ?_;refine .po [true,true] ?_;refine aC.nil rfl ?_;exact .ret (.ex (hq:=by rfl))
end
theorem plnMx (l:List Mx):z4 (j4 l):=z4.flat fun _=>z4.cons .str (z4.cons .bool (z4.cons .int .nil))
theorem plnPr (l:List Pr):z4 (r7 l):=z4.flat fun _=>z4.cons .str (z4.cons .int (z4.cons .int (z4.cons .int (z4.cons .vec .nil))))
theorem N7 {l:List Pr}{x:Pr}:r7 (l++[x])=r7 l++tX x:=by simp[r7]
theorem AY {l:List Gl}(h:i<l.length):List.take 1 (List.drop (i*2+1) (o6 l))=[.int .i64 (l.getD i lQ).init]:=A6 K6 2 1 (fun _=>rfl) (by omega) lQ h
theorem app_cpM {l:c8}{ms:List Mx}(hz:ms.length=n)(h0:0<n)(hn:n<1000):g8 cfg 115 (h++(b0::b1::b2::⟨1,false,115,3,[],0⟩::l)) (.own (h.length+3) 1 0 0) (.vec n (j4 ms))=some (.own (h.length+3) 2 0 n,h++(b0::b1::b2::⟨2,false,115,3,j4 ms,0⟩::l)):=by
  subst hz;have e1:cfg.sz 115=3:=rfl;have e2:(cfg.ti 115).bytes=32:=rfl;have hm:ms.length≤maxLen:=by
    have:(1000:Nat)≤maxLen:=by decide
    omega
  have hb:ms.length*32≤140737488355328:=by omega
  have h1:(j4 ms).length=ms.length*3:=by rw[n7];omega
  have h2:¬ms.length=0:=by omega
  have h3:¬ms.length*3=0:=by omega
  simp[g8,rd,lenOf,e1,e2,h1,hm,hb,v5,u4,h0,h2,h3]
theorem app_gi {l:c8}{is:List Int}{x:Int}(hn:is.length=n)(hl:n<100000):g8 cfg 3 (h++(b0::b1::b2::b3::b4::n4 3 1 g (encI is)::⟨0,false,3,1,[.int .i64 x],0⟩::l)) (.own (h.length+5) g 0 n) (.own (h.length+6) 0 0 1)=some (.own (h.length+5) (g+1) 0 (n+1),h++(b0::b1::b2::b3::b4::n4 3 1 (g+1) (encI (is++[x]))::⟨0,false,3,1,[.int .i64 x],0⟩::l)):=by subst hn;rw[s9 (C:=cfg) (K:=1) (m:=1) (new:=[.int .i64 x]) (zs:=encI is) t47 rfl (by omega) (by rw[l7,Nat.mul_one]) rfl (by omega) t190 rfl (by decide) (by omega),←pL,u4];rfl
theorem app_pr {b5 b7:Blk}{l:c8}{ps:List Pr}{x:Pr}(hn:ps.length=n)(hl:n<100000):g8 cfg 108 (h++(b0::b1::b2::b3::b4::b5::n4 108 5 g (r7 ps)::b7::⟨0,false,108,5,tX x,0⟩::l)) (.own (h.length+6) g 0 n) (.own (h.length+8) 0 0 1)=some (.own (h.length+6) (g+1) 0 (n+1),h++(b0::b1::b2::b3::b4::b5::n4 108 5 (g+1) (r7 (ps++[x]))::b7::⟨0,false,108,5,tX x,0⟩::l)):=by subst hn;rw[s9 (C:=cfg) (K:=5) (m:=1) (new:=tX x) (zs:=r7 ps) t47 rfl (by omega) (by rw[z7,Nat.mul_comm]) rfl (by omega) (by simp[rd,v5,tX]) rfl (by decide) (by omega),←N7,u4];rfl
theorem OY {l:List Fu}(h:0<l.length):List.take 1 (List.drop 1 (l8 l))=[AV.vec (l.getD 0 j5).params.length (p9 (l.getD 0 j5).params)]:=nJ (i:=0) h
theorem GY (hp:GP p):cD (bK p) ⟨#[109,97,105,110]⟩=some ⟨⟨#[109,97,105,110]⟩,3,0⟩:=by have hf:=hp.fl.1;have hn:(p.funcs.getD 0 j5).name=⟨#[109,97,105,110]⟩:=(hp.fn 0 (by omega)).1;have:=qP (wU hp) (e:=⟨(p.funcs.getD 0 j5).name,3,((0:Nat):Int)⟩) (List.mem_append.2 (.inr (List.mem_append.2 (.inr (List.mem_map.2 ⟨0,List.mem_range.2 (by omega),rfl⟩)))));rw[hn]at this;exact this
theorem taken {α:Type}{l:List α}{d:α}(h:i<l.length):l.take (i+1)=l.take i++[l.getD i d]:=by rw[List.take_add_one];simp[List.getD,h]
theorem GZ {x:Pr}:(tX x).length=5:=rfl
theorem takePr {x:Pr}:List.take 5 (tX x)=tX x:=rfl
section
attribute [local go_sem] app_cpM app_gi app_pr nJ OY AY mL GZ takePr
theorem HA (hp:GP p):CB 26 [.agg [.vec p.globals.length (o6 p.globals),.vec p.c6.length (j4 p.c6),.vec p.funcs.length (l8 p.funcs)]] h (.tup [.agg (encUn (dH p)),.int .i64 0,.int .i64 0,.int .i64 0]):=by
  refine .bz Tryz.f26 112 ?_;have hdl:=pO (p:=p);have hgl:=hp.gl;have hml:=hp.ml;have hfl:=hp.fl;have hmain:=GY hp;have hz0:(p.funcs.getD 0 j5).params.length=0:=by rw[(hp.fn 0 (by omega)).2.1 rfl];rfl
  refine c20z ?_;refine c159z ?_;refine .ca rfl rfl (c_valid hp) ?_;refine .n ?_;refine c22z ?_;refine c159z ?_;refine .ca rfl rfl (c_decl hp) ?_;refine c55z ?_;refine .c9 [1,2,6,7] ?_;refine c14z ?_;refine .sk ?_;refine c159z ?_;refine .ca rfl rfl (N2 hmain (by omega)) ?_;refine c55z ?_;refine .s ?_;refine .k 8 [(2,37)] ?_;refine .k 8 [(7,42)] ?_;refine .m [(7,42)] ?_;refine uFbz ?_;intro e1 qe1;refine .sk ?_;refine .c9 [1,2,6,8,30] ?_;refine .sg w7 (mkH 9 [0,1,0,0,8,28,63,0,255] [2,5,7,8] [(2,0),(7,1)] [0,4,36,128,132,164,420] [0,1,2,3,4,5,6]) 2 ?_;refine c38z ?_;refine .em [true] [4,0] [_] ?_;refine .p 1 ?_;refine .rm [true,true] ?_;refine .em [true,false] [36,4,0] [_] ?_;refine .p 1 ?_;refine .en [true,true,true] [164,132,128,36,4,0] [_,_,_] ?_;refine .en [true,false,false,false,false,false] [420,164,132,128,36,4,0] [_] ?_;refine .po [false,false,true,false,false,true,false] ?_;refine .po [false,false,true,true,false,true,true] ?_;refine .po [false,false,false,true,false,false,true] ?_;refine .po [false,true,true,true,true,true,true] ?_;refine aC.nil rfl ?_;refine .seq ?_;refine .c9 [1,2,6,10,30] ?_;refine c36z ?_;refine g6.jU (β:=h.length+4) (k:=0) t47 rfl ?_;simp only[List.append_assoc,List.cons_append,List.nil_append,v5,u4,List.set_cons_succ,List.set_cons_zero,List.length_append,List.length_cons,List.length_nil,Nat.reduceAdd,Nat.zero_add];refine .aD (fun m st=>∃(i:Nat),(m=p.globals.length-i∧i≤p.globals.length)∧st=⟨mkS 112 [(1,AV.ptr h.length 0 0),(2,AV.ptr (h.length+1) 0 0),(6,AV.vec (bK p).length (j8 (bK p))),(10,AV.ptr (h.length+4) 1 0),(11,AV.int .i64 ((i:Nat):Int))],h++[⟨0,false,27,3,[.vec p.globals.length (o6 p.globals),.vec p.c6.length (j4 p.c6),.vec p.funcs.length (l8 p.funcs)],0⟩,⟨0,false,30,4,[.j9,.j9,.j9,.int .i64 0],0⟩,⟨0,false,131,3,[.str ⟨#[109,97,105,110]⟩,.int .i64 3,.int .i64 0],0⟩,⟨2,false,115,3,j4 p.c6,0⟩,⟨1,false,30,4,[.own (h.length+5) i 0 i,.own (h.length+3) 2 0 p.c6.length,.j9,.int .i64 0],0⟩,n4 3 1 i (encI ((dH p).globals.take i))]⟩) (.v ⟨0,⟨rfl,by omega⟩,rfl⟩) ?_;rintro m sl h' ⟨i,⟨hm,hi⟩,hst⟩;obtain ⟨rfl,rfl⟩:=St.mk.inj hst;clear hst;have htl:((dH p).globals.take i).length=i:=by simp[dH];omega
  refine c0z ?_;refine u2z ?_ ?_
  ·intro e2 qe2;refine c5z ?_;refine .og w7 (mkH 12 [0,1,0,4,0,28,60,124,252,511,1023,2047] [8,9,11] [] [0,256,768,2816] [0,1]) 0 ?_;refine c38z ?_;refine .p 1 ?_;refine c76z ?_;refine .rn [true] ?_;refine .en [true] [256,0] [_] ?_;refine .en [true,false] [768,256,0] [_] ?_;refine .p 1 ?_;refine .en [true,false,false] [2816,768,256,0] [_] ?_;refine c307z ?_;refine .c9 [1,2,6,10,11] ?_;refine .rz ?_;exact ⟨_,by omega,.v ⟨(i+1),⟨rfl,by omega⟩,rfl⟩ (he:=by (rw[taken (d:=0) (l:=(dH p).globals) (by simp[dH];omega),show (dH p).globals.getD i 0=(p.globals.getD i lQ).init from getD_map (by omega)];simp only[List.append_assoc,List.cons_append,List.nil_append];rfl)) (hk:=by exact (z5.refl _).app rfl ⟨.inl rfl,.inl rfl,.inl rfl,.inl rfl,.inr (dP.get ⟨.own _ _ _ _ (by simp),.own _ _ _ _ (by simp),.j9,.int _ _,trivial⟩),.inr t219,trivial⟩)⟩
  intro e2 qe2;refine .exit ?_;obtain rfl:i=p.globals.length:=by omega
  change g6 ..;refine c6z ?_;refine g6.jU (β:=h.length+4) (k:=2) t47 rfl ?_;simp only[List.append_assoc,List.cons_append,List.nil_append,v5,u4,List.set_cons_succ,List.set_cons_zero,List.length_append,List.length_cons,List.length_nil,Nat.reduceAdd,Nat.zero_add];refine .aD (fun m st=>∃(i:Nat),(m=p.funcs.length-i∧i≤p.funcs.length)∧st=⟨mkS 112 [(1,AV.ptr h.length 0 0),(2,AV.ptr (h.length+1) 0 0),(6,AV.vec (bK p).length (j8 (bK p))),(10,AV.ptr (h.length+4) 1 0),(12,AV.int .i64 ((i:Nat):Int))],h++[⟨0,false,27,3,[.vec p.globals.length (o6 p.globals),.vec p.c6.length (j4 p.c6),.vec p.funcs.length (l8 p.funcs)],0⟩,⟨0,false,30,4,[.j9,.j9,.j9,.int .i64 0],0⟩,⟨0,false,131,3,[.str ⟨#[109,97,105,110]⟩,.int .i64 3,.int .i64 0],0⟩,⟨2,false,115,3,j4 p.c6,0⟩,⟨1,false,30,4,[.own (h.length+5) p.globals.length 0 p.globals.length,.own (h.length+3) 2 0 p.c6.length,.own (h.length+6) i 0 i,.int .i64 0],0⟩,n4 3 1 p.globals.length (encI ((dH p).globals.take p.globals.length)),n4 108 5 i (r7 ((dH p).procs.take i))]⟩) (.v ⟨0,⟨rfl,by omega⟩,rfl⟩) ?_;rintro m sl h' ⟨i,⟨hm,hi⟩,hst⟩;obtain ⟨rfl,rfl⟩:=St.mk.inj hst;clear hst;have htl:((dH p).procs.take i).length=i:=by simp[dH];omega
  refine c0z ?_;refine u2z ?_ ?_
  ·intro e3 qe3;refine c5z ?_;refine .sg w7 (mkH 18 [0,0,0,4,0,28,60,127,255,511,511,511,511,0,9215,26623,61439,131071] [13,14] [] [0,8192,24576] [0,1,2,3,4,5,6,7,8,9,10,11,12]) 0 ?_;refine .rm [true] ?_;refine c175z ?_;refine c175z ?_;refine .cl rfl rfl (fun _=>c_func hp (by omega)) ?_;refine .p 5 ?_;refine .en [true] [8192,0] [_] ?_;refine .en [true,false] [24576,8192,0] [_] ?_;refine .p 3 ?_;refine c35z ?_;refine c166z ?_;refine .seq ?_;refine .c9 [1,2,6,10,12,13,15,16] ?_;refine c14z ?_;refine .sk ?_;refine c1z ?_;refine .c9 [1,2,6,10,12] ?_;refine .rz ?_;exact ⟨_,by omega,.v ⟨(i+1),⟨rfl,by omega⟩,rfl⟩ (he:=by (rw[taken (d:=pC) (l:=(dH p).procs) (by simp[dH];omega),show (dH p).procs.getD i pC=nM p (p.funcs.getD i j5) from getD_map (by omega)];simp only[List.append_assoc,List.cons_append,List.nil_append];rfl)) (hk:=by exact (z5.refl _).app rfl ⟨.inl rfl,.inl rfl,.inl rfl,.inl rfl,.inr (dP.get ⟨.own _ _ _ _ (by simp),.own _ _ _ _ (by simp),.own _ _ _ _ (by simp),.int _ _,trivial⟩),.inl rfl,.inr (by rw[o5];exact (plnPr _).refs _),trivial⟩)⟩
  intro e3 qe3;refine .exit ?_;obtain rfl:i=p.funcs.length:=by omega
  have hgt:(dH p).globals.take p.globals.length=(dH p).globals:=List.take_of_length_le (by simp[dH]);have hpt:(dH p).procs.take p.funcs.length=(dH p).procs:=List.take_of_length_le (by simp[dH]);rw[hgt,hpt];have hgl2:(dH p).globals.length=p.globals.length:=by simp[dH]
  have hpl2:(dH p).procs.length=p.funcs.length:=by simp[dH]
  refine g6.mK (γ:=h.length+5) (β:=h.length+4) (k:=0) (len:=p.globals.length) t47 (by rw[l7,hgl2,Nat.mul_one]) (by omega) (pK _) t47 (by omega) rfl ?_;simp only[List.append_assoc,List.cons_append,List.nil_append,v5,u4,List.set_cons_succ,List.set_cons_zero,List.length_append,List.length_cons,List.length_nil,Nat.reduceAdd,Nat.zero_add];generalize eI 3 1 p.globals.length (encI (dH p).globals) (p.globals.length*1)=Gb;refine g6.mK (γ:=h.length+6) (β:=h.length+4) (k:=2) (len:=p.funcs.length) t47 (by rw[z7,hpl2,Nat.mul_comm]) (by omega) (plnPr _) t47 (by omega) rfl ?_;simp only[List.append_assoc,List.cons_append,List.nil_append,v5,u4,List.set_cons_succ,List.set_cons_zero,List.length_append,List.length_cons,List.length_nil,Nat.reduceAdd,Nat.zero_add];generalize eI 108 5 p.funcs.length (r7 (dH p).procs) (p.funcs.length*5)=Pb;refine g6.yC (γ:=h.length+3) (β:=h.length+4) (k:=1) (off:=0) (len:=p.c6.length) (cs:=j4 p.c6) t47 rfl (by simp only[n7];omega) (by rw[List.drop_zero,List.take_of_length_le (by simp only[n7];omega)];exact (plnMx _).QM) t47 (by omega) rfl ?_;refine c24z ?_;refine .c9 [2,10] ?_;refine .z ?_;exact .ret (.ex (hq:=by (simp only[encUn,hgl2,hpl2];rfl)))
end
end Go.Proofs.YtapdldekgbbomaaGreatDoor
end
section
namespace Go.Proofs.YtapdldekgbbomaaGreatDoor
open Go.Ab Go.Un
variable {a b:List Int}{i:Nat}
theorem ne_at (h:a.getD i 0≠b.getD i 0):¬a=b:=fun e=>h (by rw[e])
theorem eq_all (hl:a.length=b.length)(h:∀d,d<a.length→a.getD d 0=b.getD d 0):a=b:=by refine List.ext_getElem hl fun i h1 h2=>?_;have:=h i h1;simpa [List.getD,h1,h2] using this
theorem all_nx (h:∀d,d<i→a.getD d 0=b.getD d 0)(e:a.getD i 0=b.getD i 0):∀d,d<i+1→a.getD d 0=b.getD d 0:=fun d hd=>by
  by_cases hdi:d=i
  · rw[hdi];exact e
  · exact h d (by omega)
variable {l:List Int}{n:Int}
theorem no_nx (h:∀d,d<i→l.getD d 0≠n)(e:l.getD i 0≠n):∀d,d<i+1→l.getD d 0≠n:=fun d hd=>by
  by_cases hdi:d=i
  · rw[hdi];exact e
  · exact h d (by omega)
theorem no_mem (h:∀d,d<l.length→l.getD d 0≠n):¬n∈l:=fun hm=>by obtain ⟨i,hi,rfl⟩:=cM (d:=(0:Int)) hm;exact h i hi rfl
theorem take_I {k:Nat}:List.take k (encI l)=encI (l.take k):=by simp[encI,List.map_take]
theorem dropt_I {k:Nat}:List.take (l.length-k) (List.drop k (encI l))=encI (l.drop k):=by rw[encI,←List.map_drop,List.take_of_length_le (by simp)];rfl
theorem eY (h:i<l.length):List.take 1 (List.drop i (encI l))=[.int .i64 (l.getD i 0)]:=by
  have h2:i<(encI l).length:=by rw[l7];exact h
  rw[List.drop_eq_getElem_cons h2];simp[encI,List.getD,h]
def gW (g n:Nat):Nat:=if n=0 then g else g+1
def kW (l:List Int)(n:Int):Nat:=(l.takeWhile fun x=>decide (x<n)).length
def kA (l:List Int)(n:Int):List Int:=if n∈l then l else l.take (kW l n)++n::l.drop (kW l n)
theorem kW_at:∀{k:Nat},k≤l.length→(∀d,d<k→l.getD d 0<n)→(k<l.length→¬l.getD k 0<n)→k=kW l n:=by
  induction l with
  | nil=>intro k hk _ _;simp at hk;subst hk;rfl
  | cons x l ih=>
    intro k hk h1 h2;cases k with
    | zero=>
      have:=h2 (by simp);simp only[List.getD_cons_zero]at this;simp[kW,List.takeWhile,this]
    | succ k=>
      have h0:=h1 0 (by omega);simp only[List.getD_cons_zero]at h0;have:=ih (k:=k) (by simpa using hk) (fun d hd=>by have:=h1 (d+1) (by omega);simpa using this) (fun hl=>by have:=h2 (by simpa using hl);simpa using this);rw[kW,List.takeWhile_cons_of_pos (by simpa using h0),List.length_cons,this];rfl
theorem lt_nx (h:∀d,d<i→l.getD d 0<n)(e:l.getD i 0<n):∀d,d<i+1→l.getD d 0<n:=fun d hd=>by
  by_cases hdi:d=i
  · rw[hdi];exact e
  · exact h d (by omega)
variable {h:c8}{g:Nat}
theorem app_w {l:c8}{n m:Nat}(ha:a.length=n)(hb:b.length=m)(hn:n<150000)(hm:m<100000):g8 cfg 3 (h++(⟨g,false,3,1,encI a,0⟩::l)) (.own h.length g 0 n) (.vec m (encI b))=some (.own h.length (gW g m) 0 (n+m),h++(⟨gW g m,false,3,1,encI (a++b),0⟩::l)):=by
  subst ha hb;have e1:cfg.sz 3=1:=rfl;have e2:(cfg.ti 3).bytes=8:=rfl;have h1:a.length+b.length≤maxLen:=by
    have:(300000:Nat)≤maxLen:=by decide
    omega
  have h2:(a.length+b.length)*8≤140737488355328:=by omega
  have ht:List.take a.length (encI a)=encI a:=List.take_of_length_le t228;have hs:encI (a++b)=encI a++encI b:=by simp[encI]
  cases b with
  | nil=>
    simp only[List.length_nil,Nat.add_zero]at h1 h2;simp[g8,rd,lenOf,e1,e2,gW,hs,encI,h1,h2]
  | cons x b=>
    simp only[List.length_cons]at h1 h2;have h3:¬a.length+(b.length+1)≤a.length:=by omega
    simp[g8,rd,lenOf,e1,e2,l7,h1,h2,ht,h3,gW,hs,eL,kR]
theorem app_w0 {l:c8}{m:Nat}(hb:b.length=m)(hm:m<100000):g8 cfg 3 (h++(⟨g,false,3,1,[],0⟩::l)) (.own h.length g 0 0) (.vec m (encI b))=some (.own h.length (gW g m) 0 m,h++(⟨gW g m,false,3,1,encI b,0⟩::l)):=by have:=app_w (h:=h) (l:=l) (a:=[]) (b:=b) (g:=g) (n:=0) rfl hb (by omega) hm;rw[Nat.zero_add]at this;exact this
theorem app_w1 {l:c8}{x:Int}{n:Nat}(ha:a.length=n)(hn:n<100000):g8 cfg 3 (h++(⟨g,false,3,1,encI a,0⟩::⟨1,false,3,1,[.int .i64 x],0⟩::l)) (.own h.length g 0 n) (.own (h.length+1) 1 0 1)=some (.own h.length (g+1) 0 (n+1),h++(⟨g+1,false,3,1,encI (a++[x]),0⟩::⟨1,false,3,1,[.int .i64 x],0⟩::l)):=by
  subst ha;have e1:cfg.sz 3=1:=rfl;have e2:(cfg.ti 3).bytes=8:=rfl;have h1:a.length+1≤maxLen:=by
    have:(200000:Nat)≤maxLen:=by decide
    omega
  have h2:(a.length+1)*8≤140737488355328:=by omega
  have ht:List.take a.length (encI a)=encI a:=List.take_of_length_le t228;have hs:encI (a++[x])=encI a++[.int .i64 x]:=pL;have h3:¬a.length+1≤a.length:=by omega
  simp[g8,rd,lenOf,e1,e2,l7,h1,h2,ht,h3,hs,v5,eL,kR]
theorem frz_I {n d:Nat}{H:c8}:r6 (kN n H (d+1)) (encI l)=some (encI l):=(pK l).frz _ _ _
theorem AZ {n β len:Nat}{H:c8}(hb:H[β]?=some ⟨g,false,3,1,encI a,0⟩)(hn:n≤β)(hl:a.length=len):iT n H 6 (.own β g 0 len)=some (.vec len (encI a)):=by subst hl;rw[dV,if_neg (by omega),jK,hb];simp only[hn,and_self,if_true,Bool.false_eq_true,if_false,Nat.zero_add,Nat.mul_one,l7,Nat.le_refl,List.drop_zero];rw[List.take_of_length_le t228,frz_I]
def fI:List aS→aS→Int
  | [],_ => -1
  | a::l,x=>if a=x then 0 else if fI l x<0 then -1 else fI l x+1
theorem fI_at:∀{l:List aS} {x:aS} {i:Nat},i<l.length→(∀d,d<i→l.getD d j7≠x)→l.getD i j7=x→fI l x=i
  | [],x,i,h,_,_=>by simp at h
  | a::l,x,0,_,_,h=>by simp only[List.getD_cons_zero]at h;rw[fI,if_pos h];rfl
  | a::l,x,i+1,hi,h1,h2=>by have h0:=h1 0 (by omega);simp only[List.getD_cons_zero]at h0;have ih:=fI_at (l:=l) (x:=x) (i:=i) (by simpa using hi) (fun d hd=>by have:=h1 (d+1) (by omega);simpa using this) (by simpa using h2);rw[fI,if_neg h0,ih,if_neg (by omega)];omega
theorem XD:∀{l:List aS} {x:aS},(∀d,d<l.length→l.getD d j7≠x)→fI l x = -1
  | [],x,_=>rfl
  | a::l,x,h=>by have h0:=h 0 (by simp);simp only[List.getD_cons_zero]at h0;have ih:=XD (l:=l) (x:=x) (fun d hd=>by have:=h (d+1) (by simpa using hd);simpa using this);rw[fI,if_neg h0,ih,if_pos (by omega)]
theorem V6:∀{l:List aS} {x:aS},x∈l→0≤fI l x∧fI l x<l.length∧l.getD (fI l x).toNat j7=x
  | [],x,h=>by simp at h
  | a::l,x,h=>by
    by_cases hx:a=x
    · rw[fI,if_pos hx];simp[hx]
    · have ih:=V6 (l:=l) (x:=x) (by simpa [Ne.symm hx] using h)
      rw[fI,if_neg hx,if_neg (by omega)];refine ⟨by omega,t74,?_⟩;rw[show (fI l x+1).toNat=(fI l x).toNat+1 from by omega];simpa using ih.2.2
variable {x:aS}
theorem fI_not {l:List aS}(h:x∉l):fI l x = -1:=XD fun d hd e=>h (e▸l6 hd)
theorem it_ne {l:List aS}(h:∀d,d<i→l.getD d j7≠x)(e:l.getD i j7≠x):∀d,d<i+1→l.getD d j7≠x:=fun d hd=>by
  by_cases hdi:d=i
  · rw[hdi];exact e
  · exact h d (by omega)
theorem it_ne1 {l:List aS}(h:¬(l.getD i j7).proc=x.proc):l.getD i j7≠x:=fun e=>h (by rw[e])
theorem it_ne2 {l:List aS}(h:¬(l.getD i j7).n6=x.n6):l.getD i j7≠x:=fun e=>h (by rw[e])
theorem cP {l:List aS}(h:i<l.length):List.take 1 (List.drop (i*2) (v8 l))=[.int .i64 (l.getD i j7).proc]:=A6 AG 2 0 (fun _=>rfl) (by omega) j7 h
theorem V7 {l:List aS}(h:i<l.length):List.take 1 (List.drop (i*2+1) (v8 l))=[.vec (l.getD i j7).n6.length (encI (l.getD i j7).n6)]:=A6 AG 2 1 (fun _=>rfl) (by omega) j7 h
theorem cQ {l:List aS}(h:i<l.length):List.take 2 (List.drop (i*2) (v8 l))=[.int .i64 (l.getD i j7).proc,.vec (l.getD i j7).n6.length (encI (l.getD i j7).n6)]:=read_it h
variable {u:Un}{it:aS}
theorem bG (h:it.proc.toNat<u.procs.length):List.take 1 (List.drop (it.proc.toNat*5+4) (r7 u.procs))=[.vec (g9 u it).length (s3 (g9 u it))]:=A6 tX 5 4 (fun _=>rfl) (by omega) pC h
theorem dW {l:List Ins}(h:i<l.length):List.take 1 (List.drop (i*12) (s3 l))=[.int .i64 (l.getD i l5).op]:=by rw[show i*12=i*12+0 from rfl,s3,A6 eS 12 0 bN (by omega) l5 h,lI];rfl
theorem OZ {l:List Ins}(h:i<l.length):List.take 1 (List.drop (i*12+1) (s3 l))=[.int .i64 (l.getD i l5).target]:=by rw[s3,A6 eS 12 1 bN (by omega) l5 h,lI];rfl
theorem PA {l:List Ins}(h:i<l.length):List.take 1 (List.drop (i*12+11) (s3 l))=[.vec (l.getD i l5).places.length (dY (l.getD i l5).places)]:=by rw[s3,A6 eS 12 11 bN (by omega) l5 h,lI];rfl
theorem PB {l:List Pl}(h:i<l.length):List.take 3 (List.drop (i*3) (dY l))=[.bool (l.getD i cL).param,.int .i64 (l.getD i cL).index,.vec (l.getD i cL).at'.length (n9 (l.getD i cL).at')]:=read_pl h
theorem app_lk {b0 b1 b2 b3:Blk}{l:c8}{is:List Int}{x:Int}{n:Nat}(hn:is.length=n)(hl:n<100000):g8 cfg 3 (h++(b0::b1::b2::b3::n4 3 1 g (encI is)::⟨0,false,3,1,[.int .i64 x],0⟩::l)) (.own (h.length+4) g 0 n) (.own (h.length+5) 0 0 1)=some (.own (h.length+4) (g+1) 0 (n+1),h++(b0::b1::b2::b3::n4 3 1 (g+1) (encI (is++[x]))::⟨0,false,3,1,[.int .i64 x],0⟩::l)):=by subst hn;rw[s9 (C:=cfg) (K:=1) (m:=1) (new:=[.int .i64 x]) (zs:=encI is) t47 rfl (by omega) (by rw[l7,Nat.mul_one]) rfl (by omega) t190 rfl (by decide) (by omega),←pL,u4];rfl
attribute [local go_sem] rd w5 o8 bY cR u5 bN gG cS n7 aJ w9 l7 aM Int.natCast_nonneg Int.natCast_inj List.length_map wrap64 eT jO jP I6 vZ A5 I7 nH max2 fG dL cA Nat.reduceMul nG kH iU uR eY app_w app_w0 app_w1 Nat.sub_zero Option.bind_eq_bind take_I dropt_I cP V7 cQ bG dW OZ PA PB app_lk u6 z7
theorem c_same (a b:List Int)(hl:a.length<1000000):CB 73 [.vec a.length (encI a),.vec b.length (encI b)] h (.bool (decide (a=b))):=by
  refine .bz Tryz.f73 26 ?_;refine c82z ?_;refine u2z ?_ ?_
  ·intro e1 qe1;refine c203z ?_;exact ⟨[],_,(List.append_nil _).symm,t66,t70⟩
  intro e1 qe1;refine .sk ?_;refine c6z ?_;refine .jE (fun m st=>∃(i:Nat),(m=a.length-i∧((∀d,d<i→a.getD d 0=b.getD d 0)∧i≤a.length))∧st=⟨mkS 26 [(0,AV.vec a.length (encI a)),(1,AV.vec b.length (encI b)),(5,AV.int .i64 ((i:Nat):Int))],h⟩) _ (.v ⟨0,⟨rfl,⟨t104,by omega⟩⟩,rfl⟩) ?_;rintro m sl h' ⟨i,⟨hm,⟨hI,hi⟩⟩,hst⟩;obtain ⟨rfl,rfl⟩:=St.mk.inj hst;refine c0z ?_;refine u2z ?_ ?_
  ·intro e2 qe2;refine c5z ?_;refine c220z ?_;refine u2z ?_ ?_
   ·intro e3 qe3;refine c203z ?_;exact ⟨[],_,(List.append_nil _).symm,t66,t70⟩
   intro e3 qe3;refine c293z ?_;exact ⟨_,by omega,.v ⟨(i+1),⟨rfl,⟨all_nx hI (by omega),by omega⟩⟩,rfl⟩⟩
  intro e2 qe2;refine c163z ?_;exact ⟨[],_,(List.append_nil _).symm,t66,t70⟩
theorem RV (l:List Int)(n:Int)(hl:l.length<1000000):CB 74 [.vec l.length (encI l),.int .i64 n] h (.bool (decide (n∈l))):=by
  refine .bz Tryz.f74 18 ?_;refine c25z ?_;refine .jE (fun m st=>∃(i:Nat),(m=l.length-i∧((∀d,d<i→l.getD d 0≠n)∧i≤l.length))∧st=⟨mkS 18 [(0,AV.vec l.length (encI l)),(1,AV.int .i64 n),(5,AV.int .i64 ((i:Nat):Int))],h⟩) _ (.v ⟨0,⟨rfl,⟨t104,by omega⟩⟩,rfl⟩) ?_;rintro m sl h' ⟨i,⟨hm,⟨hI,hi⟩⟩,hst⟩;obtain ⟨rfl,rfl⟩:=St.mk.inj hst;refine c0z ?_;refine u2z ?_ ?_
  ·intro e1 qe1;refine c177z ?_;refine u2z ?_ ?_
   ·intro e2 qe2;refine c203z ?_;exact ⟨[],_,(List.append_nil _).symm,t66,t126⟩
   intro e2 qe2;refine c293z ?_;exact ⟨_,by omega,.v ⟨(i+1),⟨rfl,⟨no_nx hI (by omega),by omega⟩⟩,rfl⟩⟩
  intro e1 qe1;refine c163z ?_;exact ⟨[],_,(List.append_nil _).symm,t66,t126⟩
theorem c_hasY (hm:n∈l)(hl:l.length<1000000):CB 74 [.vec l.length (encI l),.int .i64 n] h (.bool true):=by have:=RV (h:=h) l n hl;rw[decide_eq_true hm]at this;exact this
theorem c_hasN (hm:n∉l)(hl:l.length<1000000):CB 74 [.vec l.length (encI l),.int .i64 n] h (.bool false):=by have:=RV (h:=h) l n hl;rw[decide_eq_false hm]at this;exact this
theorem c_withY (l:List Int)(n:Int)(hl:l.length<100000)(hmem:n∈l):CB 52 [.vec l.length (encI l),.int .i64 n] h (.vec (kA l n).length (encI (kA l n))):=by refine .bz Tryz.f52 36 ?_;refine c20z ?_;refine c45z ?_;refine .ca rfl rfl (c_hasY hmem (by omega)) ?_;refine .nil ?_;refine .T ?_;refine .z ?_;exact .ret (.ex (hq:=by (rw[kA,if_pos hmem])))
theorem c_withN (l:List Int)(n:Int)(hl:l.length<100000)(hmem:n∉l):CB 52 [.vec l.length (encI l),.int .i64 n] h (.vec (kA l n).length (encI (kA l n))):=by
  refine .bz Tryz.f52 36 ?_;refine c20z ?_;refine c45z ?_;refine .ca rfl rfl (c_hasN hmem (by omega)) ?_;refine .nil ?_;refine c180z ?_;refine .sb ?_;refine .jE (fun m st=>∃(i:Nat),(m=l.length-i∧((∀d,d<i→l.getD d 0<n)∧i≤l.length))∧st=⟨mkS 36 [(0,AV.vec l.length (encI l)),(1,AV.int .i64 n),(5,AV.int .i64 ((i:Nat):Int))],h⟩) _ (.v ⟨0,⟨rfl,⟨t104,by omega⟩⟩,rfl⟩) ?_;rintro m sl h' ⟨i,⟨hm,⟨hI,hi⟩⟩,hst⟩;obtain ⟨rfl,rfl⟩:=St.mk.inj hst;refine .seq ?_;refine c40z ?_;refine .spl 14 rfl rfl (fun e1=>?_) (fun e1=>?_)
  ·try simp only[e1]
   have qe1:=fact e1;refine .m [(4,14)] ?_;refine u2z ?_ ?_
   ·intro e2 qe2;refine .sk ?_;refine .block ?_;refine c169z ?_;exact ⟨_,by omega,.v ⟨(i+1),⟨rfl,⟨lt_nx hI (by omega),by omega⟩⟩,rfl⟩⟩
   intro e2 qe2;refine .exit ?_;have hkw:i=kW l n:=kW_at hi hI (by intro _;omega);have hdl:(l.drop i).length=l.length-i:=List.length_drop;have htl:(l.take i).length=i:=by rw[List.length_take];omega
   have hcl:(l.take i++[n]).length=i+1:=by rw[List.length_append,htl];rfl
   change g6 ..;refine .c9 [0,1,5] ?_;refine .sg w7 (mkH 13 [0,0,0,6,15,0,32,127,0,0,768,2047,4095] [0,4,6,7,11] [(0,0),(6,1)] [0,1,17,64,65,81,209,2257] [0,1,2,3,4]) 2 ?_;refine .em [true] [1,0] [_] ?_;refine .p 3 ?_;refine .em [true,false] [17,1,0] [_] ?_;refine .p 1 ?_;refine .en [true,true,true] [81,65,64,17,1,0] [_,_,_] ?_;refine .en [true,false,false,false,false,false] [209,81,65,64,17,1,0] [_] ?_;refine .p 3 ?_;refine .en [true,false,false,false,false,false,false] [2257,209,81,65,64,17,1,0] [_] ?_;refine .p 1 ?_;refine c72z ?_;refine aC.nil rfl ?_;refine c7z ?_;exact ⟨_,_,rfl,AZ t191 (Nat.le_refl _) t134,t182⟩
  try simp only[e1]
  have qe1:=fact e1;refine .m [(4,14)] ?_;refine c249z ?_;have hkw:i=kW l n:=kW_at hi hI (by intro _;omega);have hdl:(l.drop i).length=l.length-i:=List.length_drop;have htl:(l.take i).length=i:=by rw[List.length_take];omega
  have hcl:(l.take i++[n]).length=i+1:=by rw[List.length_append,htl];rfl
  change g6 ..;refine .c9 [0,1,5] ?_;refine .sg w7 (mkH 13 [0,0,0,6,15,0,32,127,0,0,768,2047,4095] [0,4,6,7,11] [(0,0),(6,1)] [0,1,17,64,65,81,209,2257] [0,1,2,3,4]) 2 ?_;refine .em [true] [1,0] [_] ?_;refine .p 3 ?_;refine .em [true,false] [17,1,0] [_] ?_;refine .p 1 ?_;refine .en [true,true,true] [81,65,64,17,1,0] [_,_,_] ?_;refine .en [true,false,false,false,false,false] [209,81,65,64,17,1,0] [_] ?_;refine .p 3 ?_;refine .en [true,false,false,false,false,false,false] [2257,209,81,65,64,17,1,0] [_] ?_;refine .p 1 ?_;refine c72z ?_;refine aC.nil rfl ?_;refine c7z ?_;exact ⟨_,_,rfl,AZ t191 (Nat.le_refl _) t134,t182⟩
theorem HB (l:List Int)(n:Int)(hl:l.length<100000):CB 52 [.vec l.length (encI l),.int .i64 n] h (.vec (kA l n).length (encI (kA l n))):=by
  by_cases hm:n∈l
  · exact c_withY l n hl hm
  · exact c_withN l n hl hm
theorem HC (it:aS)(p:Pl)(hp:p.param=true→0≤p.index∧p.index.toNat<it.n6.length):CB 44 [.agg [.int .i64 it.proc,.vec it.n6.length (encI it.n6)],.agg [.bool p.param,.int .i64 p.index,.vec p.at'.length (n9 p.at')]] h (.int .i64 (wK it p)):=by
  refine .bz Tryz.f44 15 ?_;refine c82z ?_;refine u2z ?_ ?_
  ·intro e1 qe1;have hpp:=hp (by assumption);refine .z ?_;exact .ret (.ex (hq:=by (unfold wK;simp_all)))
  intro e1 qe1;refine c241z ?_;exact .ret (.ex (hq:=by (unfold wK;simp_all)))
theorem aY (hu:WU u)(w:WIt u it):(g9 u it).length≤1664:=by have:=(uD hu (l:=[it]) (by simp) (by simpa using w)).2;simpa using this
variable {pc:Nat}
theorem HD (hu:WU u)(w:WIt u it)(hpc:pc<(g9 u it).length)(hc:iV ((g9 u it).getD pc l5)):∀p∈((g9 u it).getD pc l5).places,p.param=true→0≤p.index∧p.index.toNat<it.n6.length:=by
  obtain ⟨_,_,_,hh⟩:=(uE hu w).2.2 pc hpc;intro p hp hpar;obtain ⟨h0,⟨_,h2⟩ | ⟨h1,_⟩⟩:=(hh hc).2.2 p hp
  · refine ⟨h0,?_⟩
    rw[w.len];simp only at h2;omega
  · rw[hpar]at h1;cases h1
theorem BB (hu:WU u)(w:WIt u it)(hpc:pc<(g9 u it).length)(hc:iV ((g9 u it).getD pc l5)):((g9 u it).getD pc l5).places.length≤2:=by have h1:=wL hu w hpc hc;have h2:=h1.len;have h3:=hu.n6 (eE u it pc).proc.toNat (by have:=h1.lo;have:=h1.hi;omega);simp only[eE,List.length_map]at h2 h3;omega
theorem HE (hu:WU u)(w:WIt u it)(hpc:pc<(g9 u it).length)(hc:¬iV ((g9 u it).getD pc l5)):CB 50 [.agg [.vec u.globals.length (encI u.globals),.vec u.c6.length (j4 u.c6),.vec u.procs.length (r7 u.procs),.int .i64 u.main],.agg [.int .i64 it.proc,.vec it.n6.length (encI it.n6)],.int .i64 ((pc:Nat):Int)] h (.tup [.agg [.int .i64 0,.vec 0 []],.bool false]):=by
  refine .bz Tryz.f50 75 ?_;have w1:=w.lo;have w2:=w.hi;have hsz:(g9 u it).length≤1664:=aY hu w;refine c136z ?_;refine .c9 [2,4,6,8] ?_;refine c13z ?_;refine .spl 20 rfl rfl (fun e1=>by exfalso;have q:=fact e1;omega) (fun e1=>?_);try simp only[e1]
  have qe1:=fact e1;refine .k 6 [(2,20)] ?_;refine .spl 26 rfl rfl (fun e2=>by exfalso;have q:=fact e2;omega) (fun e2=>?_);try simp only[e2]
  have qe2:=fact e2;refine .k 7 [(8,26)] ?_;refine .spl 33 rfl rfl (fun e3=>?_) (fun e3=>by exfalso;have q:=fact e3;exact hc (.inl (by omega)));try simp only[e3]
  have qe3:=fact e3;refine .m [(8,26),(15,33)] ?_;refine .spl 41 rfl rfl (fun e4=>?_) (fun e4=>by exfalso;have q:=fact e4;exact hc (.inr (by omega)));try simp only[e4]
  have qe4:=fact e4;refine .T ?_;refine .c9 [6] ?_;refine .z ?_;exact .ret (.ex (hq:=by rfl))
theorem HF (hu:WU u)(w:WIt u it)(hpc:pc<(g9 u it).length)(hc:iV ((g9 u it).getD pc l5)):CB 50 [.agg [.vec u.globals.length (encI u.globals),.vec u.c6.length (j4 u.c6),.vec u.procs.length (r7 u.procs),.int .i64 u.main],.agg [.int .i64 it.proc,.vec it.n6.length (encI it.n6)],.int .i64 ((pc:Nat):Int)] h (.tup [.agg [.int .i64 (eE u it pc).proc,.vec (eE u it pc).n6.length (encI (eE u it pc).n6)],.bool true]):=by
  refine .bz Tryz.f50 75 ?_;have w1:=w.lo;have w2:=w.hi;have hsz:(g9 u it).length≤1664:=aY hu w;have hpl:=HD hu w hpc hc;have hpn:=BB hu w hpc hc;refine c136z ?_;refine .c9 [2,4,6,8] ?_;refine c13z ?_;refine .spl 20 rfl rfl (fun e1=>by exfalso;have q:=fact e1;omega) (fun e1=>?_);try simp only[e1]
  have qe1:=fact e1;refine .k 6 [(2,20)] ?_;refine .spl 26 rfl rfl (fun e2=>by exfalso;have q:=fact e2;omega) (fun e2=>?_);try simp only[e2]
  have qe2:=fact e2;refine .k 7 [(8,26)] ?_;refine .spl 33 rfl rfl (fun e3=>?_) (fun e3=>?_)
  ·try simp only[e3]
   have qe3:=fact e3;refine .m [(8,26),(15,33)] ?_;refine .spl 41 rfl rfl (fun e4=>by exfalso;have q:=fact e4;rcases hc with hc | hc<;>omega) (fun e4=>?_);try simp only[e4]
   have qe4:=fact e4;refine c22z ?_;refine .c9 [2,4,6,8] ?_;refine c25z ?_;refine g6.jU (β:=h.length+3) (k:=1) t47 rfl ?_;simp only[List.append_assoc,List.cons_append,List.nil_append,v5,u4,List.set_cons_succ,List.set_cons_zero,List.length_append,List.length_cons,List.length_nil,Nat.reduceAdd,Nat.zero_add];refine .aD (fun m st=>∃(q:Nat),(m=((g9 u it).getD pc l5).places.length-q∧q≤((g9 u it).getD pc l5).places.length)∧st=⟨mkS 75 [(2,AV.int .i64 ((pc:Nat):Int)),(4,AV.ptr (h.length+1) 0 0),(6,AV.ptr (h.length+2) 0 0),(8,AV.vec (g9 u it).length (s3 (g9 u it))),(9,AV.ptr (h.length+3) 0 0),(10,AV.int .i64 ((q:Nat):Int))],h++[⟨0,false,30,4,[.vec u.globals.length (encI u.globals),.vec u.c6.length (j4 u.c6),.vec u.procs.length (r7 u.procs),.int .i64 u.main],0⟩,⟨0,false,69,2,[.int .i64 it.proc,.vec it.n6.length (encI it.n6)],0⟩,⟨0,false,69,2,[.int .i64 0,.j9],0⟩,⟨0,false,69,2,[.int .i64 ((g9 u it).getD pc l5).target,.own (h.length+4) q 0 q],0⟩,n4 3 1 q (encI ((((g9 u it).getD pc l5).places.take q).map (wK it)))]⟩) (.v ⟨0,⟨rfl,by omega⟩,rfl⟩) ?_;rintro m sl h' ⟨q,⟨hm,hq⟩,hst⟩;obtain ⟨rfl,rfl⟩:=St.mk.inj hst;clear hst;have htl:((((g9 u it).getD pc l5).places.take q).map (wK it)).length=q:=by rw[List.length_map,List.length_take];omega
   refine c0z ?_;refine u2z ?_ ?_
   ·intro e5 qe5;refine c5z ?_;refine .c9 [2,4,6,8,9,10] ?_;refine .og w7 (mkH 16 [0,1,0,0,0,24,56,120,0,504,1016,2044,4092,8191,16383,32767] [12,13,15] [] [0,4096,12288,45056] [0,1]) 0 ?_;refine c38z ?_;refine c145z ?_;refine c89z ?_;refine .rn [true] ?_;refine .cl rfl rfl (fun _=>HC it (((g9 u it).getD pc l5).places.getD q cL) (hpl _ (l6 (d:=cL) (i:=q) (by omega)))) ?_;refine .en [true] [4096,0] [_] ?_;refine .en [true,false] [12288,4096,0] [_] ?_;refine .p 1 ?_;refine .en [true,false,false] [45056,12288,4096,0] [_] ?_;refine c307z ?_;refine .c9 [2,4,6,8,9,10,69] ?_;refine .rz ?_;exact ⟨_,by omega,.v ⟨(q+1),⟨rfl,by omega⟩,rfl⟩ (he:=t148) (hk:=t136)⟩
   intro e5 qe5;refine .exit ?_;obtain rfl:q=((g9 u it).getD pc l5).places.length:=by omega
   rw[List.take_length]at htl ⊢;refine g6.mK (γ:=h.length+4) (β:=h.length+3) (k:=1) (len:=((g9 u it).getD pc l5).places.length) t47 (by rw[l7,htl,Nat.mul_one]) (by omega) (pK _) t47 (by omega) rfl ?_;refine c24z ?_;refine c279z ?_;exact .ret (.ex (hq:=by (simp only[eE,List.length_map])))
  try simp only[e3]
  have qe3:=fact e3;refine .m [(8,26),(15,33)] ?_;refine c22z ?_;refine .c9 [2,4,6,8] ?_;refine c25z ?_;refine g6.jU (β:=h.length+3) (k:=1) t47 rfl ?_;simp only[List.append_assoc,List.cons_append,List.nil_append,v5,u4,List.set_cons_succ,List.set_cons_zero,List.length_append,List.length_cons,List.length_nil,Nat.reduceAdd,Nat.zero_add];refine .aD (fun m st=>∃(q:Nat),(m=((g9 u it).getD pc l5).places.length-q∧q≤((g9 u it).getD pc l5).places.length)∧st=⟨mkS 75 [(2,AV.int .i64 ((pc:Nat):Int)),(4,AV.ptr (h.length+1) 0 0),(6,AV.ptr (h.length+2) 0 0),(8,AV.vec (g9 u it).length (s3 (g9 u it))),(9,AV.ptr (h.length+3) 0 0),(10,AV.int .i64 ((q:Nat):Int))],h++[⟨0,false,30,4,[.vec u.globals.length (encI u.globals),.vec u.c6.length (j4 u.c6),.vec u.procs.length (r7 u.procs),.int .i64 u.main],0⟩,⟨0,false,69,2,[.int .i64 it.proc,.vec it.n6.length (encI it.n6)],0⟩,⟨0,false,69,2,[.int .i64 0,.j9],0⟩,⟨0,false,69,2,[.int .i64 ((g9 u it).getD pc l5).target,.own (h.length+4) q 0 q],0⟩,n4 3 1 q (encI ((((g9 u it).getD pc l5).places.take q).map (wK it)))]⟩) (.v ⟨0,⟨rfl,by omega⟩,rfl⟩) ?_;rintro m sl h' ⟨q,⟨hm,hq⟩,hst⟩;obtain ⟨rfl,rfl⟩:=St.mk.inj hst;clear hst;have htl:((((g9 u it).getD pc l5).places.take q).map (wK it)).length=q:=by rw[List.length_map,List.length_take];omega
  refine c0z ?_;refine u2z ?_ ?_
  ·intro e6 qe6;refine c5z ?_;refine .c9 [2,4,6,8,9,10] ?_;refine .og w7 (mkH 16 [0,1,0,0,0,24,56,120,0,504,1016,2044,4092,8191,16383,32767] [12,13,15] [] [0,4096,12288,45056] [0,1]) 0 ?_;refine c38z ?_;refine c145z ?_;refine c89z ?_;refine .rn [true] ?_;refine .cl rfl rfl (fun _=>HC it (((g9 u it).getD pc l5).places.getD q cL) (hpl _ (l6 (d:=cL) (i:=q) (by omega)))) ?_;refine .en [true] [4096,0] [_] ?_;refine .en [true,false] [12288,4096,0] [_] ?_;refine .p 1 ?_;refine .en [true,false,false] [45056,12288,4096,0] [_] ?_;refine c307z ?_;refine .c9 [2,4,6,8,9,10,69] ?_;refine .rz ?_;exact ⟨_,by omega,.v ⟨(q+1),⟨rfl,by omega⟩,rfl⟩ (he:=t148) (hk:=t136)⟩
  intro e6 qe6;refine .exit ?_;obtain rfl:q=((g9 u it).getD pc l5).places.length:=by omega
  rw[List.take_length]at htl ⊢;refine g6.mK (γ:=h.length+4) (β:=h.length+3) (k:=1) (len:=((g9 u it).getD pc l5).places.length) t47 (by rw[l7,htl,Nat.mul_one]) (by omega) (pK _) t47 (by omega) rfl ?_;refine c24z ?_;refine c279z ?_;exact .ret (.ex (hq:=by (simp only[eE,List.length_map])))
theorem c_findI (l:List aS)(x:aS){n2 n3:Nat}{z2 z3:List AV}(hl:l.length<1000000)(hk:∀y∈l,y.n6.length<1000000):CB 51 [.agg [.vec l.length (v8 l),.vec n2 z2,.vec n3 z3],.agg [.int .i64 x.proc,.vec x.n6.length (encI x.n6)]] h (.int .i64 (fI l x)):=by
  refine .bz Tryz.f51 34 ?_;refine c25z ?_;refine .jE (fun m st=>∃(i:Nat),(m=l.length-i∧((∀d,d<i→l.getD d j7≠x)∧i≤l.length))∧st=⟨mkS 34 [(2,AV.ptr h.length 0 0),(3,AV.ptr (h.length+1) 0 0),(5,AV.int .i64 ((i:Nat):Int))],h++[⟨0,false,34,3,[.vec l.length (v8 l),.vec n2 z2,.vec n3 z3],0⟩,⟨0,false,69,2,[.int .i64 x.proc,.vec x.n6.length (encI x.n6)],0⟩]⟩) _ (.v ⟨0,⟨rfl,⟨t104,by omega⟩⟩,rfl⟩) ?_;rintro m sl h' ⟨i,⟨hm,⟨hI,hi⟩⟩,hst⟩;obtain ⟨rfl,rfl⟩:=St.mk.inj hst;refine c0z ?_;refine u2z ?_ ?_
  ·intro e1 qe1;refine c5z ?_;refine .ss w7 (mkP 20 [0,1,0,7,15,31,0,64,255,511,1023,2047,1023,8191,16383,32767,1023,66559,262143,524287] []) ?_;refine .k 8 [] ?_;refine .k 2 [] ?_;refine .spl 22 rfl rfl (fun e2=>?_) (fun e2=>?_)
   ·try simp only[e2]
    have qe2:=fact e2;refine .k 8 [(9,22)] ?_;refine .ca rfl rfl (c_same _ _ (hk _ (l6 (by omega)))) ?_;refine .n [] ?_;refine u2z ?_ ?_
    ·intro e3 qe3;refine .c9 [5] ?_;refine .z ?_;exact .ret (.ex (hq:=t135))
    intro e3 qe3;refine c8z ?_;refine .c9 [2,3,5] ?_;refine .rz ?_;exact ⟨_,by omega,.v ⟨(i+1),⟨rfl,⟨it_ne hI t233,by omega⟩⟩,rfl⟩⟩
   try simp only[e2]
   have qe2:=fact e2;refine .k 8 [(9,22)] ?_;refine .n [(9,22)] ?_;refine c54z ?_;refine .c9 [2,3,5] ?_;refine .rz ?_;exact ⟨_,by omega,.v ⟨(i+1),⟨rfl,⟨it_ne hI t233,by omega⟩⟩,rfl⟩⟩
  intro e1 qe1;refine c12z ?_;refine c4z ?_;exact .ret (.ex (hq:=t135))
end Go.Proofs.YtapdldekgbbomaaGreatDoor
end
section
namespace Go.Proofs.YtapdldekgbbomaaGreatDoor
open Go.Ab Go.Un
theorem q9.cx {P:Program}{C:Cfg}{h:c8}{ops:Array Oper}{o:Oper}{rest:List Oper}{Q:St→Prop}{n d:Nat}{l:List (Nat×AV)}{c:Call}{f:FuncId}{args:List AV}{K:AV→c8→Prop}(ho:o.op=.call c)(ht:aL C (AE C n l) c=some (f,args))(hb:s8 C f=true)
    (hc:CallA P C f args h K) (hk:∀y h',K y h'→q9 P C ops rest ⟨mkS n ((d,y)::l),h'⟩ Q) (hw:yG ops n l o=some true:=by rfl) (hd:o.dst=some d:=by rfl):q9 P C ops (o::rest) ⟨mkS n l,h⟩ Q:=
  q9.call (sC▸hw) ho (qK▸ht) hb (hc.mono fun y h' hq=>by rw[hd];show q9 P C ops rest ⟨(mkS n l).set d y,h'⟩ Q;rw[aE];exact hk y h' hq)
def pQ (u:Un)(L:List aS)(it:aS)(cs:List Int)(n:Nat):Prop:=∀j,j<n→
  (iV ((g9 u it).getD j l5)→0≤cs.getD j 0∧cs.getD j 0<L.length∧L.getD (cs.getD j 0).toNat j7=eE u it j)∧(¬iV ((g9 u it).getD j l5)→cs.getD j 0 = -1)
structure LI (u:Un)(L:List aS):Prop where
  w:∀it∈L,WIt u it
  nd:L.Nodup
  z:0<L.length∧L.getD 0 j7=⟨0,[]⟩
structure RI (L:List aS)(R:List Int):Prop where
  p:1≤R.length
  r:∀x∈R,0≤x∧x<L.length
  s:R.Pairwise (·<·)
def PI (u:Un)(L:List aS)(CS:List (List Int))(i:Nat):Prop:=∀j,j<i→(CS.getD j []).length=(g9 u (L.getD j j7)).length∧pQ u L (L.getD j j7) (CS.getD j []) (g9 u (L.getD j j7)).length
def kJ (u:Un)(L:List aS)(i:Nat):Nat:=((L.take i).map fun it=>(g9 u it).length).sum
variable {i:Nat}
theorem nL {α:Type}{l m:List α}{d:α}(h:i<l.length):(l++m).getD i d=l.getD i d:=by simp[List.getD,List.getElem?_append_left h]
variable {u:Un}{L M:List aS}{it:aS}{n:Nat}
theorem pQ.app {cs:List Int}(h:pQ u L it cs n):pQ u (L++M) it cs n:=fun j hj=>by obtain ⟨h1,h2⟩:=h j hj;refine ⟨fun hc=>?_,h2⟩;obtain ⟨q1,q2,q3⟩:=h1 hc;exact ⟨q1,by rw[List.length_append];omega,by rw[nL (by omega),q3]⟩
theorem pQ.set {cs:List Int}{x:Int}(h:pQ u L it cs n)(hn:n<cs.length)(hx:(iV ((g9 u it).getD n l5)→0≤x∧x<L.length∧L.getD x.toNat j7=eE u it n)∧(¬iV ((g9 u it).getD n l5)→x = -1)):pQ u L it (cs.set n x) (n+1):=fun j hj=>by
  by_cases hjn:j=n
  · subst hjn
    have:(cs.set j x).getD j 0=x:=by simp[List.getD,hn]
    rw[this];exact hx
  · have:(cs.set n x).getD j 0=cs.getD j 0:=by simp[List.getD,List.getElem?_set_ne (Ne.symm hjn)]
    rw[this];exact h j (by omega)
variable {x:aS}
theorem LI.snoc (h:LI u L)(hx:WIt u x)(hn:x∉L):LI u (L++[x]):=by
  refine ⟨fun it hit=>?_,?_,by simp,?_⟩
  · rcases List.mem_append.1 hit with hit | hit
    · exact h.w it hit
    · simp only[List.mem_singleton]at hit
      subst hit;exact hx
  · rw[List.nodup_append]
    exact ⟨h.nd,by simp,fun a ha b hb=>by simp only[List.mem_singleton]at hb;subst hb;exact fun e=>hn (e▸ha)⟩
  · rw[nL h.z.1];exact h.z.2
theorem LI.few (hu:WU u)(h:LI u L):L.length≤64:=(uD hu h.nd h.w).1
theorem LI.sites (hu:WU u)(h:LI u L)(i:Nat):kJ u L i≤1664:=by have h1:=(uD hu (l:=L.take i) (h.nd.sublist (List.take_sublist _ _)) (fun it hit=>h.w it (List.mem_of_mem_take hit))).2;exact h1
theorem LI.n6 (hu:WU u)(h:LI u L):∀y∈L,y.n6.length≤2:=fun y hy=>by have w:=h.w y hy;have h1:=w.len;have h3:=hu.n6 y.proc.toNat (by have:=w.lo;have:=w.hi;omega);omega
variable {R:List Int}
theorem RI.app (h:RI L R):RI (L++M) R:=⟨h.p,fun x hx=>by have:=h.r x hx;rw[List.length_append];omega,h.s⟩
variable {l:List Int}
theorem HG {n x:Int}:x∈kA l n↔x∈l∨x=n:=by
  unfold kA;split
  · rename_i h
    constructor
    · exact .inl
    · rintro (h1 | rfl)
      · exact h1
      · exact h
  · rw[List.mem_append,List.mem_cons]
    constructor
    · rintro (h | h | h)
      · exact .inl (List.mem_of_mem_take h)
      · exact .inr h
      · exact .inl (List.mem_of_mem_drop h)
    · rintro (h | h)
      · rw[←List.take_append_drop (kW l n) l,List.mem_append]at h
        rcases h with h | h
        · exact .inl h
        · exact .inr (.inr h)
      · exact .inr (.inl h)
theorem take_kW {n:Int}:l.take (kW l n)=l.takeWhile fun x=>decide (x<n):=by
  conv=>lhs;rw[←List.takeWhile_append_dropWhile (p:=fun x=>decide (x<n)) (l:=l)]
  rw[List.take_append_of_le_length (by simp[kW])];exact List.take_of_length_le (by simp[kW])
theorem drop_kW {n:Int}:l.drop (kW l n)=l.dropWhile fun x=>decide (x<n):=by
  conv=>lhs;rw[←List.takeWhile_append_dropWhile (p:=fun x=>decide (x<n)) (l:=l)]
  rw[List.drop_append_of_le_length (by simp[kW])];rw[List.drop_of_length_le (by simp[kW]),List.nil_append]
theorem rO:∀{l:List Int} {n:Int},l.Pairwise (·<·)→n∉l→(l.takeWhile (fun x=>decide (x<n))++n::l.dropWhile (fun x=>decide (x<n))).Pairwise (·<·)
  | [],n,_,_=>by simp
  | x::l,n,h,hn=>by
    rw[List.pairwise_cons]at h;by_cases hx:x<n
    · have ih:=rO (l:=l) (n:=n) h.2 (fun hm=>hn (List.mem_cons_of_mem _ hm))
      rw[List.takeWhile_cons_of_pos t230,List.dropWhile_cons_of_pos t230,List.cons_append,List.pairwise_cons];refine ⟨fun y hy=>?_,ih⟩;rcases List.mem_append.1 hy with hy | hy
      · exact h.1 y ((List.takeWhile_sublist _).subset hy)
      · rcases List.mem_cons.1 hy with rfl | hy
        · exact hx
        · exact h.1 y ((List.dropWhile_sublist _).subset hy)
    · have hne:n≠x:=fun e=>hn (by rw[e];simp)
      rw[List.takeWhile_cons_of_neg t230,List.dropWhile_cons_of_neg t230,List.nil_append,List.pairwise_cons];refine ⟨fun y hy=>?_,List.pairwise_cons.2 h⟩;rcases List.mem_cons.1 hy with rfl | hy
      · omega
      · have:=h.1 y hy;omega
theorem RI.with (h:RI L R){n:Int}(hn:0≤n∧n<L.length):RI L (kA R n):=by
  refine ⟨?_,fun x hx=>?_,?_⟩
  · unfold kA
    split
    · exact h.p
    · simp only[List.length_append,List.length_cons];omega
  · rcases HG.1 hx with hx | rfl
    · exact h.r x hx
    · exact hn
  · unfold kA
    split
    · exact h.s
    · rename_i hm
      rw[take_kW,drop_kW];exact rO h.s hm
theorem wW:∀{R:List Int} {a b:Int},R.Pairwise (·<·)→(∀x∈R,a≤x∧x<b)→R.length≤(b-a).toNat
  | [],a,b,_,_=>by simp
  | x::R,a,b,h,hr=>by rw[List.pairwise_cons]at h;have h0:=hr x (by simp);have ih:=wW (R:=R) (a:=x+1) (b:=b) h.2 (fun y hy=>⟨by have:=h.1 y hy;omega,(hr y (by simp[hy])).2⟩);simp only[List.length_cons];omega
theorem RI.len (hu:WU u)(hl:LI u L)(h:RI L R):R.length≤64:=by have h1:=wW h.s (a:=0) (b:=(L.length:Int)) h.r;have h2:=hl.few hu;omega
theorem BC (h:i<L.length):kJ u L (i+1)=kJ u L i+(g9 u (L.getD i j7)).length:=by unfold kJ;rw[taken (d:=j7) h];simp
variable {CS:List (List Int)}
theorem PI.step {v:List Int}(h:PI u L CS i)(hc:CS.length=i)(hi:i<L.length)(hv:v.length=(g9 u (L.getD i j7)).length)(hok:pQ u (L++M) (L.getD i j7) v (g9 u (L.getD i j7)).length):PI u (L++M) (CS++[v]) (i+1):=fun j hj=>by
  by_cases hji:j=i
  · subst hji
    have e1:(CS++[v]).getD j []=v:=by subst hc;simp[List.getD]
    rw[e1,nL hi];exact ⟨hv,hok⟩
  · have e1:(CS++[v]).getD j []=CS.getD j []:=nL (by omega)
    obtain ⟨h1,h2⟩:=h j (by omega);rw[e1,nL (by omega)];exact ⟨h1,h2.app⟩
theorem N8 {l:List (List Int)}{x:List Int}:z9 (l++[x])=z9 l++[.vec x.length (encI x)]:=by simp[z9]
theorem N9 {l:List aS}:v8 (l++[x])=v8 l++[.int .i64 x.proc,.vec x.n6.length (encI x.n6)]:=by simp[v8,AG]
theorem PC (l:List (List Int)):z4 (z9 l):=z4.map fun _=>.vec
theorem PD (l:List aS):z4 (v8 l):=z4.flat fun _=>z4.cons .int (z4.cons .vec .nil)
variable {h:c8}{g:Nat}
theorem app_its {b0 b1 b3 b4 b5 b6 b7:Blk}{l:c8}(hz:L.length=n)(hn:n<1000):g8 cfg 69 (h++(b0::b1::⟨g,false,69,2,v8 L,0⟩::b3::b4::b5::b6::b7::⟨0,false,69,2,[.int .i64 x.proc,.vec x.n6.length (encI x.n6)],0⟩::l)) (.own (h.length+2) g 0 n) (.own (h.length+8) 0 0 1)=some (.own (h.length+2) (g+1) 0 (n+1),h++(b0::b1::⟨g+1,false,69,2,v8 (L++[x]),0⟩::b3::b4::b5::b6::b7::⟨0,false,69,2,[.int .i64 x.proc,.vec x.n6.length (encI x.n6)],0⟩::l)):=by
  subst hz;have e1:cfg.sz 69=2:=rfl;have e2:(cfg.ti 69).bytes=32:=rfl;have hm:L.length+1≤maxLen:=by
    have:(1001:Nat)≤maxLen:=by decide
    omega
  have hb:(L.length+1)*32≤140737488355328:=by omega
  have h1:(v8 L).length=L.length*2:=by rw[u6];omega
  have ht:List.take (L.length*2) (v8 L)=v8 L:=List.take_of_length_le (by omega);have hnl:¬(L.length+1)*2≤L.length*2:=by omega
  simp[g8,rd,lenOf,e1,e2,h1,hm,hb,ht,hnl,v5,u4,N9]
theorem app_cs {b0 b1 b2 b3 b4 b6:Blk}{l:c8}{x:List Int}{m:Nat}(hn:CS.length=n)(hx:x.length=m)(hl:n<100000):g8 cfg 22 (h++(b0::b1::b2::b3::b4::n4 22 1 g (z9 CS)::b6::⟨0,false,22,1,[.vec m (encI x)],0⟩::l)) (.own (h.length+5) g 0 n) (.own (h.length+7) 0 0 1)=some (.own (h.length+5) (g+1) 0 (n+1),h++(b0::b1::b2::b3::b4::n4 22 1 (g+1) (z9 (CS++[x]))::b6::⟨0,false,22,1,[.vec m (encI x)],0⟩::l)):=by subst hn hx;rw[s9 (C:=cfg) (K:=1) (m:=1) (new:=[.vec x.length (encI x)]) (zs:=z9 CS) t47 rfl (by omega) (by simp[z9]) rfl (by omega) t190 rfl (by decide) (by omega),←N8,u4];rfl
theorem V8:∀{v:List Int} {i:Nat} {x:Int},i<v.length→List.take i (encI v)++AV.int .i64 x::List.drop (i+1) (encI v)=encI (v.set i x)
  | y::v,0,x,_=>rfl
  | y::v,i+1,x,h=>by have ih:=V8 (v:=v) (i:=i) (x:=x) (by simpa using h);simp only[encI,List.map_cons,List.set_cons_succ,List.take_succ_cons,List.drop_succ_cons,List.cons_append]at ih ⊢;rw[ih]
theorem zeros_I:(List.replicate n [AV.int .i64 0]).flatten=encI (List.replicate n 0):=by
  induction n with
  | zero=>rfl
  | succ n ih=>rw[List.replicate_succ,List.flatten_cons,ih];simp[encI,List.replicate_succ]
theorem frz_its {d:Nat}{H:c8}{l:List aS}:r6 (kN n H (d+1)) (v8 l)=some (v8 l):=(PD l).frz _ _ _
theorem O0 {H:c8}{β γ n1 n2 n3:Nat}{z3:List AV}(hb:H[β]?=some ⟨g,false,69,2,v8 L,0⟩)(hc:H[γ]?=some (n4 22 1 i (z9 CS)))(h1:L.length=n1)(h2:CS.length=n2)(hl:L.length<1000000)(hk:∀y∈L,y.n6.length<1000000):CB 51 [.agg [.own β g 0 n1,.own γ i 0 n2,.vec n3 z3],.agg [.int .i64 x.proc,.vec x.n6.length (encI x.n6)]] H (.int .i64 (fI L x)):=by
  subst h1 h2;have e1:kN 0 H 6 (.own β g 0 L.length)=some (.vec L.length (v8 L)):=by rw[jK,hb];simp only[Nat.zero_le,and_self,if_true,Bool.false_eq_true,if_false,Nat.zero_add];rw[if_pos (by rw[u6];omega),List.drop_zero,List.take_of_length_le (by rw[u6];omega),frz_its]
  have e2:kN 0 H 6 (.own γ i 0 CS.length)=some (.vec CS.length (z9 CS)):=eH hc (Nat.zero_le _) (by simp[z9]) (by omega) ((PC CS).frz _ _ _);have e:LO 0 H (.agg [.own β g 0 L.length,.own γ i 0 CS.length,.vec n3 z3])=some (.agg [.vec L.length (v8 L),.vec CS.length (z9 CS),.vec n3 z3]):=by simp only[LO,r6,e1,e2,jL,Option.map_some]
  have ha:JU 0 H [.agg [.vec L.length (v8 L),.vec CS.length (z9 CS),.vec n3 z3],.agg [.int .i64 x.proc,.vec x.n6.length (encI x.n6)]] [.agg [.own β g 0 L.length,.own γ i 0 CS.length,.vec n3 z3],.agg [.int .i64 x.proc,.vec x.n6.length (encI x.n6)]]:=And.intro (.inr e) (And.intro (.inr rfl) trivial);exact CallA.borrow ha ((c_findI L x hl hk).mono fun _ _ h=>h.1)
theorem bL {l:List (List Int)}:(z9 l).length=l.length:=by simp[z9]
variable {pc:Nat}
theorem BD (hu:WU u)(w:WIt u it)(hpc:pc<(g9 u it).length)(hc:iV ((g9 u it).getD pc l5)){y:aS}(hy:eE u it pc=y):CB 50 [.agg [.vec u.globals.length (encI u.globals),.vec u.c6.length (j4 u.c6),.vec u.procs.length (r7 u.procs),.int .i64 u.main],.agg [.int .i64 it.proc,.vec it.n6.length (encI it.n6)],.int .i64 ((pc:Nat):Int)] h (.tup [.agg [.int .i64 y.proc,.vec y.n6.length (encI y.n6)],.bool true]):=by subst hy;exact HF hu w hpc hc
theorem BE (hu:WU u)(w:WIt u (L.getD i j7))(hi:L.getD i j7=it)(hpc:pc<(g9 u it).length)(hc:iV ((g9 u it).getD pc l5)){y:aS}(hy:eE u it pc=y):CB 50 [.agg [.vec u.globals.length (encI u.globals),.vec u.c6.length (j4 u.c6),.vec u.procs.length (r7 u.procs),.int .i64 u.main],.agg [.int .i64 (L.getD i j7).proc,.vec (L.getD i j7).n6.length (encI (L.getD i j7).n6)],.int .i64 ((pc:Nat):Int)] h (.tup [.agg [.int .i64 y.proc,.vec y.n6.length (encI y.n6)],.bool true]):=by subst hi;exact BD hu w hpc hc hy
theorem BF (hu:WU u)(w:WIt u (L.getD i j7))(hi:L.getD i j7=it)(hpc:pc<(g9 u it).length)(hc:¬iV ((g9 u it).getD pc l5)):CB 50 [.agg [.vec u.globals.length (encI u.globals),.vec u.c6.length (j4 u.c6),.vec u.procs.length (r7 u.procs),.int .i64 u.main],.agg [.int .i64 (L.getD i j7).proc,.vec (L.getD i j7).n6.length (encI (L.getD i j7).n6)],.int .i64 ((pc:Nat):Int)] h (.tup [.agg [.int .i64 0,.vec 0 []],.bool false]):=by subst hi;exact HE hu w hpc hc
theorem mx2000:(2000:Nat)≤maxLen:=by decide
theorem zM {v:List Int}{i:Nat}{x:Int}(h:i<v.length):(v.set i x).getD i 0=x:=by simp[List.getD,h]
theorem PE {v:List Int}{x:Int}(h:i<v.length):List.take 1 (List.drop i (encI (v.set i x)))=[.int .i64 x]:=by rw[eY (by rw[List.length_set];exact h),zM h]
theorem HH (h:i≤L.length):kJ u (L++M) i=kJ u L i:=by unfold kJ;rw[List.take_append_of_le_length h]
theorem wit0 (hu:WU u):WIt u ⟨0,[]⟩:=by have:=hu.pl;refine ⟨Int.le_refl _,by show (0:Int)<u.procs.length;omega,?_,fun x hx=>by simp at hx⟩;show 0=(u.procs.getD 0 pC).n6.toNat;rw[hu.zero];rfl
theorem wc_of (hu:WU u)(hL:LI u L)(hR:RI L R)(hc:CS.length=L.length)(hP:PI u L CS L.length):WC u ⟨L,CS,R⟩:=
  ⟨⟨hL.z.1,hL.few hu⟩,hL.z.2,hL.w,hL.nd,hc,fun i hi=>(hP i hi).1,fun i hi pc hpc=>(hP i hi).2 pc hpc,hR.p,hR.r,hR.s⟩
attribute [local go_sem] rd w5 o8 bY cR u5 bN gG cS n7 aJ w9 l7 aM Int.natCast_nonneg Int.natCast_inj List.length_map wrap64 eT jO jP I6 vZ A5 I7 nH max2 fG dL cA Nat.reduceMul nG kH iU uR eY cP V7 cQ bG dW u6 z7 app_its app_cs V8 zeros_I bL
section
attribute [local go_sem] PE List.length_set
theorem HI (hu:WU u):CallA Tryz.prog cfg 27 [.agg [.vec u.globals.length (encI u.globals),.vec u.c6.length (j4 u.c6),.vec u.procs.length (r7 u.procs),.int .i64 u.main]] h (fun y' h'=>(∃c,WC u c∧y'=.tup [.agg (LZ c),.int .i64 0])∧h'=h):=by
  refine .bz Tryz.f27 109 ?_;refine c281z ?_;refine .c9 [1,2,4] ?_;refine g6.dF (β:=h.length+2) [.int .i64 0,.vec 0 []] t47 ?_ ?_;exact ⟨.inl (by rw[hu.main]),.inr ⟨rfl,rfl⟩,trivial⟩;simp only[List.append_assoc,List.cons_append,List.nil_append,v5,u4,List.set_cons_succ,List.set_cons_zero,List.length_append,List.length_cons,List.length_nil,Nat.reduceAdd,Nat.zero_add];refine g6.jU (β:=h.length+4) (k:=1) t47 rfl ?_;simp only[List.append_assoc,List.cons_append,List.nil_append,v5,u4,List.set_cons_succ,List.set_cons_zero,List.length_append,List.length_cons,List.length_nil,Nat.reduceAdd,Nat.zero_add];refine g6.yC (γ:=h.length+3) (β:=h.length+4) (k:=2) (off:=0) (len:=1) (cs:=[.int .i64 0]) t47 rfl (by simp) rfl t47 (by omega) rfl ?_;simp only[List.append_assoc,List.cons_append,List.nil_append,v5,u4,List.set_cons_succ,List.set_cons_zero,List.length_append,List.length_cons,List.length_nil,Nat.reduceAdd,Nat.zero_add];generalize dM _ _=Rb;refine c25z ?_;refine .aD (fun m st=>∃(i:Nat) (L:List aS) (g:Nat) (R:List Int) (CS:List (List Int)),(m=65-i∧(LI u L∧RI L R∧i≤L.length∧CS.length=i∧PI u L CS i))∧st=⟨mkS 109 [(1,AV.ptr h.length 0 0),(2,AV.ptr (h.length+1) 0 0),(4,AV.ptr (h.length+4) 0 0),(5,AV.int .i64 ((kJ u L i:Nat):Int)),(6,AV.int .i64 ((i:Nat):Int))],h++[⟨0,false,30,4,[.vec u.globals.length (encI u.globals),.vec u.c6.length (j4 u.c6),.vec u.procs.length (r7 u.procs),.int .i64 u.main],0⟩,⟨0,false,34,3,[.j9,.j9,.j9],0⟩,⟨g,false,69,2,v8 L,0⟩,Rb,⟨0,false,34,3,[.own (h.length+2) g 0 L.length,.own (h.length+5) i 0 i,.vec R.length (encI R)],0⟩,n4 22 1 i (z9 CS)]⟩) (.v ⟨0,([⟨0,[]⟩]:List aS),0,([0]:List Int),([]:List (List Int)),⟨rfl,⟨⟨fun it hit=>by simp only[List.mem_singleton]at hit;subst hit;exact wit0 hu,by simp,by simp⟩,⟨by simp,by simp,by simp⟩,by omega,rfl,fun j hj=>by omega⟩⟩,rfl⟩ (hs:=t115)) ?_;rintro m sl h' ⟨i,L,g,R,CS,⟨hm,⟨hL,hR,hi,hCS,hP⟩⟩,hst⟩;obtain ⟨rfl,rfl⟩:=St.mk.inj hst;clear hst;have hfew:=hL.few hu;have hrl:=hR.len hu hL;refine c0z ?_;refine u2z ?_ ?_
  ·intro e1 qe1;refine c5z ?_;have hw:WIt u (L.getD i j7):=hL.w _ (l6 (by omega));have hw1:=hw.lo;have hw2:=hw.hi;have hcd:=uE hu hw;have hs0:=hL.sites hu i;have hs1:kJ u L (i+1)=kJ u L i+(g9 u (L.getD i j7)).length:=by rw[BC (by omega)]
   have hs2:=hL.sites hu (i+1);refine .ss w7 (mkP 12 [0,1,0,4,0,28,60,124,255,511,1023,2047] []) ?_;refine c190z ?_;refine .c9 [1,2,4,5,6,7,34] ?_;refine c264z ?_;refine .spl 42 rfl rfl (fun e2=>by exfalso;have q:=fact e2;omega) (fun e2=>?_);try simp only[e2]
   have qe2:=fact e2;refine .m [(2,42)] ?_;refine uFbz ?_;intro e3 qe3;refine .sk ?_;refine .c9 [1,2,4,5,6,7,34] ?_;have hcl1:=hcd.1;have hclm:(g9 u (L.getD i j7)).length≤2000:=by omega
   have hmx:((g9 u (L.getD i j7)).length:Int)≤(maxLen:Int):=Int.ofNat_le.2 (Nat.le_trans hclm mx2000);refine c25z ?_;refine .aD (fun m st=>∃(pc:Nat) (L1:List aS) (g1:Nat) (R1:List Int) (v:List Int),(m=(g9 u (L.getD i j7)).length-pc∧(LI u L1∧RI L1 R1∧(∃M,L1=L++M)∧pc≤(g9 u (L.getD i j7)).length∧v.length=(g9 u (L.getD i j7)).length∧pQ u L1 (L.getD i j7) v pc))∧st=⟨mkS 109 [(1,AV.ptr h.length 0 0),(2,AV.ptr (h.length+1) 0 0),(4,AV.ptr (h.length+4) 0 0),(5,AV.int .i64 ((kJ u L (i+1):Nat):Int)),(6,AV.int .i64 ((i:Nat):Int)),(7,AV.vec (g9 u (L.getD i j7)).length (s3 (g9 u (L.getD i j7)))),(8,AV.own (h.length+6) 0 0 (g9 u (L.getD i j7)).length),(9,AV.int .i64 ((pc:Nat):Int))],h++[⟨0,false,30,4,[.vec u.globals.length (encI u.globals),.vec u.c6.length (j4 u.c6),.vec u.procs.length (r7 u.procs),.int .i64 u.main],0⟩,⟨0,false,34,3,[.j9,.j9,.j9],0⟩,⟨g1,false,69,2,v8 L1,0⟩,Rb,⟨0,false,34,3,[.own (h.length+2) g1 0 L1.length,.own (h.length+5) i 0 i,.vec R1.length (encI R1)],0⟩,n4 22 1 i (z9 CS),⟨0,false,3,1,encI v,0⟩]⟩) (.v ⟨0,L,g,R,(List.replicate (g9 u (L.getD i j7)).length 0),⟨rfl,⟨hL,hR,⟨[],by simp⟩,by omega,by simp,fun j hj=>by omega⟩⟩,rfl⟩) ?_;rintro m sl h' ⟨pc,L1,g1,R1,v,⟨hm,⟨hL1,hR1,⟨M,hM⟩,hpc,hv,hok⟩⟩,hst⟩;obtain ⟨rfl,rfl⟩:=St.mk.inj hst;clear hst;have hfew1:=hL1.few hu;have hrl1:=hR1.len hu hL1;have hit1:L1.getD i j7=L.getD i j7:=by rw[hM,nL (by omega)]
   have hw1:WIt u (L1.getD i j7):=by rw[hit1];exact hw
   have hil1:i<L1.length:=by rw[hM,List.length_append];omega
   refine c0z ?_;refine u2z ?_ ?_
   ·intro e4 qe4;refine c5z ?_;by_cases hcl:iV ((g9 u (L.getD i j7)).getD pc l5)
    ·generalize hy:eE u (L.getD i j7) pc=y;have hwy:WIt u y:=by rw[←hy];exact wL hu hw (by omega) hcl
     refine .sg w7 (mkH 14 [0,0,2,0,14,30,0,127,255,511,511,0,3071,8191] [11,12] [] [0,2048,6144] [0,1,2,3,4,5,6,7,8,9,10]) 0 ?_;refine c118z ?_;refine c175z ?_;refine .p 1 ?_;refine .cl rfl rfl (fun _=>BE hu hw1 hit1 (by omega) hcl hy) ?_;refine .p 3 ?_;refine c208z ?_;refine .p 1 ?_;refine c35z ?_;refine c166z ?_;refine .seq ?_;refine .c9 [1,2,4,5,6,7,8,9,10,11] ?_;refine c14z ?_;refine c116z ?_;refine c45z ?_;refine .ca rfl rfl (O0 t47 t47 rfl hCS (by omega) (fun y hy=>Nat.lt_of_le_of_lt (LI.n6 hu hL1 y hy) (by omega))) ?_;refine .n ?_;refine u2z ?_ ?_
     ·intro e5 qe5;refine c1z ?_;refine .c9 [1,2,4,5,6,7,8,9,10] ?_;have hny:y∉L1:=fun hm=>by have:=V6 hm;omega
      have hL2:=hL1.snoc hwy hny;have hfew2:=hL2.few hu;have hmy:y∈L1++[y]:=by simp
      have hR2:=hR1.app (M:=[y]);have hok2:=hok.app (M:=[y]);obtain ⟨hf1,hf2,hf3⟩:=V6 hmy;have hsg:=@zM v pc (fI (L1++[y]) y) (by omega);refine c30z ?_;refine .ca rfl rfl (O0 (L:=(L1++[y])) t47 t47 (by rw[List.length_append];rfl) hCS (by rw[List.length_append,List.length_singleton];omega) (fun y hy=>Nat.lt_of_le_of_lt (LI.n6 hu hL2 y hy) (by omega))) ?_;refine .n ?_;refine .z ?_;refine u2z ?_ ?_
      ·intro e6 qe6;refine .c9 [1,2,4,5,6,7,8,9] ?_;refine .og w7 (mkH 9 [0,1,0,0,12,28,63,127,255] [8] [] [0,256] []) 0 ?_;refine .p 1 ?_;refine c76z ?_;refine .rn [true] ?_;refine .cl rfl rfl (fun _=>HB _ _ (by omega)) ?_;refine .p 1 ?_;refine .en [true] [256,0] [_] ?_;refine c29z ?_;refine c308z ?_;exact ⟨_,by omega,.v ⟨(pc+1),(L1++[y]),(g1+1),(kA R1 (fI (L1++[y]) y)),(v.set pc (fI (L1++[y]) y)),⟨rfl,⟨hL2,hR2.with ⟨hf1,hf2⟩,⟨M++[y],by rw[hM,List.append_assoc]⟩,by omega,t173,hok2.set (by omega) ⟨fun _=>⟨hf1,hf2,hf3.trans hy.symm⟩,fun hc=>absurd hcl hc⟩⟩⟩,rfl⟩ (he:=t48) (hk:=t44)⟩
      intro e6 qe6;refine c8z ?_;refine c308z ?_;exact ⟨_,by omega,.v ⟨(pc+1),(L1++[y]),(g1+1),R1,(v.set pc (fI (L1++[y]) y)),⟨rfl,⟨hL2,hR2,⟨M++[y],by rw[hM,List.append_assoc]⟩,by omega,t173,hok2.set (by omega) ⟨fun _=>⟨hf1,hf2,hf3.trans hy.symm⟩,fun hc=>absurd hcl hc⟩⟩⟩,rfl⟩ (he:=t48) (hk:=t44)⟩
     intro e5 qe5;refine .sk ?_;have hmy:y∈L1:=Classical.byContradiction fun hm=>by have:=fI_not hm;omega
     have hL2:=hL1;have hR2:=hR1;have hok2:=hok;obtain ⟨hf1,hf2,hf3⟩:=V6 hmy;have hsg:=@zM v pc (fI L1 y) (by omega);refine c30z ?_;refine .ca rfl rfl (O0 (L:=L1) t47 t47 rfl hCS (by omega) (fun y hy=>Nat.lt_of_le_of_lt (LI.n6 hu hL1 y hy) (by omega))) ?_;refine .n ?_;refine .c9 [1,2,4,5,6,7,8,9] ?_;refine .z ?_;refine u2z ?_ ?_
     ·intro e7 qe7;refine .og w7 (mkH 9 [0,1,0,0,12,28,63,127,255] [8] [] [0,256] []) 0 ?_;refine .p 1 ?_;refine c76z ?_;refine .rn [true] ?_;refine .cl rfl rfl (fun _=>HB _ _ (by omega)) ?_;refine .p 1 ?_;refine .en [true] [256,0] [_] ?_;refine c29z ?_;refine c308z ?_;exact ⟨_,by omega,.v ⟨(pc+1),L1,g1,(kA R1 (fI L1 y)),(v.set pc (fI L1 y)),⟨rfl,⟨hL2,hR2.with ⟨hf1,hf2⟩,⟨M,by rw[hM]⟩,by omega,t173,hok2.set (by omega) ⟨fun _=>⟨hf1,hf2,hf3.trans hy.symm⟩,fun hc=>absurd hcl hc⟩⟩⟩,rfl⟩ (he:=t48) (hk:=t44)⟩
     intro e7 qe7;refine c8z ?_;refine .rz ?_;exact ⟨_,by omega,.v ⟨(pc+1),L1,g1,R1,(v.set pc (fI L1 y)),⟨rfl,⟨hL2,hR2,⟨M,by rw[hM]⟩,by omega,t173,hok2.set (by omega) ⟨fun _=>⟨hf1,hf2,hf3.trans hy.symm⟩,fun hc=>absurd hcl hc⟩⟩⟩,rfl⟩ (he:=t48) (hk:=t44)⟩
    ·skip;refine .sg w7 (mkH 14 [0,0,2,0,14,30,0,127,255,511,511,0,3071,8191] [11,12] [] [0,2048,6144] [0,1,2,3,4,5,6,7,8,9,10]) 0 ?_;refine c118z ?_;refine c175z ?_;refine .p 1 ?_;refine .cl rfl rfl (fun _=>BF hu hw1 hit1 (by omega) hcl) ?_;refine .p 3 ?_;refine c208z ?_;refine .p 1 ?_;refine c35z ?_;refine c166z ?_;refine .seq ?_;refine .c9 [1,2,4,5,6,7,8,9,10,11] ?_;refine c138z ?_;refine .z ?_;refine c12z ?_;refine .rz ?_;exact ⟨_,by omega,.v ⟨(pc+1),L1,g1,R1,(v.set pc (-1)),⟨rfl,⟨hL1,hR1,⟨M,hM⟩,by omega,t173,hok.set (by omega) ⟨fun hc=>absurd hc hcl,fun _=>rfl⟩⟩⟩,rfl⟩ (he:=t48) (hk:=t44)⟩
   intro e4 qe4;refine .exit ?_;obtain rfl:pc=(g9 u (L.getD i j7)).length:=by omega
   refine g6.tU (t:=8) (γ:=h.length+6) (len:=(g9 u (L.getD i j7)).length) (by rw[v5];exact congrArg some (eR (by intro h0;have:=congrArg List.length h0;rw[l7]at this;simp only[List.length_nil]at this;omega)).symm) (by rw[l7,hv,Nat.mul_one]) (by omega) (pK _) (oC (by decide) rfl) ?_;rw[aE];simp only[u4,List.set_cons_succ,List.set_cons_zero];generalize eI _ _ _ _ _=Vb;change g6 ..;refine c1z ?_;refine .c9 [1,2,4,5,6] ?_;refine .rz ?_;have hP1:PI u L1 (CS++[v]) (i+1):=by rw[hM];exact hP.step hCS (by omega) hv (by rw[←hM];exact hok)
   have hs3:kJ u L1 (i+1)=kJ u L (i+1):=by rw[hM,HH (by omega)]
   exact ⟨_,by omega,.v ⟨(i+1),L1,g1,R1,(CS++[v]),⟨rfl,⟨hL1,hR1,by omega,by simp[hCS],hP1⟩⟩,rfl⟩ (he:=by (simp only[List.append_assoc,List.cons_append,List.nil_append,List.length_append,List.length_cons,List.length_nil,hCS];rfl)) (hk:=by exact (z5.refl _).app rfl ⟨.inl rfl,.inl rfl,.inr ((PD _).refs _),.inl rfl,.inr (dP.get ⟨.own _ _ _ _ (by simp),.own _ _ _ _ (by simp),.vec _ _,trivial⟩),.inr (by rw[o5];exact (PC _).refs _),trivial⟩) (hs:=t115)⟩
  intro e1 qe1;refine .exit ?_;obtain rfl:i=L.length:=by omega
  refine g6.yC (γ:=h.length+2) (β:=h.length+4) (k:=0) (off:=0) (len:=L.length) (cs:=v8 L) t47 rfl (by simp only[u6];omega) (by rw[List.drop_zero,List.take_of_length_le (by simp only[u6];omega)];exact (PD _).QM) t47 (by omega) rfl ?_;simp only[List.append_assoc,List.cons_append,List.nil_append,v5,u4,List.set_cons_succ,List.set_cons_zero,List.length_append,List.length_cons,List.length_nil,Nat.reduceAdd,Nat.zero_add];refine g6.mK (γ:=h.length+5) (β:=h.length+4) (k:=1) (len:=L.length) t47 (by rw[bL,hCS,Nat.mul_one]) (by omega) (PC _) t47 (by omega) rfl ?_;refine c24z ?_;refine .c9 [2,4] ?_;refine .z ?_;exact .ret (.ex (hq:=by exact ⟨⟨L,CS,R⟩,wc_of hu hL hR hCS hP,by simp only[LZ,hCS]⟩))
end
end Go.Proofs.YtapdldekgbbomaaGreatDoor
end
section
namespace Go.Un
open Go.Ab
def chI (it:aS)(x:Ins)(m:Int):Int:=if x.op=4∧wK it x.pl=m then 1 else if x.op=5∧wK it x.pl=m then -1 else 0
variable {it:aS}{x:Ins}{m:Int}
theorem chI_1 (h:x.op=4)(h2:wK it x.pl=m):chI it x m=1:=by rw[chI,if_pos ⟨h,h2⟩]
theorem chI_2 (h:x.op=5)(h2:wK it x.pl=m):chI it x m = -1:=by rw[chI,if_neg (by omega),if_pos ⟨h,h2⟩]
theorem chI_0 (h:¬(x.op=4∧wK it x.pl=m))(h2:¬(x.op=5∧wK it x.pl=m)):chI it x m=0:=by rw[chI,if_neg h,if_neg h2]
theorem O1:chI it x m=1∨chI it x m = -1∨chI it x m=0:=by
 unfold chI;split
 ·exact .inl rfl
 ·split
  ·exact .inr (.inl rfl)
  ·exact .inr (.inr rfl)
variable {pc:Nat}
theorem HJ {u:Un}(hu:WU u)(w:WIt u it)(hpc:pc<(g9 u it).length)(ho:((g9 u it).getD pc l5).op=4∨((g9 u it).getD pc l5).op=5):((g9 u it).getD pc l5).pl.param=true→0≤((g9 u it).getD pc l5).pl.index∧((g9 u it).getD pc l5).pl.index.toNat<it.n6.length:=by
 obtain ⟨_,_,h3,_⟩:=(uE hu w).2.2 pc hpc;intro hp;obtain ⟨h0,⟨_,h2⟩ | ⟨h1,_⟩⟩:=h3 ho
 ·refine ⟨h0,?_⟩;rw[w.len];simp only at h2;omega
 ·rw[hp]at h1;cases h1
def pR (x:Ins)(pc:Nat):List Int:=if x.op=8 then [] else if x.op=7 then [x.target] else if x.op=6 then (if x.target=(pc:Int)+1 then [x.target] else [min x.target ((pc:Int)+1),max x.target ((pc:Int)+1)]) else [(pc:Int)+1]
def mA (x:Ins)(pc:Nat):AV:=.vec (pR x pc).length (encI (pR x pc))
theorem HK (h:x.op=8):mA x pc=.vec 0 []:=by simp[mA,pR,h,encI]
theorem HL (h:x.op=7):mA x pc=.vec 1 [.int .i64 x.target]:=by simp[mA,pR,h,encI]
theorem V9 (h:x.op=6)(h2:x.target=(pc:Int)+1):mA x pc=.vec 1 [.int .i64 x.target]:=by simp[mA,pR,h,h2,encI]
theorem HM (h:x.op=6)(h2:¬x.target=(pc:Int)+1):mA x pc=.vec 2 [.int .i64 (min x.target ((pc:Int)+1)),.int .i64 (max x.target ((pc:Int)+1))]:=by simp[mA,pR,h,h2,encI]
theorem HN (h8:¬x.op=8)(h7:¬x.op=7)(h6:¬x.op=6):mA x pc=.vec 1 [.int .i64 ((pc:Int)+1)]:=by simp[mA,pR,h8,h7,h6,encI]
theorem HO:(pR x pc).length≤2:=by
 unfold pR;split
 ·simp
 ·split
  ·simp
  ·split
   ·split<;>simp
   ·simp
end Go.Un
end
section
namespace Go.Proofs.YtapdldekgbbomaaGreatDoor
open Go.Ab Go.Un
theorem eP {l:List Ins}{i:Nat}(h:i<l.length):List.take 12 (List.drop (i*12) (s3 l))=[.int .i64 (l.getD i l5).op,.int .i64 (l.getD i l5).target,.bool (l.getD i l5).global,.int .i64 (l.getD i l5).e.op,.int .i64 (l.getD i l5).e.num,.str (l.getD i l5).e.name,.vec (l.getD i l5).e.args.length (n9 (l.getD i l5).e.args),.bool (l.getD i l5).pl.param,.int .i64 (l.getD i l5).pl.index,.vec (l.getD i l5).pl.at'.length (n9 (l.getD i l5).pl.at'),.vec (l.getD i l5).ints.length (n9 (l.getD i l5).ints),.vec (l.getD i l5).places.length (dY (l.getD i l5).places)]:=by rw[read_in h,lI]
theorem RW (n:Nat):(List.replicate n [AV.int .i64 0]).flatten=encI (List.replicate n 0):=by
  induction n with
  | zero=>rfl
  | succ n ih=>simp only[List.replicate_succ,List.flatten_cons,ih];rfl
variable {h l:c8}{b0:Blk}{g:Nat}{a:Int}
theorem PF:iT h.length (h++(b0::⟨g,false,3,1,[.int .i64 a],0⟩::l)) 6 (.own (h.length+1) g 0 1)=some (.vec 1 [.int .i64 a]):=AZ (a:=[a]) t47 (by omega) rfl
theorem frz_2 {b:Int}:iT h.length (h++(b0::⟨g,false,3,1,[.int .i64 a,.int .i64 b],0⟩::l)) 6 (.own (h.length+1) g 0 2)=some (.vec 2 [.int .i64 a,.int .i64 b]):=AZ (a:=[a,b]) t47 (by omega) rfl
theorem vec2 {b c d:Int}(h1:a=c)(h2:b=d):AV.vec 2 [.int .i64 a,.int .i64 b]=AV.vec 2 [.int .i64 c,.int .i64 d]:=by rw[h1,h2]
theorem frz_13 {b1 b2:Blk}:iT h.length (h++(b0::b1::b2::⟨g,false,3,1,[.int .i64 a],0⟩::l)) 6 (.own (h.length+3) g 0 1)=some (.vec 1 [.int .i64 a]):=AZ (a:=[a]) t47 (by omega) rfl
theorem kK {C:Cfg}{ρ:Operand→AV}{c:Call}{r:Operand}{name:String}{t:TypeId}{v:AV}{f:FuncId}(hc:c.callee=.invoke r name)(hr:ρ r=.iface t v)(hm:C.BP t name=some f):aL C ρ c=some (f,v::c.args.toList.map ρ):=by simp only[aL,hc,hr,hm]
theorem BG:cfg.BP 199 "lockorder/flow.next" = some 141:=by kernel_rfl
theorem HP:cfg.BP 201 "lockorder/flow.next" = some 142:=by kernel_rfl
theorem uX:cfg.BP 202 "lockorder/flow.next" = some 143:=by kernel_rfl
theorem G4:cfg.BP 203 "lockorder/flow.next" = some 144:=by kernel_rfl
attribute [local go_sem] rd u6 z7 u5 n7 l7 Int.natCast_nonneg Int.natCast_inj cP bG cQ eP eY V8 RW List.length_set List.length_replicate Int.toNat_natCast_add_one EL wrap64 nH max2
variable {u:Un}{it:aS}{pc:Nat}
theorem c_fcode (hu:WU u)(w:WIt u it)(hpc:pc<(g9 u it).length):CB 77 [.agg [.vec u.globals.length (encI u.globals),.vec u.c6.length (j4 u.c6),.vec u.procs.length (r7 u.procs),.int .i64 u.main],.agg [.int .i64 it.proc,.vec it.n6.length (encI it.n6)],.int .i64 ((pc:Nat):Int)] h (.agg [.int .i64 ((g9 u it).getD pc l5).op,.int .i64 ((g9 u it).getD pc l5).target,.bool ((g9 u it).getD pc l5).global,.int .i64 ((g9 u it).getD pc l5).e.op,.int .i64 ((g9 u it).getD pc l5).e.num,.str ((g9 u it).getD pc l5).e.name,.vec ((g9 u it).getD pc l5).e.args.length (n9 ((g9 u it).getD pc l5).e.args),.bool ((g9 u it).getD pc l5).pl.param,.int .i64 ((g9 u it).getD pc l5).pl.index,.vec ((g9 u it).getD pc l5).pl.at'.length (n9 ((g9 u it).getD pc l5).pl.at'),.vec ((g9 u it).getD pc l5).ints.length (n9 ((g9 u it).getD pc l5).ints),.vec ((g9 u it).getD pc l5).places.length (dY ((g9 u it).getD pc l5).places)]):=by refine .bz Tryz.f77 17 ?_;have w1:=w.lo;have w2:=w.hi;have hsz:(g9 u it).length≤1664:=aY hu w;refine c263z ?_;refine .n ?_;exact .ret (.ex (hq:=by rfl))
theorem RX (it:aS)(p:Pl)(hp:p.param=true→0≤p.index∧p.index.toNat<it.n6.length):CB 78 [.agg [.int .i64 it.proc,.vec it.n6.length (encI it.n6)],.agg [.bool p.param,.int .i64 p.index,.vec p.at'.length (n9 p.at')]] h (.int .i64 (wK it p)):=by
  refine .bz Tryz.f78 28 ?_;refine c264z ?_;refine .spl 7 rfl rfl (fun e1=>?_) (fun e1=>?_)
  ·try simp only[e1]
   have qe1:=fact e1;refine .k 5 [(2,7)] ?_;refine .spl 12 rfl rfl (fun e2=>?_) (fun e2=>?_)
   ·try simp only[e2]
    have qe2:=fact e2;refine .m [(7,12)] ?_;refine u2z ?_ ?_
    ·intro e3 qe3;refine .c9 [2,3] ?_;refine .z ?_;exact .ret (.ex (hq:=t114))
    intro e3 qe3;refine .sk ?_;refine c189z ?_;exact .ret (.ex (hq:=t114))
   try simp only[e2]
   have qe2:=fact e2;refine .m [(7,12)] ?_;refine c22z ?_;refine c189z ?_;exact .ret (.ex (hq:=t114))
  try simp only[e1]
  have qe1:=fact e1;refine .k 8 [(2,7),(7,12)] ?_;refine .m [(7,12)] ?_;refine c22z ?_;refine c189z ?_;exact .ret (.ex (hq:=t114))
theorem PG (hu:WU u)(w:WIt u it)(hpc:pc<(g9 u it).length)(m:Int):CB 58 [.agg [.vec u.globals.length (encI u.globals),.vec u.c6.length (j4 u.c6),.vec u.procs.length (r7 u.procs),.int .i64 u.main],.agg [.int .i64 it.proc,.vec it.n6.length (encI it.n6)],.int .i64 ((pc:Nat):Int),.int .i64 m] h (.int .i64 (chI it ((g9 u it).getD pc l5) m)):=by
  refine .bz Tryz.f58 33 ?_;have w1:=w.lo;have w2:=w.hi;have hsz:(g9 u it).length≤1664:=aY hu w;refine c310z ?_;refine c55z ?_;refine c299z ?_;refine .spl 17 rfl rfl (fun e1=>?_) (fun e1=>?_)
  ·try simp only[e1]
   have qe1:=fact e1;refine .k 5 [(3,17)] ?_;refine .spl 22 rfl rfl (fun e2=>?_) (fun e2=>?_)
   ·try simp only[e2]
    have qe2:=fact e2;refine .m [(8,22)] ?_;refine c50z ?_;exact .ret (.ex (hq:=t16))
   try simp only[e2]
   have qe2:=fact e2;refine .k 3 [(8,22)] ?_;refine .ca rfl rfl (RX it ((g9 u it).getD pc l5).pl (HJ hu w hpc (by omega))) ?_;refine .m [(8,22)] ?_;refine u2z ?_ ?_
   ·intro e3 qe3;refine c4z ?_;exact .ret (.ex (hq:=t16))
   intro e3 qe3;refine c116z ?_;refine .c9 [9] ?_;refine .z ?_;refine u2z ?_ ?_
   ·intro e4 qe4;refine .z ?_;exact .ret (.ex (hq:=t16))
   intro e4 qe4;refine c241z ?_;exact .ret (.ex (hq:=t16))
  try simp only[e1]
  have qe1:=fact e1;refine .k 8 [(3,17),(8,22)] ?_;refine .ca rfl rfl (RX it ((g9 u it).getD pc l5).pl (HJ hu w hpc (by omega))) ?_;refine .m [(8,22)] ?_;refine u2z ?_ ?_
  ·intro e5 qe5;refine c4z ?_;exact .ret (.ex (hq:=t16))
  intro e5 qe5;refine c116z ?_;refine .c9 [9] ?_;refine .z ?_;refine u2z ?_ ?_
  ·intro e6 qe6;refine .z ?_;exact .ret (.ex (hq:=t16))
  intro e6 qe6;refine c241z ?_;exact .ret (.ex (hq:=t16))
theorem HQ (hu:WU u)(w:WIt u it)(hpc:pc<(g9 u it).length)(m:Int):CB 24 [.agg [.vec u.globals.length (encI u.globals),.vec u.c6.length (j4 u.c6),.vec u.procs.length (r7 u.procs),.int .i64 u.main],.agg [.int .i64 it.proc,.vec it.n6.length (encI it.n6)],.int .i64 ((pc:Nat):Int),.int .i64 m] h (.int .i64 (chI it ((g9 u it).getD pc l5) m)):=by
  refine .bz Tryz.f24 44 ?_;have w1:=w.lo;have w2:=w.hi;have hsz:(g9 u it).length≤1664:=aY hu w;refine c263z ?_;refine .n ?_;refine .sb ?_;refine c299z ?_;refine .spl 24 rfl rfl (fun e1=>?_) (fun e1=>?_)
  ·try simp only[e1]
   have qe1:=fact e1;refine .k 3 [(3,24)] ?_;refine .ca rfl rfl (HC it ((g9 u it).getD pc l5).pl (HJ hu w hpc (by omega))) ?_;refine .m [(3,24)] ?_;refine u2z ?_ ?_
   ·intro e2 qe2;refine c4z ?_;exact .ret (.ex (hq:=t16))
   intro e2 qe2;refine c299z ?_;refine .spl 36 rfl rfl (fun e3=>?_) (fun e3=>?_)
   ·try simp only[e3]
    have qe3:=fact e3;refine .k 3 [(3,36)] ?_;refine .ca rfl rfl (HC it ((g9 u it).getD pc l5).pl (HJ hu w hpc (by omega))) ?_;refine .m [(3,36)] ?_;refine u2z ?_ ?_
    ·intro e4 qe4;refine c4z ?_;exact .ret (.ex (hq:=t16))
    intro e4 qe4;refine c8z ?_;refine c4z ?_;exact .ret (.ex (hq:=t16))
   try simp only[e3]
   have qe3:=fact e3;refine .m [(3,36)] ?_;refine c54z ?_;refine c4z ?_;exact .ret (.ex (hq:=t16))
  try simp only[e1]
  have qe1:=fact e1;refine .m [(3,24)] ?_;refine .F ?_;refine c299z ?_;refine .spl 36 rfl rfl (fun e5=>?_) (fun e5=>?_)
  ·try simp only[e5]
   have qe5:=fact e5;refine .k 3 [(3,36)] ?_;refine .ca rfl rfl (HC it ((g9 u it).getD pc l5).pl (HJ hu w hpc (by omega))) ?_;refine .m [(3,36)] ?_;refine u2z ?_ ?_
   ·intro e6 qe6;refine c4z ?_;exact .ret (.ex (hq:=t16))
   intro e6 qe6;refine c8z ?_;refine c4z ?_;exact .ret (.ex (hq:=t16))
  try simp only[e5]
  have qe5:=fact e5;refine .m [(3,36)] ?_;refine c54z ?_;refine c4z ?_;exact .ret (.ex (hq:=t16))
theorem c_ended (pc:Nat):CB 141 [.agg [],.int .i64 ((pc:Nat):Int)] h (.vec 0 []):=by refine .bz Tryz.f141 5 ?_;refine c281z ?_;exact .ret (.ex (hq:=by rfl))
theorem c_jump (pc:Nat)(t:Int):CB 142 [.agg [.int .i64 t],.int .i64 ((pc:Nat):Int)] h (.vec 1 [.int .i64 t]):=by refine .bz Tryz.f142 8 ?_;refine c281z ?_;exact .ret (.ex (hf:=by first | rfl | exact PF) (hq:=by rfl))
theorem HR (pc:Nat)(hp:pc<100000):CB 144 [.agg [],.int .i64 ((pc:Nat):Int)] h (.vec 1 [.int .i64 ((pc:Int)+1)]):=by refine .bz Tryz.f144 8 ?_;refine c281z ?_;exact .ret (.ex (hf:=by first | rfl | exact PF) (hq:=by rfl))
theorem W0 (pc:Nat)(t:Int)(hp:pc<100000):CB 143 [.agg [.int .i64 t],.int .i64 ((pc:Nat):Int)] h (if t=(pc:Int)+1 then AV.vec 1 [AV.int .i64 t] else AV.vec 2 [AV.int .i64 (min t ((pc:Int)+1)),AV.int .i64 (max t ((pc:Int)+1))]):=by
  refine .bz Tryz.f143 24 ?_;refine c82z ?_;refine u2z ?_ ?_
  ·intro e1 qe1;refine .c9 [2] ?_;refine .z ?_;exact .ret (.ex (hf:=by first | rfl | first | exact PF | exact frz_2) (hq:=t107))
  intro e1 qe1;refine .sk ?_;refine c250z ?_;exact .ret (.ex (hf:=by first | rfl | first | exact PF | exact frz_2) (hq:=t107))
def RY (x:Ins):AV:=if x.op=8 then .iface 199 (.agg []) else if x.op=7 then .iface 201 (.agg [.int .i64 x.target]) else if x.op=6 then .iface 202 (.agg [.int .i64 x.target]) else .iface 203 (.agg [])
variable {x:Ins}
theorem RZ (h:x.op=8):RY x=.iface 199 (.agg []):=if_pos h
theorem SA (h:x.op=7):RY x=.iface 201 (.agg [.int .i64 x.target]):=by rw[RY,if_neg (by omega),if_pos h]
theorem HS (h:x.op=6):RY x=.iface 202 (.agg [.int .i64 x.target]):=by rw[RY,if_neg (by omega),if_neg (by omega),if_pos h]
theorem SB (h8:¬x.op=8)(h7:¬x.op=7)(h6:¬x.op=6):RY x=.iface 203 (.agg []):=by rw[RY,if_neg h8,if_neg h7,if_neg h6]
theorem HT (x:Ins):CB 76 [.agg [.int .i64 x.op,.int .i64 x.target,.bool x.global,.int .i64 x.e.op,.int .i64 x.e.num,.str x.e.name,.vec x.e.args.length (n9 x.e.args),.bool x.pl.param,.int .i64 x.pl.index,.vec x.pl.at'.length (n9 x.pl.at'),.vec x.ints.length (n9 x.ints),.vec x.places.length (dY x.places)]] h (RY x):=by
  refine .bz Tryz.f76 23 ?_;refine c25z ?_;refine .z ?_;refine u2z ?_ ?_
  ·intro e1 qe1;refine .z ?_;exact .ret (.ex (hq:=t79))
  intro e1 qe1;refine .z ?_;refine u2z ?_ ?_
  ·intro e2 qe2;refine c306z ?_;exact .ret (.ex (hq:=t79))
  intro e2 qe2;refine .z ?_;refine u2z ?_ ?_
  ·intro e3 qe3;refine c306z ?_;exact .ret (.ex (hq:=t79))
  intro e3 qe3;refine c8z ?_;refine c4z ?_;exact .ret (.ex (hq:=t79))
theorem c_next8 (hu:WU u)(w:WIt u it)(hpc:pc<(g9 u it).length)(ho:((g9 u it).getD pc l5).op=8):CB 57 [.agg [.vec u.globals.length (encI u.globals),.vec u.c6.length (j4 u.c6),.vec u.procs.length (r7 u.procs),.int .i64 u.main],.agg [.int .i64 it.proc,.vec it.n6.length (encI it.n6)],.int .i64 ((pc:Nat):Int)] h (mA ((g9 u it).getD pc l5) pc):=by refine .bz Tryz.f57 16 ?_;have w1:=w.lo;have w2:=w.hi;have hsz:(g9 u it).length≤1664:=aY hu w;refine c310z ?_;refine .ca rfl rfl ((HT ((g9 u it).getD pc l5)).mono fun y k hq=>⟨hq.1.trans (RZ ho),hq.2⟩) ?_;refine .n ?_;refine c265z ?_;refine q9.cq rfl (kK rfl rfl BG) hb141 (c_ended pc) ?_;refine .n ?_;exact .ret (.ex (hq:=by (exact (HK ho).symm)))
theorem c_next7 (hu:WU u)(w:WIt u it)(hpc:pc<(g9 u it).length)(ho:((g9 u it).getD pc l5).op=7):CB 57 [.agg [.vec u.globals.length (encI u.globals),.vec u.c6.length (j4 u.c6),.vec u.procs.length (r7 u.procs),.int .i64 u.main],.agg [.int .i64 it.proc,.vec it.n6.length (encI it.n6)],.int .i64 ((pc:Nat):Int)] h (mA ((g9 u it).getD pc l5) pc):=by refine .bz Tryz.f57 16 ?_;have w1:=w.lo;have w2:=w.hi;have hsz:(g9 u it).length≤1664:=aY hu w;refine c310z ?_;refine .ca rfl rfl ((HT ((g9 u it).getD pc l5)).mono fun y k hq=>⟨hq.1.trans (SA ho),hq.2⟩) ?_;refine .n ?_;refine c265z ?_;refine q9.cq rfl (kK rfl rfl HP) hb142 (c_jump pc _) ?_;refine .n ?_;exact .ret (.ex (hq:=by (exact (HL ho).symm)))
theorem PH (hu:WU u)(w:WIt u it)(hpc:pc<(g9 u it).length)(ho:((g9 u it).getD pc l5).op=6)(ht:((g9 u it).getD pc l5).target=(pc:Int)+1):CB 57 [.agg [.vec u.globals.length (encI u.globals),.vec u.c6.length (j4 u.c6),.vec u.procs.length (r7 u.procs),.int .i64 u.main],.agg [.int .i64 it.proc,.vec it.n6.length (encI it.n6)],.int .i64 ((pc:Nat):Int)] h (mA ((g9 u it).getD pc l5) pc):=by refine .bz Tryz.f57 16 ?_;have w1:=w.lo;have w2:=w.hi;have hsz:(g9 u it).length≤1664:=aY hu w;refine c310z ?_;refine .ca rfl rfl ((HT ((g9 u it).getD pc l5)).mono fun y k hq=>⟨hq.1.trans (HS ho),hq.2⟩) ?_;refine .n ?_;refine c265z ?_;refine q9.cq rfl (kK rfl rfl uX) hb143 ((W0 pc _ (by omega)).mono fun y k hq=>⟨hq.1.trans (if_pos ht),hq.2⟩) ?_;refine .n ?_;exact .ret (.ex (hq:=by (exact (V9 ho ht).symm)))
theorem c_next6 (hu:WU u)(w:WIt u it)(hpc:pc<(g9 u it).length)(ho:((g9 u it).getD pc l5).op=6)(ht:¬((g9 u it).getD pc l5).target=(pc:Int)+1):CB 57 [.agg [.vec u.globals.length (encI u.globals),.vec u.c6.length (j4 u.c6),.vec u.procs.length (r7 u.procs),.int .i64 u.main],.agg [.int .i64 it.proc,.vec it.n6.length (encI it.n6)],.int .i64 ((pc:Nat):Int)] h (mA ((g9 u it).getD pc l5) pc):=by refine .bz Tryz.f57 16 ?_;have w1:=w.lo;have w2:=w.hi;have hsz:(g9 u it).length≤1664:=aY hu w;refine c310z ?_;refine .ca rfl rfl ((HT ((g9 u it).getD pc l5)).mono fun y k hq=>⟨hq.1.trans (HS ho),hq.2⟩) ?_;refine .n ?_;refine c265z ?_;refine q9.cq rfl (kK rfl rfl uX) hb143 ((W0 pc _ (by omega)).mono fun y k hq=>⟨hq.1.trans (if_neg ht),hq.2⟩) ?_;refine .n ?_;exact .ret (.ex (hq:=by (exact (HM ho ht).symm)))
theorem c_nextn (hu:WU u)(w:WIt u it)(hpc:pc<(g9 u it).length)(h8:¬((g9 u it).getD pc l5).op=8)(h7:¬((g9 u it).getD pc l5).op=7)(h6:¬((g9 u it).getD pc l5).op=6):CB 57 [.agg [.vec u.globals.length (encI u.globals),.vec u.c6.length (j4 u.c6),.vec u.procs.length (r7 u.procs),.int .i64 u.main],.agg [.int .i64 it.proc,.vec it.n6.length (encI it.n6)],.int .i64 ((pc:Nat):Int)] h (mA ((g9 u it).getD pc l5) pc):=by refine .bz Tryz.f57 16 ?_;have w1:=w.lo;have w2:=w.hi;have hsz:(g9 u it).length≤1664:=aY hu w;refine c310z ?_;refine .ca rfl rfl ((HT ((g9 u it).getD pc l5)).mono fun y k hq=>⟨hq.1.trans (SB h8 h7 h6),hq.2⟩) ?_;refine .n ?_;refine c265z ?_;refine q9.cq rfl (kK rfl rfl G4) hb144 (HR pc (by omega)) ?_;refine .n ?_;exact .ret (.ex (hq:=by (exact (HN h8 h7 h6).symm)))
theorem c_nextF (hu:WU u)(w:WIt u it)(hpc:pc<(g9 u it).length):CB 57 [.agg [.vec u.globals.length (encI u.globals),.vec u.c6.length (j4 u.c6),.vec u.procs.length (r7 u.procs),.int .i64 u.main],.agg [.int .i64 it.proc,.vec it.n6.length (encI it.n6)],.int .i64 ((pc:Nat):Int)] h (mA ((g9 u it).getD pc l5) pc):=by
  by_cases h8:((g9 u it).getD pc l5).op=8
  · exact c_next8 hu w hpc h8
  by_cases h7:((g9 u it).getD pc l5).op=7
  · exact c_next7 hu w hpc h7
  by_cases h6:((g9 u it).getD pc l5).op=6
  · by_cases ht:((g9 u it).getD pc l5).target=(pc:Int)+1
    · exact PH hu w hpc h6 ht
    · exact c_next6 hu w hpc h6 ht
  exact c_nextn hu w hpc h8 h7 h6
variable {t:Int}
theorem kW_1 (h:a<t):kW [a] t=1:=by simp[kW,List.takeWhile,h]
theorem kW_0 (h:¬a<t):kW [a] t=0:=by simp[kW,List.takeWhile,h]
theorem HU (h:x.op=6):AV.vec (kA [(pc:Int)+1] x.target).length (encI (kA [(pc:Int)+1] x.target))=mA x pc:=by
  by_cases h2:x.target=(pc:Int)+1
  · rw[V9 h h2,kA,if_pos (by simp[h2])];rw[h2];rfl
  · rw[HM h h2,kA,if_neg t127]
    by_cases h3:(pc:Int)+1<x.target
    · rw[kW_1 h3,show min x.target ((pc:Int)+1)=(pc:Int)+1 from by omega,show max x.target ((pc:Int)+1)=x.target from by omega];rfl
    · rw[kW_0 h3,show min x.target ((pc:Int)+1)=x.target from by omega,show max x.target ((pc:Int)+1)=(pc:Int)+1 from by omega];rfl
theorem c_with1 {b1 b2:Blk}:CH 52 [.own (h.length+3) g 0 1,.int .i64 t] (h++[b0,b1,b2,⟨g,false,3,1,[.int .i64 a],0⟩]) (.vec (kA [a] t).length (encI (kA [a] t))) (h++[b0,b1,b2,⟨g,false,3,1,[.int .i64 a],1⟩]):=by refine CallA.K0 (β:=h.length+3) (off:=0) (len:=1) (b:=⟨g,false,3,1,[.int .i64 a],0⟩) (cs:=encI [a]) (args':=[.vec 1 (encI [a]),.int .i64 t]) t47 rfl (by simp) rfl ⟨.inr ⟨rfl,rfl⟩,.inl rfl,trivial⟩ ?_;rw[u4];exact HB (h:=h++[b0,b1,b2,⟨g,false,3,1,[.int .i64 a],1⟩]) [a] t (by simp)
theorem c_nextR (hu:WU u)(w:WIt u it)(hpc:pc<(g9 u it).length):CB 31 [.agg [.vec u.globals.length (encI u.globals),.vec u.c6.length (j4 u.c6),.vec u.procs.length (r7 u.procs),.int .i64 u.main],.agg [.int .i64 it.proc,.vec it.n6.length (encI it.n6)],.int .i64 ((pc:Nat):Int)] h (mA ((g9 u it).getD pc l5) pc):=by
  refine .bz Tryz.f31 38 ?_;have w1:=w.lo;have w2:=w.hi;have hsz:(g9 u it).length≤1664:=aY hu w;refine c263z ?_;refine c55z ?_;refine .c9 [2,7] ?_;refine c36z ?_;refine .z ?_;refine u2z ?_ ?_
  ·intro e1 qe1;refine .z ?_;exact .ret (.ex (hf:=t220) (hq:=t80))
  intro e1 qe1;refine .z ?_;refine u2z ?_ ?_
  ·intro e2 qe2;refine .z ?_;exact .ret (.ex (hf:=t220) (hq:=t80))
  intro e2 qe2;refine .z ?_;refine u2z ?_ ?_
  ·intro e3 qe3;refine .c9 [2,7] ?_;refine c40z ?_;refine .ch rfl rfl (c_with1) ?_;refine .n ?_;exact .ret (.ex (hf:=t220) (hq:=t80))
  intro e3 qe3;refine c8z ?_;refine .c9 [2] ?_;refine .z ?_;exact .ret (.ex (hf:=t220) (hq:=t80))
end Go.Proofs.YtapdldekgbbomaaGreatDoor
end
section
namespace Go.Un
open Go.Ab
def O2 (p:Int×Int):List AV:=[.int .i64 p.1,.int .i64 p.2]
def j6 (l:List (Int×Int)):List AV:=l.flatMap O2
theorem s7 (l:List (Int×Int)):(j6 l).length=2*l.length:=cH _ 2 (fun _=>rfl) l
theorem iX {l:List (Int×Int)}{i:Nat}(h:i<l.length):List.take 2 (List.drop (i*2) (j6 l))=[.int .i64 (l.getD i (0,0)).1,.int .i64 (l.getD i (0,0)).2]:=bM O2 2 (fun _=>rfl) (0,0) h
def ptI (c:Clo)(p:Int×Int):aS:=c.insts.getD p.1.toNat j7
def ptX (u:Un)(c:Clo)(p:Int×Int):Ins:=(g9 u (ptI c p)).getD p.2.toNat l5
def ptC (c:Clo)(p:Int×Int):Int:=(c.calls.getD p.1.toNat []).getD p.2.toNat 0
structure Ru where
 inst:Int
 op':Bool
 items:List (Int×Int)
def g7:Ru:=⟨0,false,[]⟩
def O3 (r:Ru):List AV:=[.int .i64 r.inst,.bool r.op',.vec r.items.length (j6 r.items)]
def encRus (l:List Ru):List AV:=l.flatMap O3
theorem v9 (l:List Ru):(encRus l).length=3*l.length:=cH _ 3 (fun _=>rfl) l
variable {l:List Ru}
theorem kB {i:Nat}(h:i<l.length):List.take 3 (List.drop (i*3) (encRus l))=[.int .i64 (l.getD i g7).inst,.bool (l.getD i g7).op',.vec (l.getD i g7).items.length (j6 (l.getD i g7).items)]:=bM O3 3 (fun _=>rfl) g7 h
structure Ef where
 lo:Int
 hi:Int
 net:Int
deriving DecidableEq
def W2:Ef:=⟨0,0,0⟩
def PJ (e:Ef):List AV:=[.int .i64 e.lo,.int .i64 e.hi,.int .i64 e.net]
def aG (l:List Ef):List AV:=l.flatMap PJ
theorem aT (l:List Ef):(aG l).length=3*l.length:=cH _ 3 (fun _=>rfl) l
theorem iY {l:List Ef}{i:Nat}(h:i<l.length):List.take 3 (List.drop (i*3) (aG l))=[.int .i64 (l.getD i W2).lo,.int .i64 (l.getD i W2).hi,.int .i64 (l.getD i W2).net]:=bM PJ 3 (fun _=>rfl) W2 h
def okE (e:Ef):Prop := -8≤e.lo∧e.lo≤0∧0≤e.hi∧e.hi≤8∧e.lo≤e.net∧e.net≤e.hi
instance (e:Ef):Decidable (okE e):=by unfold okE;infer_instance
def brE:Ef:=⟨-9,9,0⟩
def smE (e:Ef):Prop:=okE e∨e=brE
def ofE (n:Int):Ef:=⟨min n 0,max n 0,n⟩
def cmE (a b:Ef):Ef:=⟨min a.lo (a.net+b.lo),max a.hi (a.net+b.hi),a.net+b.net⟩
def thE (a b:Ef):Ef:=if okE a∧okE b∧okE (cmE a b) then cmE a b else brE
variable {a b:Ef}
theorem thE_sm:smE (thE a b):=by
 unfold thE;split
 ·rename_i h;exact .inl h.2.2
 ·exact .inr rfl
theorem ofE_ok {n:Int}(h1:-1≤n)(h2:n≤1):okE (ofE n):=by unfold okE ofE;simp only;omega
theorem thE_ok (ha:okE a)(hb:okE b)(hc:okE (cmE a b)):thE a b=cmE a b:=if_pos ⟨ha,hb,hc⟩
theorem thE_no (h:¬(okE a∧okE b∧okE (cmE a b))):thE a b=brE:=if_neg h
def BH (u:Un)(c:Clo)(r:Ru):Nat→List Int
 | 0=>[0]
 | i+1=>pR (ptX u c (r.inst,(r.items.getD i (0,0)).1)) (r.items.getD i (0,0)).1.toNat
def uY (u:Un)(c:Clo)(l:List Ru)(k:Nat)(r:Ru)(x:Int×Int)(last:Prop):Prop:=
 if (ptX u c (r.inst,x.1)).op=2 then 0≤x.2∧x.2<k∧(l.getD x.2.toNat g7).inst=ptC c (r.inst,x.1)∧((l.getD x.2.toNat g7).op'=true→last∧r.op'=true) else x.2 = -1
def pS (u:Un)(c:Clo)(l:List Ru)(k:Nat)(r:Ru)(i:Nat):Prop:=
 0≤(r.items.getD i (0,0)).1∧(r.items.getD i (0,0)).1<(g9 u (c.insts.getD r.inst.toNat j7)).length∧(r.items.getD i (0,0)).1∈BH u c r i∧
 ((ptX u c (r.inst,(r.items.getD i (0,0)).1)).op=8↔(i+1=r.items.length∧r.op'=false))∧uY u c l k r (r.items.getD i (0,0)) (i+1=r.items.length)
structure iD (u:Un)(c:Clo)(l:List Ru)(k:Nat):Prop where
 i0:0≤(l.getD k g7).inst
 i1:(l.getD k g7).inst<c.insts.length
 it:∀i,i<(l.getD k g7).items.length→pS u c l k (l.getD k g7) i
 ne:(l.getD k g7).op'=true∨0<(l.getD k g7).items.length
open Classical in
noncomputable def pT (u:Un)(c:Clo)(l:List Ru)(k:Nat):Bool:=decide (iD u c l k)
variable {u:Un}{c:Clo}{k:Nat}
theorem jQ:pT u c l k=true↔iD u c l k:=by simp[pT]
theorem fP (h:¬iD u c l k):pT u c l k=false:=by simp[pT,h]
def ZI (u:Un)(c:Clo)(m:Int)(bf:List Ef)(r:Ru)(x:Int×Int):Ef:=if x.2 = -1 then ofE (chI (ptI c (r.inst,x.1)) (ptX u c (r.inst,x.1)) m) else bf.getD x.2.toNat W2
def iZ (u:Un)(c:Clo)(m:Int)(bf:List Ef)(r:Ru)(j:Nat):Ef:=(r.items.take j).foldl (fun e x=>thE e (ZI u c m bf r x)) W2
variable {r:Ru}{j:Nat}
theorem rA {m:Int}{bf:List Ef}(h:j<r.items.length):iZ u c m bf r (j+1)=thE (iZ u c m bf r j) (ZI u c m bf r (r.items.getD j (0,0))):=by unfold iZ;rw[List.take_add_one,List.getElem?_eq_getElem h,List.foldl_append];simp[List.getD,h]
theorem pU {m:Int}{bf:List Ef}:∀{j:Nat},j≤r.items.length→smE (iZ u c m bf r j)
 | 0,_=>.inl (by unfold iZ okE W2;simp)
 | j+1,h=>by rw[rA (by omega)];exact thE_sm
def uZ (u:Un)(c:Clo)(m:Int)(l:List Ru):Nat→List Ef
 | 0=>[]
 | k+1=>uZ u c m l k++[iZ u c m (uZ u c m l k) (l.getD k g7) (l.getD k g7).items.length]
theorem fQ {u:Un}{c:Clo}{m:Int}{l:List Ru}:∀{k:Nat},(uZ u c m l k).length=k
 | 0=>rfl
 | k+1=>by simp[uZ,fQ (k:=k)]
theorem O4 {u:Un}{c:Clo}{m:Int}{l:List Ru}:∀{k:Nat},∀e∈uZ u c m l k,smE e
 | 0,e,h=>by simp[uZ]at h
 | k+1,e,h=>by
  simp only[uZ,List.mem_append,List.mem_singleton]at h;rcases h with h | rfl
  ·exact O4 e h
  ·exact pU (Nat.le_refl _)
theorem sV {e:Ef}(h:smE e):-9≤e.lo∧e.lo≤0∧0≤e.hi∧e.hi≤9 ∧ -9≤e.net∧e.net≤9:=by
 rcases h with h | rfl
 ·unfold okE at h;omega
 ·decide
def mxL:Int:=4611686018427387904
def plE (a b:Int):Int:=if a > mxL-b then mxL else a+b
def okN (a:Int):Prop:=0≤a∧a≤mxL
theorem W3 {a b:Int}(ha:okN a)(hb:okN b):okN (plE a b):=by unfold plE okN at*;split<;>omega
def KA (k:Nat)(zs:List Int)(n:Int)(x:Int×Int):Int:=if 0≤x.2∧x.2<k then plE (plE n 1) (zs.getD x.2.toNat 0) else plE n 1
def cZ (k:Nat)(zs:List Int)(r:Ru)(j:Nat):Int:=(r.items.take j).foldl (KA k zs) 0
variable {zs:List Int}
theorem jA (h:j<r.items.length):cZ k zs r (j+1)=KA k zs (cZ k zs r j) (r.items.getD j (0,0)):=by unfold cZ;rw[List.take_add_one,List.getElem?_eq_getElem h,List.foldl_append];simp[List.getD,h]
def bS (l:List Ru):Nat→List Int
 | 0=>[]
 | k+1=>bS l k++[cZ k (bS l k) (l.getD k g7) (l.getD k g7).items.length]
theorem jB {l:List Ru}:∀{k:Nat},(bS l k).length=k
 | 0=>rfl
 | k+1=>by simp[bS,jB (k:=k)]
theorem okN_0:okN 0:=by unfold okN mxL;omega
theorem PK:okN 1:=by unfold okN mxL;omega
theorem zN (h:∀x∈zs,okN x)(i:Nat):okN (zs.getD i 0):=by
 by_cases hi:i<zs.length
 ·exact h _ (l6 hi)
 ·rw[List.getD_eq_getElem?_getD,List.getElem?_eq_none (by omega)];exact okN_0
theorem lenJ_ok {n:Int}{x:Int×Int}(h:∀x∈zs,okN x)(hn:okN n):okN (KA k zs n x):=by
 unfold KA;split
 ·exact W3 (W3 hn PK) (zN h _)
 ·exact W3 hn PK
theorem mS {k:Nat}{zs:List Int}{r:Ru}(h:∀x∈zs,okN x):∀{j:Nat},j≤r.items.length→okN (cZ k zs r j)
 | 0,_=>okN_0
 | j+1,hj=>by rw[jA (by omega)];exact lenJ_ok h (mS h (by omega))
theorem lK {l:List Ru}:∀{k:Nat},∀x∈bS l k,okN x
 | 0,x,h=>by simp[bS]at h
 | k+1,x,h=>by
  simp only[bS,List.mem_append,List.mem_singleton]at h;rcases h with h | rfl
  ·exact lK x h
  ·exact mS (fun y hy=>lK y hy) (Nat.le_refl _)
def nN (l:List Ru):Int:=(bS l l.length).getD (l.length-1) 0
def PL (k:Nat)(ps:List (List (Int×Int)))(r:Ru)(x:Int×Int):List (Int×Int):=(x.1,r.inst)::(if 0≤x.2∧x.2<k then ps.getD x.2.toNat [] else [])
def u3 (k:Nat)(ps:List (List (Int×Int)))(r:Ru)(j:Nat):List (Int×Int):=(r.items.take j).flatMap (PL k ps r)
theorem gN {ps:List (List (Int×Int))}(h:j<r.items.length):u3 k ps r (j+1)=u3 k ps r j++PL k ps r (r.items.getD j (0,0)):=by unfold u3;rw[List.take_add_one,List.getElem?_eq_getElem h,List.flatMap_append];simp[List.getD,h]
def r9 (l:List Ru):Nat→List (List (Int×Int))
 | 0=>[]
 | k+1=>r9 l k++[u3 k (r9 l k) (l.getD k g7) (l.getD k g7).items.length]
theorem rB {l:List Ru}:∀{k:Nat},(r9 l k).length=k
 | 0=>rfl
 | k+1=>by simp[r9,rB (k:=k)]
theorem wX {l:List Ru}:∀{k j:Nat},j<k→(r9 l k).getD j []=u3 j (r9 l j) (l.getD j g7) (l.getD j g7).items.length
 | 0,_,h=>absurd h (Nat.not_lt_zero _)
 | k+1,j,h=>by
  by_cases hj:j<k
  ·rw[←wX hj];simp[r9,List.getD,List.getElem?_append_left (show j<(r9 l k).length from by rw[rB];exact hj)]
  ·obtain rfl:j=k:=by omega
   simp[r9,List.getD,rB]
theorem kL {l:List Ru}:∀{k j:Nat},j<k→(bS l k).getD j 0=cZ j (bS l j) (l.getD j g7) (l.getD j g7).items.length
 | 0,_,h=>absurd h (Nat.not_lt_zero _)
 | k+1,j,h=>by
  by_cases hj:j<k
  ·rw[←kL hj];simp[bS,List.getD,List.getElem?_append_left (show j<(bS l k).length from by rw[jB];exact hj)]
  ·obtain rfl:j=k:=by omega
   simp[bS,List.getD,jB]
def aR (l:List Ru)(k:Nat):List (Int×Int):=u3 k (r9 l k) (l.getD k g7) (l.getD k g7).items.length
def BI (l:List Ru)(k:Nat):Int:=cZ k (bS l k) (l.getD k g7) (l.getD k g7).items.length
theorem pV {x:Int×Int}:PL k (r9 l k) r x=(x.1,r.inst)::(if 0≤x.2∧x.2<k then aR l x.2.toNat else []):=by
 unfold PL;split
 ·rename_i h;rw[wX (by omega)];rfl
 ·rfl
theorem HV {a b:Int}{n m:Nat}(ha:a=min (n:Int) mxL)(hb:b=min (m:Int) mxL):plE a b=min ((n+m:Nat):Int) mxL:=by unfold plE mxL at*;split<;>omega
theorem wY {l:List Ru}{k:Nat}(ih:∀j,j<k→BI l j=min ((aR l j).length:Int) mxL):∀{j:Nat},j≤(l.getD k g7).items.length→cZ k (bS l k) (l.getD k g7) j=min (((u3 k (r9 l k) (l.getD k g7) j).length:Nat):Int) mxL
 | 0,_=>rfl
 | j+1,h=>by
  rw[jA (by omega),gN (by omega),pV,List.length_append];have h1:=wY ih (j:=j) (by omega);have h2:=HV h1 (show (1:Int)=min ((1:Nat):Int) mxL from rfl);unfold KA;by_cases hc:0≤((l.getD k g7).items.getD j (0,0)).2∧((l.getD k g7).items.getD j (0,0)).2<k
  ·rw[if_pos hc,if_pos hc,kL (by omega)];have h3:=HV h2 (ih ((l.getD k g7).items.getD j (0,0)).2.toNat (by omega));rw[show cZ ((l.getD k g7).items.getD j (0,0)).2.toNat (bS l ((l.getD k g7).items.getD j (0,0)).2.toNat) (l.getD ((l.getD k g7).items.getD j (0,0)).2.toNat g7) (l.getD ((l.getD k g7).items.getD j (0,0)).2.toNat g7).items.length=BI l ((l.getD k g7).items.getD j (0,0)).2.toNat from rfl,h3,List.length_cons];congr 2;omega
  ·rw[if_neg hc,if_neg hc,h2,List.length_singleton]
theorem PM:∀k,BI l k=min ((aR l k).length:Int) mxL:=fun k=>by
 induction k using Nat.strongRecOn with
 | ind k ih=>exact wY (fun j hj=>ih j hj) (Nat.le_refl _)
theorem HW (h:0<l.length):nN l=min ((aR l (l.length-1)).length:Int) mxL:=by unfold nN;rw[kL (by omega)];exact PM (l.length-1)
end Go.Un
end
section
namespace Go.Proofs.YtapdldekgbbomaaGreatDoor
open Go.Ab Go.Un
variable {a b:Int}
theorem mnI:(if b<a then b else a)=min a b:=by split<;>omega
theorem mxI:(if b > a then b else a)=max a b:=by split<;>omega
theorem agEf {d:Int}{e:Ef}(h1:a=e.lo)(h2:b=e.hi)(h3:d=e.net):AV.agg [.int .i64 a,.int .i64 b,.int .i64 d]=AV.agg [.int .i64 e.lo,.int .i64 e.hi,.int .i64 e.net]:=by rw[h1,h2,h3]
theorem agE {a b:Ef}(h:a=b):AV.agg [.int .i64 a.lo,.int .i64 a.hi,.int .i64 a.net]=AV.agg [.int .i64 b.lo,.int .i64 b.hi,.int .i64 b.net]:=by rw[h]
attribute [local go_sem] rd Int.natCast_nonneg Int.natCast_inj Int.toNat_natCast_add_one mnI mxI wrap64 nH max2
variable {h:c8}
theorem PN  : CB 41 [] h (.agg [.int .i64 (-9),.int .i64 9,.int .i64 0]):=by refine .bz Tryz.f41 2 ?_;refine c281z ?_;exact .ret (.ex (hq:=by rfl))
theorem O5 (a b d:Int):CB 42 [.agg [.int .i64 a,.int .i64 b,.int .i64 d]] h (.agg [.int .i64 a,.int .i64 b,.int .i64 d]):=by refine .bz Tryz.f42 10 ?_;refine c281z ?_;exact .ret (.ex (hq:=by rfl))
theorem c_brok  : CB 21 [] h (.agg [.int .i64 (-9),.int .i64 9,.int .i64 0]):=by refine .bz Tryz.f21 3 ?_;refine c73z ?_;refine .ca rfl rfl (PN) ?_;refine .ca rfl rfl (O5 _ _ _) ?_;refine .n ?_;exact .ret (.ex (hq:=by rfl))
theorem c_rbrok  : CB 61 [] h (.agg [.int .i64 (-9),.int .i64 9,.int .i64 0]):=by refine .bz Tryz.f61 2 ?_;refine c281z ?_;exact .ret (.ex (hq:=by rfl))
theorem HX (a:Ef):CB 43 [.agg [.int .i64 a.lo,.int .i64 a.hi,.int .i64 a.net]] h (.bool (decide (okE a))):=by
  refine .bz Tryz.f43 35 ?_;refine .z ?_;refine c30z ?_;refine .spl 6 rfl rfl (fun e1=>?_) (fun e1=>?_)
  ·try simp only[e1]
   have qe1:=fact e1;refine .k 5 [(3,6)] ?_;refine .spl 11 rfl rfl (fun e2=>?_) (fun e2=>?_)
   ·try simp only[e2]
    have qe2:=fact e2;refine .k 5 [(8,11)] ?_;refine .spl 16 rfl rfl (fun e3=>?_) (fun e3=>?_)
    ·try simp only[e3]
     have qe3:=fact e3;refine .k 5 [(13,16)] ?_;refine .spl 21 rfl rfl (fun e4=>?_) (fun e4=>?_)
     ·try simp only[e4]
      have qe4:=fact e4;refine .k 7 [(18,21)] ?_;refine .spl 28 rfl rfl (fun e5=>?_) (fun e5=>?_)
      ·try simp only[e5]
       have qe5:=fact e5;refine .m [(25,28)] ?_;exact .ret (.ex (hq:=t19))
      try simp only[e5]
      have qe5:=fact e5;refine .m [(25,28)] ?_;exact .ret (.ex (hq:=t19))
     try simp only[e4]
     have qe4:=fact e4;refine c119z ?_;exact .ret (.ex (hq:=t19))
    try simp only[e3]
    have qe3:=fact e3;refine c248z ?_;exact .ret (.ex (hq:=t19))
   try simp only[e2]
   have qe2:=fact e2;refine .k 8 [(8,11),(13,16)] ?_;refine .k 8 [(18,21)] ?_;refine .m [(25,28)] ?_;exact .ret (.ex (hq:=t19))
  try simp only[e1]
  have qe1:=fact e1;refine .k 8 [(3,6),(8,11)] ?_;refine c248z ?_;exact .ret (.ex (hq:=t19))
theorem zO (a:Ef):CB 60 [.agg [.int .i64 a.lo,.int .i64 a.hi,.int .i64 a.net]] h (.bool (decide (okE a))):=by
  refine .bz Tryz.f60 35 ?_;refine .z ?_;refine c30z ?_;refine .spl 6 rfl rfl (fun e1=>?_) (fun e1=>?_)
  ·try simp only[e1]
   have qe1:=fact e1;refine .k 5 [(3,6)] ?_;refine .spl 11 rfl rfl (fun e2=>?_) (fun e2=>?_)
   ·try simp only[e2]
    have qe2:=fact e2;refine .k 5 [(8,11)] ?_;refine .spl 16 rfl rfl (fun e3=>?_) (fun e3=>?_)
    ·try simp only[e3]
     have qe3:=fact e3;refine .k 5 [(13,16)] ?_;refine .spl 21 rfl rfl (fun e4=>?_) (fun e4=>?_)
     ·try simp only[e4]
      have qe4:=fact e4;refine .k 7 [(18,21)] ?_;refine .spl 28 rfl rfl (fun e5=>?_) (fun e5=>?_)
      ·try simp only[e5]
       have qe5:=fact e5;refine .m [(25,28)] ?_;exact .ret (.ex (hq:=t19))
      try simp only[e5]
      have qe5:=fact e5;refine .m [(25,28)] ?_;exact .ret (.ex (hq:=t19))
     try simp only[e4]
     have qe4:=fact e4;refine c119z ?_;exact .ret (.ex (hq:=t19))
    try simp only[e3]
    have qe3:=fact e3;refine c248z ?_;exact .ret (.ex (hq:=t19))
   try simp only[e2]
   have qe2:=fact e2;refine .k 8 [(8,11),(13,16)] ?_;refine .k 8 [(18,21)] ?_;refine .m [(25,28)] ?_;exact .ret (.ex (hq:=t19))
  try simp only[e1]
  have qe1:=fact e1;refine .k 8 [(3,6),(8,11)] ?_;refine c248z ?_;exact .ret (.ex (hq:=t19))
theorem c_of (n:Int)(h1:-1≤n)(h2:n≤1):CB 23 [.int .i64 n] h (.agg [.int .i64 (ofE n).lo,.int .i64 (ofE n).hi,.int .i64 (ofE n).net]):=by
  refine .bz Tryz.f23 17 ?_;refine c264z ?_;refine .spl 5 rfl rfl (fun e1=>?_) (fun e1=>?_)
  ·try simp only[e1]
   have qe1:=fact e1;refine .m [(2,5)] ?_;refine .T ?_;refine c231z ?_;refine .n ?_;exact .ret (.ex (hq:=t113))
  try simp only[e1]
  have qe1:=fact e1;refine .m [(2,5)] ?_;refine u2z ?_ ?_
  ·intro e2 qe2;refine c231z ?_;refine .n ?_;exact .ret (.ex (hq:=t113))
  intro e2 qe2;refine .sk ?_;refine c108z ?_;refine .ca rfl rfl (O5 _ _ _) ?_;refine .n ?_;exact .ret (.ex (hq:=t113))
theorem c_rof (n:Int)(h1:-1≤n)(h2:n≤1):CB 36 [.int .i64 n] h (.agg [.int .i64 (ofE n).lo,.int .i64 (ofE n).hi,.int .i64 (ofE n).net]):=by
  refine .bz Tryz.f36 16 ?_;refine c264z ?_;refine .spl 5 rfl rfl (fun e1=>?_) (fun e1=>?_)
  ·try simp only[e1]
   have qe1:=fact e1;refine .m [(2,5)] ?_;refine .T ?_;refine c226z ?_;refine .n ?_;exact .ret (.ex (hq:=t113))
  try simp only[e1]
  have qe1:=fact e1;refine .m [(2,5)] ?_;refine u2z ?_ ?_
  ·intro e2 qe2;refine c226z ?_;refine .n ?_;exact .ret (.ex (hq:=t113))
  intro e2 qe2;refine c241z ?_;exact .ret (.ex (hq:=t113))
theorem SD (a b:Ef)(ha:smE a)(hb:smE b):CB 22 [.agg [.int .i64 a.lo,.int .i64 a.hi,.int .i64 a.net],.agg [.int .i64 b.lo,.int .i64 b.hi,.int .i64 b.net]] h (.agg [.int .i64 (thE a b).lo,.int .i64 (thE a b).hi,.int .i64 (thE a b).net]):=by
  refine .bz Tryz.f22 43 ?_;have h1:=sV ha;have h2:=sV hb;refine c20z ?_;refine c159z ?_;refine .ca rfl rfl (HX a) ?_;refine .e 2 ?_;refine .spl 9 rfl rfl (fun e1=>?_) (fun e1=>?_)
  ·try simp only[e1]
   have qe1:=fact e1;refine .m [(3,9)] ?_;refine .T ?_;refine .c9 [4] ?_;refine c231z ?_;refine .n ?_;exact .ret (.ex (hq:=t53))
  try simp only[e1]
  have qe1:=fact e1;refine .k 1 [(3,9)] ?_;refine .ca rfl rfl (HX b) ?_;refine .m [(3,9)] ?_;refine u2z ?_ ?_
  ·intro e2 qe2;refine .c9 [4] ?_;refine c231z ?_;refine .n ?_;exact .ret (.ex (hq:=t53))
  intro e2 qe2;refine .sk ?_;refine .c9 [2,3,4] ?_;refine c135z ?_;refine .e 8 ?_;refine .e 6 ?_;refine .ca rfl rfl (O5 _ _ _) ?_;refine c55z ?_;refine .c9 [4,5] ?_;refine c159z ?_;refine .ca rfl rfl (HX (cmE a b)) ?_;refine .n ?_;refine u2z ?_ ?_
  ·intro e3 qe3;refine c231z ?_;refine .n ?_;exact .ret (.ex (hq:=t53))
  intro e3 qe3;refine c241z ?_;exact .ret (.ex (hq:=t53))
theorem HY (a b:Ef)(ha:smE a)(hb:smE b):CB 35 [.agg [.int .i64 a.lo,.int .i64 a.hi,.int .i64 a.net],.agg [.int .i64 b.lo,.int .i64 b.hi,.int .i64 b.net]] h (.agg [.int .i64 (thE a b).lo,.int .i64 (thE a b).hi,.int .i64 (thE a b).net]):=by
  refine .bz Tryz.f35 42 ?_;have h1:=sV ha;have h2:=sV hb;refine c20z ?_;refine c159z ?_;refine .ca rfl rfl (zO a) ?_;refine .e 2 ?_;refine .spl 9 rfl rfl (fun e1=>?_) (fun e1=>?_)
  ·try simp only[e1]
   have qe1:=fact e1;refine .m [(3,9)] ?_;refine .T ?_;refine .c9 [4] ?_;refine c226z ?_;refine .n ?_;exact .ret (.ex (hq:=t53))
  try simp only[e1]
  have qe1:=fact e1;refine .k 1 [(3,9)] ?_;refine .ca rfl rfl (zO b) ?_;refine .m [(3,9)] ?_;refine u2z ?_ ?_
  ·intro e2 qe2;refine .c9 [4] ?_;refine c226z ?_;refine .n ?_;exact .ret (.ex (hq:=t53))
  intro e2 qe2;refine .sk ?_;refine .c9 [2,3,4] ?_;refine c135z ?_;refine .e 8 ?_;refine c55z ?_;refine .c9 [4,5] ?_;refine c159z ?_;refine .ca rfl rfl (zO (cmE a b)) ?_;refine .n ?_;refine u2z ?_ ?_
  ·intro e3 qe3;refine c226z ?_;refine .n ?_;exact .ret (.ex (hq:=t53))
  intro e3 qe3;refine c241z ?_;exact .ret (.ex (hq:=t53))
end Go.Proofs.YtapdldekgbbomaaGreatDoor
end
section
namespace Go.Proofs.YtapdldekgbbomaaGreatDoor
open Go.Ab Go.Un
variable {i:Nat}
theorem jC {l:List (List Int)}(h:i<l.length):List.take 1 (List.drop i (z9 l))=[.vec (l.getD i []).length (encI (l.getD i []))]:=by unfold z9;rw[←List.map_drop,←List.map_take,List.drop_eq_getElem_cons h,List.take_succ_cons,List.take_zero];simp[List.getD,h]
variable {l:List Ru}
theorem fR (h:i<l.length):List.take 1 (List.drop (i*3) (encRus l))=[.int .i64 (l.getD i g7).inst]:=A6 O3 3 0 (fun _=>rfl) (by omega) g7 h
theorem fT (h:i<l.length):List.take 1 (List.drop (i*3+1) (encRus l))=[.bool (l.getD i g7).op']:=A6 O3 3 1 (fun _=>rfl) (by omega) g7 h
theorem fV (h:i<l.length):List.take 1 (List.drop (i*3+2) (encRus l))=[.vec (l.getD i g7).items.length (j6 (l.getD i g7).items)]:=A6 O3 3 2 (fun _=>rfl) (by omega) g7 h
theorem fW {l:List (Int×Int)}(h:i<l.length):List.take 1 (List.drop (i*2) (j6 l))=[.int .i64 (l.getD i (0,0)).1]:=A6 O2 2 0 (fun _=>rfl) (by omega) (0,0) h
theorem fY {l:List (Int×Int)}(h:i<l.length):List.take 1 (List.drop (i*2+1) (j6 l))=[.int .i64 (l.getD i (0,0)).2]:=A6 O2 2 1 (fun _=>rfl) (by omega) (0,0) h
theorem cW {o:Int}(h0:0≤o)(h1:o≤8):List.take 1 (List.drop o.toNat [AV.bool false,AV.bool false,AV.bool true,AV.bool false,AV.bool false,AV.bool false,AV.bool false,AV.bool false,AV.bool false])=[.bool (decide (o=2))]:=by
  have:o=0∨o=1∨o=2∨o=3∨o=4∨o=5∨o=6∨o=7∨o=8:=by omega
  rcases this with rfl | rfl | rfl | rfl | rfl | rfl | rfl | rfl | rfl<;>rfl
variable {u:Un}
theorem HZ (hu:WU u){it:aS}(w:WIt u it){pc:Nat}(hpc:pc<(g9 u it).length):1≤((g9 u it).getD pc l5).op∧((g9 u it).getD pc l5).op≤8:=((uE hu w).2.2 pc hpc).1
open Classical in
noncomputable def rC (u:Un)(c:Clo)(l:List Ru)(k:Nat)(r:Ru)(x:Int×Int)(last:Bool):Bool:=decide (uY u c l k r x (last=true))
variable {c:Clo}{k:Nat}{last:Bool}
theorem lL {r:Ru}{x:Int×Int}:rC u c l k r x last=true↔uY u c l k r x (last=true):=by simp[rC]
theorem citeB_e {r:Ru}{x:Int×Int}{b:Bool}(h:uY u c l k r x (last=true)↔b=true):b=rC u c l k r x last:=by
  cases b
  · have:rC u c l k r x last≠true:=fun e=>by have:=h.1 (lL.1 e);cases this
    cases hc:rC u c l k r x last
    · rfl
    · exact absurd hc this
  · exact (lL.2 (h.2 rfl)).symm
variable {f:List Int}{x:Int}
theorem IA (h:∀d,d<i→f.getD d 0≠x)(hi:f.length≤i):x∉f:=fun hm=>by obtain ⟨j,hj,rfl⟩:=List.mem_iff_getElem.1 hm;exact h j (by omega) (by simp[List.getD,hj])
theorem IB (e:x=f.getD i 0)(hi:i<f.length):x∈f:=e▸l6 hi
theorem SE (h:∀d,d<i→f.getD d 0≠x)(e:f.getD i 0≠x):∀d,d<i+1→f.getD d 0≠x:=fun d hd=>by
  by_cases hdi:d=i
  · rw[hdi];exact e
  · exact h d (by omega)
attribute [local go_sem] rd Int.natCast_nonneg Int.natCast_inj Int.toNat_natCast_add_one mnI mxI wrap64 nH max2 v9 s7 aT kB fR fT fV iX fW fY iY cW u6 z7 u5 n7 bL l7 cP cQ bG eP dW jC eY List.length_take lP
variable {h:c8}
theorem c_idx (f:List Int)(hf:f.length<1000000):CallA Tryz.prog cfg 75 [.vec f.length (encI f),.int .i64 x] h (fun y' h'=>(∃k:Int,y'=.int .i64 k∧(0≤k↔x∈f))∧h'=h):=by
  refine .bz Tryz.f75 19 ?_;refine c25z ?_;refine .jE (fun m st=>∃(i:Nat),(m=f.length-i∧((∀d,d<i→f.getD d 0≠x)∧i≤f.length))∧st=⟨mkS 19 [(0,AV.vec f.length (encI f)),(1,AV.int .i64 x),(7,AV.int .i64 ((f.length:Nat):Int)),(8,AV.int .i64 ((i:Nat):Int))],h⟩) _ (.v ⟨0,⟨rfl,⟨t104,by omega⟩⟩,rfl⟩) ?_;rintro m sl h' ⟨i,⟨hm,⟨hI,hi⟩⟩,hst⟩;obtain ⟨rfl,rfl⟩:=St.mk.inj hst;refine c20z ?_;refine u2z ?_ ?_
  ·intro e1 qe1;refine c177z ?_;refine .z ?_;refine u2z ?_ ?_
   ·intro e2 qe2;refine .c9 [5] ?_;refine c43z ?_;exact ⟨[],_,(List.append_nil _).symm,t66,t124⟩
   intro e2 qe2;refine c8z ?_;refine .c9 [0,1,7,8] ?_;refine .rz ?_;exact ⟨_,by omega,.v ⟨(i+1),⟨rfl,⟨SE hI (by omega),by omega⟩⟩,rfl⟩⟩
  intro e1 qe1;refine c163z ?_;exact ⟨[],_,(List.append_nil _).symm,t66,t124⟩
theorem SF (f:List Int)(hf:f.length<1000000):CB 55 [.vec f.length (encI f),.int .i64 x] h (.bool (decide (x∈f))):=by refine .bz Tryz.f55 9 ?_;refine .z ?_;refine c45z ?_;refine q9.cx rfl rfl hb75 (c_idx f hf) (fun y1 h1 hq1=>?_);obtain ⟨⟨k,rfl,hk⟩,rfl⟩:=hq1;refine c176z ?_;exact ⟨[],_,(List.append_nil _).symm,t66,by (exact congrArg AV.bool (decide_eq_decide.2 hk))⟩
theorem c_in (f:List Int)(hf:f.length<1000000):CB 59 [.vec f.length (encI f),.int .i64 x] h (.bool (decide (x∈f))):=by
  refine .bz Tryz.f59 18 ?_;refine c25z ?_;refine .jE (fun m st=>∃(i:Nat),(m=f.length-i∧((∀d,d<i→f.getD d 0≠x)∧i≤f.length))∧st=⟨mkS 18 [(0,AV.vec f.length (encI f)),(1,AV.int .i64 x),(5,AV.int .i64 ((i:Nat):Int))],h⟩) _ (.v ⟨0,⟨rfl,⟨t104,by omega⟩⟩,rfl⟩) ?_;rintro m sl h' ⟨i,⟨hm,⟨hI,hi⟩⟩,hst⟩;obtain ⟨rfl,rfl⟩:=St.mk.inj hst;refine c0z ?_;refine u2z ?_ ?_
  ·intro e1 qe1;refine c177z ?_;refine u2z ?_ ?_
   ·intro e2 qe2;refine c203z ?_;exact ⟨[],_,(List.append_nil _).symm,t66,t140⟩
   intro e2 qe2;refine c293z ?_;exact ⟨_,by omega,.v ⟨(i+1),⟨rfl,⟨SE hI (by omega),by omega⟩⟩,rfl⟩⟩
  intro e1 qe1;refine c163z ?_;exact ⟨[],_,(List.append_nil _).symm,t66,t140⟩
theorem O6 (hu:WU u)(wc:WC u c){i:Int}(h0:0≤i)(h1:i<c.insts.length):CB 54 [.agg [.vec u.globals.length (encI u.globals),.vec u.c6.length (j4 u.c6),.vec u.procs.length (r7 u.procs),.int .i64 u.main,.vec c.insts.length (v8 c.insts),.vec c.calls.length (z9 c.calls),.vec c.roots.length (encI c.roots),.vec l.length (encRus l)],.int .i64 i] h (.vec (g9 u (c.insts.getD i.toNat j7)).length (s3 (g9 u (c.insts.getD i.toNat j7)))):=by refine .bz Tryz.f54 18 ?_;have hml:=hu.ml;have hwl:=wc.len;have w:WIt u (c.insts.getD i.toNat j7):=wc.wi _ (l6 (by omega));have w1:=w.lo;have w2:=w.hi;refine .z ?_;refine .ss w7 (mkP 14 [0,1,3,0,8,24,0,120,248,504,1023,2047,4095,8191] []) ?_;refine c190z ?_;exact .ret (.ex (hq:=by rfl))
theorem c_cites (hu:WU u)(wc:WC u c)(hk:k<l.length)(hl:l.length<1000000)(hit:∀r∈l,r.items.length<1000000)(h0:0≤(l.getD k g7).inst)(h1:(l.getD k g7).inst<c.insts.length){x:Int×Int}(hx0:0≤x.1)(hx1:x.1<(g9 u (c.insts.getD (l.getD k g7).inst.toNat j7)).length)(last:Bool):CB 56 [.agg [.vec u.globals.length (encI u.globals),.vec u.c6.length (j4 u.c6),.vec u.procs.length (r7 u.procs),.int .i64 u.main,.vec c.insts.length (v8 c.insts),.vec c.calls.length (z9 c.calls),.vec c.roots.length (encI c.roots),.vec l.length (encRus l)],.int .i64 ((k:Nat):Int),.agg [.int .i64 x.1,.int .i64 x.2],.bool last] h (.bool (rC u c l k (l.getD k g7) x last)):=by
  refine .bz Tryz.f56 75 ?_;have hml:=hu.ml;have hwl:=wc.len;have hwc:=wc.cl;have hri:(l.getD k g7).items.length<1000000:=hit _ (l6 hk);have w:WIt u (c.insts.getD (l.getD k g7).inst.toNat j7):=wc.wi _ (l6 (by omega));have w1:=w.lo;have w2:=w.hi;have hsz:(g9 u (c.insts.getD (l.getD k g7).inst.toNat j7)).length≤1664:=aY hu w;have hwr:=wc.cll (l.getD k g7).inst.toNat (by omega);have hop:=HZ hu w (pc:=x.1.toNat) (by omega);refine c136z ?_;refine .c9 [1,3,4,6,9] ?_;refine .ss w7 (mkP 12 [0,0,2,7,0,16,63,127,255,511,1023,2047] []) ?_;refine .k 3 [] ?_;refine .ca rfl rfl (O6 hu wc h0 h1) ?_;refine .n [] ?_;refine u2z ?_ ?_
  ·intro e1 qe1;refine .c9 [6] ?_;refine .z ?_;exact .ret (.ex (hq:=t17))
  intro e1 qe1;refine c116z ?_;refine .c9 [1,3,4,6,9] ?_;refine .ss w7 (mkP 30 [0,1,3,7,15,31,15,127,255,511,1023,2047,1023,5119,16383,32767,65535,1023,132095,394239,1023,1049599,4064255,8258559,1023,16778239,66978815,134087679,268435455,536870911] []) ?_;refine .k 4 [] ?_;refine .spl 33 rfl rfl (fun e2=>?_) (fun e2=>?_)
  ·try simp only[e2]
   have qe2:=fact e2;refine .k 8 [(3,33),(9,39)] ?_;refine .k 8 [(9,39)] ?_;refine .k 8 [(9,39)] ?_;refine .n [(9,39)] ?_;refine c50z ?_;exact .ret (.ex (hq:=t17))
  try simp only[e2]
  have qe2:=fact e2;refine .k 6 [(3,33)] ?_;refine .spl 39 rfl rfl (fun e3=>?_) (fun e3=>?_)
  ·try simp only[e3]
   have qe3:=fact e3;refine .k 8 [(9,39)] ?_;refine .k 8 [(9,39)] ?_;refine .n [(9,39)] ?_;refine c50z ?_;exact .ret (.ex (hq:=t17))
  try simp only[e3]
  have qe3:=fact e3;refine .k 8 [(9,39)] ?_;refine .k 8 [(9,39)] ?_;refine .n [(9,39)] ?_;refine u2z ?_ ?_
  ·intro e4 qe4;refine c4z ?_;exact .ret (.ex (hq:=t17))
  intro e4 qe4;refine .sk ?_;refine .c9 [3,4,6,9] ?_;refine c135z ?_;refine .e 1 ?_;refine .spl 68 rfl rfl (fun e5=>?_) (fun e5=>?_)
  ·try simp only[e5]
   have qe5:=fact e5;refine .m [(8,68),(10,70)] ?_;exact .ret (.ex (hq:=t17))
  try simp only[e5]
  have qe5:=fact e5;refine .k 2 [(8,68)] ?_;refine .spl 70 rfl rfl (fun e6=>?_) (fun e6=>?_)
  ·try simp only[e6]
   have qe6:=fact e6;refine .m [(8,68),(10,70)] ?_;exact .ret (.ex (hq:=t17))
  try simp only[e6]
  have qe6:=fact e6;refine .m [(8,68),(10,70)] ?_;exact .ret (.ex (hq:=t17))
end Go.Proofs.YtapdldekgbbomaaGreatDoor
end
section
namespace Go.Proofs.YtapdldekgbbomaaGreatDoor
open Go.Ab Go.Un
variable {a b:Int}
theorem plE_v (ha:okN a)(hb:okN b):(a > 4611686018427387904-b→plE a b=4611686018427387904)∧(¬a > 4611686018427387904-b→plE a b=a+b):=⟨fun h=>if_pos h,fun h=>if_neg h⟩
structure LSt (l:List Ru)(k:Nat)(v:Int)(zs:List Int):Prop where
  len:zs.length=l.length
  bef:∀d,d<k→zs.getD d 0=BI l d
  at':zs.getD k 0=v
  aft:∀d,k<d→zs.getD d 0=0
variable {l:List Ru}
theorem LSt.zero:LSt l 0 0 (List.replicate l.length 0):=by
  have hz:∀d,(List.replicate l.length (0:Int)).getD d 0=0:=fun d=>by rw[List.getD_eq_getElem?_getD,List.getElem?_replicate];split<;>rfl
  exact ⟨by simp,fun d hd=>by omega,hz _,fun d _=>hz d⟩
variable {zs:List Int}{k:Nat}{x:Int}
theorem pW (h:k<zs.length):(zs.set k x).getD k 0=x:=by simp[List.getD,h]
theorem getD_set_ne {d:Nat}(h:d≠k):(zs.set k x).getD d 0=zs.getD d 0:=by simp only[List.getD_eq_getElem?_getD,List.getElem?_set_ne (Ne.symm h)]
theorem LSt.set {v w:Int}(h:LSt l k v zs)(hk:k<l.length):LSt l k w (zs.set k w):=
  ⟨by rw[List.length_set];exact h.len,fun d hd=>by rw[getD_set_ne (by omega)];exact h.bef d hd,pW (by rw[h.len];exact hk),fun d hd=>by rw[getD_set_ne (by omega)];exact h.aft d hd⟩
theorem LSt.next {j:Nat}(h:LSt l k (cZ k (bS l k) (l.getD k g7) j) zs)(hj:(l.getD k g7).items.length≤j)(hi:j≤(l.getD k g7).items.length):LSt l (k+1) 0 zs:=by
  obtain rfl:j=(l.getD k g7).items.length:=by omega
  refine ⟨h.len,fun d hd=>?_,h.aft _ (by omega),fun d hd=>h.aft d (by omega)⟩;by_cases e:d=k
  · rw[e];exact h.at'
  · exact h.bef d (by omega)
theorem LSt.all {v:Int}(h:LSt l k v zs)(hk:l.length≤k):zs=bS l l.length:=by refine List.ext_getElem (by rw[jB,h.len]) fun d k1 k2=>?_;have h1:=h.bef d (by have:=h.len;omega);have h2:=kL (l:=l) (k:=l.length) (j:=d) (by rw[h.len]at k1;exact k1);have h3:BI l d=(bS l l.length).getD d 0:=h2.symm;rw[h3]at h1;simpa [List.getD,k1,k2] using h1
theorem O7:okN (BI l k):=mS (fun x hx=>lK x hx) (Nat.le_refl _)
variable {n:Int}
theorem SG {x:Int×Int}(h:0≤x.2∧x.2<k):KA k (bS l k) n x=plE (plE n 1) (BI l x.2.toNat):=by unfold KA;rw[if_pos h,kL (by omega)];rfl
theorem SH {x:Int×Int}(h:¬(0≤x.2∧x.2<k)):KA k (bS l k) n x=plE n 1:=if_neg h
theorem LSt.yes {l:List Ru}{k j:Nat}{zs:List Int}{a b:Int}(h:LSt l k (cZ k (bS l k) (l.getD k g7) j) zs)(hk:k<l.length)(hj:j<(l.getD k g7).items.length)(hx:0≤((l.getD k g7).items.getD j (0,0)).2∧((l.getD k g7).items.getD j (0,0)).2<k)
    (ha:a=plE (cZ k (bS l k) (l.getD k g7) j) 1) (hb:b=plE a (BI l ((l.getD k g7).items.getD j (0,0)).2.toNat)):LSt l k (cZ k (bS l k) (l.getD k g7) (j+1)) ((zs.set k a).set k b):=by
  have e:cZ k (bS l k) (l.getD k g7) (j+1)=b:=by rw[jA hj,SG hx,hb,ha]
  rw[e];exact (h.set (w:=a) hk).set hk
theorem LSt.no {l:List Ru}{k j:Nat}{zs:List Int}{a:Int}(h:LSt l k (cZ k (bS l k) (l.getD k g7) j) zs)(hk:k<l.length)(hj:j<(l.getD k g7).items.length)(hx:¬(0≤((l.getD k g7).items.getD j (0,0)).2∧((l.getD k g7).items.getD j (0,0)).2<k))
    (ha:a=plE (cZ k (bS l k) (l.getD k g7) j) 1):LSt l k (cZ k (bS l k) (l.getD k g7) (j+1)) (zs.set k a):=by
  have e:cZ k (bS l k) (l.getD k g7) (j+1)=a:=by rw[jA hj,SH hx,ha]
  rw[e];exact h.set hk
theorem min_a {z:Int}{x:Int×Int}(h:0≤x.2∧x.2<k)(hn:okN n)(hz:z=BI l x.2.toNat):min (min (n+1) 4611686018427387904) (4611686018427387904-z)+z=KA k (bS l k) n x:=by have h1:okN z:=hz▸O7;rw[SG h,←hz];unfold okN mxL at*;unfold plE mxL;split<;>split<;>omega
theorem min_b {x:Int×Int}(h:¬(0≤x.2∧x.2<k))(hn:okN n):min (n+1) 4611686018427387904=KA k (bS l k) n x:=by rw[SH h];unfold okN mxL at*;unfold plE mxL;split<;>omega
theorem SI (h:l.length=0):(0:Int)=nN l:=by rw[List.length_eq_zero_iff.1 h];rfl
theorem SJ {i:Nat}(hk:k=l.length)(h:i=l.length-1):(bS l k).getD i 0=nN l:=by subst hk h;rfl
theorem eqEf {a b:Ef}:eqA cfg 4 63 (.agg [.int .i64 a.lo,.int .i64 a.hi,.int .i64 a.net]) (.agg [.int .i64 b.lo,.int .i64 b.hi,.int .i64 b.net])=some (decide (a=b)):=by
  have e:eqA cfg 4 63 (.agg [.int .i64 a.lo,.int .i64 a.hi,.int .i64 a.net]) (.agg [.int .i64 b.lo,.int .i64 b.hi,.int .i64 b.net])=(match some (a.lo==b.lo) with
    | some true=>(match some (a.hi==b.hi) with
      | some true=>(match some (a.net==b.net) with
        | some true=>some true
        | some false=>some false
        | none=>none)
      | some false=>some false
      | none=>none)
    | some false=>some false
    | none=>none):=rfl
  rw[e];obtain ⟨a1,a2,a3⟩:=a;obtain ⟨b1,b2,b3⟩:=b;rcases Bool.eq_false_or_eq_true (a1==b1) with h1 | h1<;>rcases Bool.eq_false_or_eq_true (a2==b2) with h2 | h2<;>rcases Bool.eq_false_or_eq_true (a3==b3) with h3 | h3<;>simp only[h1,h2,h3]<;>simp_all
theorem eqIm {y:Int}:eqA cfg 4 55 (.agg [.int .i64 a,.int .i64 b]) (.agg [.int .i64 x,.int .i64 y])=some (decide ((a,b)=(x,y))):=by
  have e:eqA cfg 4 55 (.agg [.int .i64 a,.int .i64 b]) (.agg [.int .i64 x,.int .i64 y])=(match some (a==x) with
    | some true=>(match some (b==y) with
      | some true=>some true
      | some false=>some false
      | none=>none)
    | some false=>some false
    | none=>none):=rfl
  rw[e];rcases Bool.eq_false_or_eq_true (a==x) with h1 | h1<;>rcases Bool.eq_false_or_eq_true (b==y) with h2 | h2<;>simp only[h1,h2]<;>simp_all
theorem im_eq {p q:Int×Int}(h:(p.1,p.2)=(q.1,q.2)):p=q:=h
theorem ext_I {a b:List (Int×Int)}(hl:a.length=b.length)(h:∀d,d<a.length→a.getD d (0,0)=b.getD d (0,0)):a=b:=by refine List.ext_getElem hl fun d k1 k2=>?_;have:=h d k1;simpa [List.getD,k1,k2] using this
theorem ext_E {a b:List Ef}(hl:a.length=b.length)(h:∀d,d<a.length→a.getD d W2=b.getD d W2):a=b:=by refine List.ext_getElem hl fun d k1 k2=>?_;have:=h d k1;simpa [List.getD,k1,k2] using this
attribute [local go_sem] rd Int.natCast_nonneg Int.natCast_inj Int.toNat_natCast_add_one mnI mxI wrap64 nH max2 v9 s7 aT kB fR fT fV iX fW fY iY cW u6 z7 u5 n7 bL l7 cP cQ bG eP dW jC eY List.length_take lP eqEf eqIm V8 RW EL List.length_set List.length_replicate jB
variable {h:c8}
theorem SK (ha:okN a)(hb:okN b):CB 63 [.int .i64 a,.int .i64 b] h (.int .i64 (plE a b)):=by
  refine .bz Tryz.f63 12 ?_;have h1:0≤a∧a≤4611686018427387904:=ha;have h2:0≤b∧b≤4611686018427387904:=hb;refine c82z ?_;refine u2z ?_ ?_
  ·intro e1 qe1;refine c43z ?_;exact ⟨[],_,(List.append_nil _).symm,t66,t162⟩
  intro e1 qe1;refine .sk ?_;refine c43z ?_;exact ⟨[],_,(List.append_nil _).symm,t66,t162⟩
theorem keep_z (a b:List Int):z5 (h++[⟨0,false,3,1,encI a,0⟩]) (h++[⟨0,false,3,1,encI b,0⟩]):=(z5.refl h).app rfl ⟨.inr ((pK _).refs _),trivial⟩
theorem O8 (a b:List Int)(r:Blk):z5 (h++[⟨0,false,3,1,encI a,0⟩,r]) (h++[⟨0,false,3,1,encI b,0⟩,r]):=(z5.refl h).app rfl ⟨.inr ((pK _).refs _),.inl rfl,trivial⟩
theorem IC (hl:l.length<1000000)(hit:∀r∈l,r.items.length<1000000):CB 40 [.vec l.length (encRus l)] h (.vec l.length (encI (bS l l.length))):=by
  refine .bz Tryz.f40 58 ?_;refine c87z ?_;refine .aD (fun m st=>∃(k:Nat) (zs:List Int),(m=l.length-k∧(LSt l k 0 zs∧k≤l.length))∧st=⟨mkS 58 [(3,AV.own h.length 0 0 l.length),(11,AV.vec l.length (encRus l)),(12,AV.int .i64 ((l.length:Nat):Int)),(13,AV.int .i64 ((k:Nat):Int))],h++[⟨0,false,3,1,encI zs,0⟩]⟩) (.v ⟨0,(List.replicate l.length 0),⟨rfl,⟨LSt.zero,by omega⟩⟩,rfl⟩) ?_;rintro m sl h' ⟨k,zs,⟨hm,⟨hZ,hk0⟩⟩,hst⟩;obtain ⟨rfl,rfl⟩:=St.mk.inj hst;clear hst;have hzl:=hZ.len;refine c20z ?_;refine u2z ?_ ?_
  ·intro e1 qe1;refine c177z ?_;have hri:(l.getD k g7).items.length<1000000:=hit _ (l6 (by omega));refine c36z ?_;refine .aD (fun m st=>∃(j:Nat) (zs1:List Int),(m=(l.getD k g7).items.length-j∧(LSt l k (cZ k (bS l k) (l.getD k g7) j) zs1∧j≤(l.getD k g7).items.length))∧st=⟨mkS 58 [(3,AV.own h.length 0 0 l.length),(4,AV.int .i64 ((k:Nat):Int)),(11,AV.vec l.length (encRus l)),(12,AV.int .i64 ((l.length:Nat):Int)),(13,AV.int .i64 ((k:Nat):Int)),(19,AV.vec (l.getD k g7).items.length (j6 (l.getD k g7).items)),(20,AV.int .i64 (((l.getD k g7).items.length:Nat):Int)),(21,AV.int .i64 ((j:Nat):Int))],h++[⟨0,false,3,1,encI zs1,0⟩,⟨0,false,53,3,[.int .i64 (l.getD k g7).inst,.bool (l.getD k g7).op',.vec (l.getD k g7).items.length (j6 (l.getD k g7).items)],0⟩]⟩) (.v ⟨0,zs,⟨rfl,⟨hZ,by omega⟩⟩,rfl⟩) ?_;rintro m sl h' ⟨j,zs1,⟨hm,⟨hZ1,hj⟩⟩,hst⟩;obtain ⟨rfl,rfl⟩:=St.mk.inj hst;clear hst;have hzl1:=hZ1.len;have hn0:okN (cZ k (bS l k) (l.getD k g7) j):=mS (fun x hx=>lK x hx) (by omega);refine c20z ?_;refine u2z ?_ ?_
   ·intro e2 qe2;refine c5z ?_;refine c73z ?_;refine .e 6 ?_;refine .ca rfl rfl (SK (hZ1.at'.symm▸hn0) PK) ?_;refine .n ?_;refine .c9 [3,4,7,11,12,13,19,20,21] ?_;refine c30z ?_;refine .spl 36 rfl rfl (fun e3=>?_) (fun e3=>?_)
    ·try simp only[e3]
     have qe3:=fact e3;refine .m [(3,36)] ?_;refine u2z ?_ ?_
     ·intro e4 qe4;refine .c9 [3,4,7,11,12,13,19,20,21] ?_;have hzl2:(zs1.set k (plE (zs1.getD k 0) 1)).length=l.length:=by rw[List.length_set];exact hzl1
      have hg2:(zs1.set k (plE (zs1.getD k 0) 1)).getD ((l.getD k g7).items.getD j (0,0)).2.toNat 0=BI l ((l.getD k g7).items.getD j (0,0)).2.toNat:=by rw[getD_set_ne (by omega)];exact hZ1.bef _ (by omega)
      have hg1:(zs1.set k (plE (zs1.getD k 0) 1)).getD k 0=plE (cZ k (bS l k) (l.getD k g7) j) 1:=by rw[pW (by omega),hZ1.at']
      refine .so w7 (mkP 14 [0,0,0,0,12,28,0,0,128,448,960,2044,4095,8191] [13]) ?_;refine .k 8 [] ?_;refine .k 3 [] ?_;refine .ca rfl rfl (SK (by rw[hg1];exact W3 hn0 PK) (by rw[hg2];exact O7)) ?_;refine c86z ?_;refine c280z ?_;exact ⟨_,by omega,.v ⟨(j+1),((zs1.set k (plE (zs1.getD k 0) 1)).set k (plE ((zs1.set k (plE (zs1.getD k 0) 1)).getD k 0) ((zs1.set k (plE (zs1.getD k 0) 1)).getD ((l.getD k g7).items.getD j (0,0)).2.toNat 0))),⟨rfl,⟨hZ1.yes (by omega) (by omega) (by omega) (by rw[hZ1.at']) (by rw[hg1,hg2,hZ1.at']),by omega⟩⟩,rfl⟩ (he:=t29) (hk:=by exact O8 _ _ _)⟩
     intro e4 qe4;refine c8z ?_;refine c280z ?_;exact ⟨_,by omega,.v ⟨(j+1),(zs1.set k (plE (zs1.getD k 0) 1)),⟨rfl,⟨hZ1.no (by omega) (by omega) (by omega) (by rw[hZ1.at']),by omega⟩⟩,rfl⟩ (he:=t29) (hk:=by exact O8 _ _ _)⟩
    try simp only[e3]
    have qe3:=fact e3;refine .m [(3,36)] ?_;refine c54z ?_;refine c280z ?_;exact ⟨_,by omega,.v ⟨(j+1),(zs1.set k (plE (zs1.getD k 0) 1)),⟨rfl,⟨hZ1.no (by omega) (by omega) (by omega) (by rw[hZ1.at']),by omega⟩⟩,rfl⟩ (he:=t29) (hk:=by exact O8 _ _ _)⟩
   intro e2 qe2;refine c12z ?_;refine .rz ?_;exact ⟨_,by omega,.v ⟨(k+1),zs1,⟨rfl,⟨hZ1.next (by omega) (by omega),by omega⟩⟩,rfl⟩ (he:=t29) (hk:=by exact keep_z _ _)⟩
  intro e1 qe1;refine c163z ?_;exact ⟨_,_,rfl,AZ t191 (Nat.le_refl _) hZ.len,by (rw[hZ.all (by omega)])⟩
variable {lock:Int}
theorem zP {xi xp xd:Int}(hl:l.length<1000000)(hit:∀r∈l,r.items.length<1000000):CB 18 [.agg [.int .i64 lock,.int .i64 xi,.int .i64 xp,.int .i64 xd,.vec l.length (encRus l)]] h (.int .i64 (nN l)):=by
  refine .bz Tryz.f18 16 ?_;have hll:=jB (l:=l) (k:=l.length);refine c82z ?_;refine u2z ?_ ?_
  ·intro e1 qe1;refine .z ?_;exact .ret (.ex (hq:=by exact congrArg (AV.int .i64) (SI (by omega))))
  intro e1 qe1;refine .sk ?_;refine .ss w7 (mkP 10 [0,1,3,0,8,24,56,127,255,511] []) ?_;refine .k 2 [] ?_;refine .ca rfl rfl (IC hl hit) ?_;refine .n [] ?_;exact .ret (.ex (hq:=by exact congrArg (AV.int .i64) (SJ rfl (by omega))))
theorem keep_y (b0:Blk){g1 g2:Nat}(a b:List Int):z5 (h++[b0,n4 3 1 g1 (encI a)]) (h++[b0,n4 3 1 g2 (encI b)]):=(z5.refl h).app rfl ⟨.inl rfl,.inr t219,trivial⟩
theorem BJ {e g:Nat}{f:List Int}(h:0<f.length):(n4 e 1 g (encI f)).cG=false:=by
  cases f with
  | nil=>simp at h
  | cons x f=>rfl
theorem app_z {l:c8}{b0:Blk}{f:List Int}{n:Nat}(hn:f.length=n)(hl:n<1000000):g8 cfg 3 (h++(b0::n4 3 1 n (encI f)::⟨0,false,3,1,[.int .i64 x],0⟩::l)) (.own (h.length+1) n 0 n) (.own (h.length+2) 0 0 1)=some (.own (h.length+1) (n+1) 0 (n+1),h++(b0::n4 3 1 (n+1) (encI (f++[x]))::⟨0,false,3,1,[.int .i64 x],0⟩::l)):=by subst hn;rw[s9 (C:=cfg) (K:=1) (m:=1) (new:=[.int .i64 x]) (zs:=encI f) t47 rfl (by omega) (by rw[l7];omega) rfl (by omega) t190 rfl (by decide) (by omega),u4,show encI f++[.int .i64 x]=encI (f++[x]) from by simp[encI]];rfl
attribute [local go_sem] BJ pA o5 app_z
theorem vA {xi xp xd:Int}(hl:l.length<1000000)(hit:∀r∈l,r.items.length<1000000):CB 19 [.agg [.int .i64 lock,.int .i64 xi,.int .i64 xp,.int .i64 xd,.vec l.length (encRus l)]] h (.int .i64 (nN l)):=by
  refine .bz Tryz.f19 71 ?_;refine c87z ?_;refine g6.oB 3 rfl ?_;refine .aD (fun m st=>∃(k:Nat),(m=l.length-k∧(k≤l.length))∧st=⟨mkS 71 [(1,AV.ptr h.length 0 0),(3,AV.own (h.length+1) k 0 k),(4,AV.int .i64 ((k:Nat):Int))],h++[⟨0,false,39,5,[.int .i64 lock,.int .i64 xi,.int .i64 xp,.int .i64 xd,.vec l.length (encRus l)],0⟩,n4 3 1 k (encI (bS l k))]⟩) (.v ⟨0,⟨rfl,by omega⟩,rfl⟩ (hs:=t40)) ?_;rintro m sl h' ⟨k,⟨hm,hk0⟩,hst⟩;obtain ⟨rfl,rfl⟩:=St.mk.inj hst;clear hst;have hll:=jB (l:=l) (k:=k);refine c0z ?_;refine u2z ?_ ?_
  ·intro e1 qe1;refine c5z ?_;refine c25z ?_;refine .aD (fun m st=>∃(j:Nat),(m=(l.getD k g7).items.length-j∧(j≤(l.getD k g7).items.length))∧st=⟨mkS 71 [(1,AV.ptr h.length 0 0),(3,AV.own (h.length+1) k 0 k),(4,AV.int .i64 ((k:Nat):Int)),(5,AV.int .i64 (cZ k (bS l k) (l.getD k g7) j)),(6,AV.int .i64 ((j:Nat):Int))],h++[⟨0,false,39,5,[.int .i64 lock,.int .i64 xi,.int .i64 xp,.int .i64 xd,.vec l.length (encRus l)],0⟩,n4 3 1 k (encI (bS l k))]⟩) (.v ⟨0,⟨rfl,by omega⟩,rfl⟩ (hs:=t45)) ?_;rintro m sl h' ⟨j,⟨hm,hj⟩,hst⟩;obtain ⟨rfl,rfl⟩:=St.mk.inj hst;clear hst;have hri:(l.getD k g7).items.length<1000000:=hit _ (l6 (by omega));have hn0:okN (cZ k (bS l k) (l.getD k g7) j):=mS (fun x hx=>lK x hx) (by omega);have hn1:0≤cZ k (bS l k) (l.getD k g7) j∧cZ k (bS l k) (l.getD k g7) j≤4611686018427387904:=hn0;refine .seq ?_;refine c250z ?_;refine u2z ?_ ?_
   ·intro e2 qe2;refine c5z ?_;refine .c9 [1,3,4,5,6] ?_;refine c263z ?_;refine .n ?_;refine .c9 [1,3,4,5,6,7] ?_;refine c13z ?_;refine .spl 41 rfl rfl (fun e3=>?_) (fun e3=>?_)
    ·try simp only[e3]
     have qe3:=fact e3;refine .m [(2,41)] ?_;refine u2z ?_ ?_
     ·intro e4 qe4;have hzk:(bS l k).getD ((l.getD k g7).items.getD j (0,0)).2.toNat 0=BI l ((l.getD k g7).items.getD j (0,0)).2.toNat:=kL (by omega);have hzo:0≤BI l ((l.getD k g7).items.getD j (0,0)).2.toNat∧BI l ((l.getD k g7).items.getD j (0,0)).2.toNat≤4611686018427387904:=O7;refine .so w7 (mkP 13 [0,0,0,6,14,30,63,0,0,384,896,2047,4095] []) ?_;refine .k 8 [] ?_;refine c86z ?_;refine .c9 [1,3,4,5,6] ?_;refine .rz ?_;exact ⟨_,by omega,.v ⟨(j+1),⟨rfl,by omega⟩,rfl⟩ (hs:=t45)⟩
     intro e4 qe4;refine c8z ?_;refine .c9 [1,3,4,5,6] ?_;refine .rz ?_;exact ⟨_,by omega,.v ⟨(j+1),⟨rfl,by omega⟩,rfl⟩ (hs:=t45)⟩
    try simp only[e3]
    have qe3:=fact e3;refine .m [(2,41)] ?_;refine c54z ?_;refine .c9 [1,3,4,5,6] ?_;refine .rz ?_;exact ⟨_,by omega,.v ⟨(j+1),⟨rfl,by omega⟩,rfl⟩ (hs:=t45)⟩
   intro e2 qe2;refine .exit ?_;obtain rfl:j=(l.getD k g7).items.length:=by omega
   change g6 ..;refine .c9 [1,3,4,5] ?_;refine c70z ?_;exact ⟨_,by omega,.v ⟨(k+1),⟨rfl,by omega⟩,rfl⟩ (he:=by (rw[show bS l (k+1)=bS l k++[cZ k (bS l k) (l.getD k g7) (l.getD k g7).items.length] from rfl];simp only[List.append_assoc,List.cons_append,List.nil_append];rfl)) (hk:=by exact keep_y _ _ _) (hs:=t40)⟩
  intro e1 qe1;refine c12z ?_;refine c0z ?_;refine u2z ?_ ?_
  ·intro e5 qe5;refine c4z ?_;exact .ret (.ex (hq:=by exact congrArg (AV.int .i64) (SI (by omega))))
  intro e5 qe5;refine .sk ?_;refine c189z ?_;exact .ret (.ex (hq:=by exact congrArg (AV.int .i64) (SJ (by omega) (by omega))))
theorem ID (a b:List (Int×Int))(ha:a.length<1000000)(hb:b.length<1000000):CB 20 [.vec a.length (j6 a),.vec b.length (j6 b)] h (.bool (decide (a=b))):=by
  refine .bz Tryz.f20 26 ?_;refine c82z ?_;refine u2z ?_ ?_
  ·intro e1 qe1;refine c203z ?_;exact ⟨[],_,(List.append_nil _).symm,t66,t94⟩
  intro e1 qe1;refine .sk ?_;refine c6z ?_;refine .jE (fun m st=>∃(i:Nat),(m=a.length-i∧((∀d,d<i→a.getD d (0,0)=b.getD d (0,0))∧i≤a.length))∧st=⟨mkS 26 [(0,AV.vec a.length (j6 a)),(1,AV.vec b.length (j6 b)),(5,AV.int .i64 ((i:Nat):Int))],h⟩) _ (.v ⟨0,⟨rfl,⟨t104,by omega⟩⟩,rfl⟩) ?_;rintro m sl h' ⟨i,⟨hm,⟨hI,hi⟩⟩,hst⟩;obtain ⟨rfl,rfl⟩:=St.mk.inj hst;refine c0z ?_;refine u2z ?_ ?_
  ·intro e2 qe2;refine c5z ?_;refine c220z ?_;refine u2z ?_ ?_
   ·intro e3 qe3;refine c203z ?_;exact ⟨[],_,(List.append_nil _).symm,t66,t94⟩
   intro e3 qe3;refine c293z ?_;exact ⟨_,by omega,.v ⟨(i+1),⟨rfl,⟨(fun d hd=>if e:d=i then by rw[e];exact im_eq (by simp_all) else hI d (by omega)),by omega⟩⟩,rfl⟩⟩
  intro e2 qe2;refine c163z ?_;exact ⟨[],_,(List.append_nil _).symm,t66,t94⟩
theorem IE (a b:List Ef)(ha:a.length<1000000)(hb:b.length<1000000):CB 12 [.vec a.length (aG a),.vec b.length (aG b)] h (.bool (decide (a=b))):=by
  refine .bz Tryz.f12 26 ?_;refine c82z ?_;refine u2z ?_ ?_
  ·intro e1 qe1;refine c203z ?_;exact ⟨[],_,(List.append_nil _).symm,t66,t95⟩
  intro e1 qe1;refine .sk ?_;refine c6z ?_;refine .jE (fun m st=>∃(i:Nat),(m=a.length-i∧((∀d,d<i→a.getD d W2=b.getD d W2)∧i≤a.length))∧st=⟨mkS 26 [(0,AV.vec a.length (aG a)),(1,AV.vec b.length (aG b)),(5,AV.int .i64 ((i:Nat):Int))],h⟩) _ (.v ⟨0,⟨rfl,⟨t104,by omega⟩⟩,rfl⟩) ?_;rintro m sl h' ⟨i,⟨hm,⟨hI,hi⟩⟩,hst⟩;obtain ⟨rfl,rfl⟩:=St.mk.inj hst;refine c0z ?_;refine u2z ?_ ?_
  ·intro e2 qe2;refine c5z ?_;refine c220z ?_;refine u2z ?_ ?_
   ·intro e3 qe3;refine c203z ?_;exact ⟨[],_,(List.append_nil _).symm,t66,t95⟩
   intro e3 qe3;refine c293z ?_;exact ⟨_,by omega,.v ⟨(i+1),⟨rfl,⟨(fun d hd=>if e:d=i then by rw[e];simp_all else hI d (by omega)),by omega⟩⟩,rfl⟩⟩
  intro e2 qe2;refine c163z ?_;exact ⟨[],_,(List.append_nil _).symm,t66,t95⟩
end Go.Proofs.YtapdldekgbbomaaGreatDoor
end
section
namespace Go.Proofs.YtapdldekgbbomaaGreatDoor
open Go.Ab Go.Un
variable {l:List Ru}{k j:Nat}
theorem zQ {α:List (Int×Int)}(hj:j<(l.getD k g7).items.length)(hx:0≤((l.getD k g7).items.getD j (0,0)).2∧((l.getD k g7).items.getD j (0,0)).2<k):α++(u3 k (r9 l k) (l.getD k g7) (j+1))=α++(u3 k (r9 l k) (l.getD k g7) j)++[(((l.getD k g7).items.getD j (0,0)).1,(l.getD k g7).inst)]++aR l ((l.getD k g7).items.getD j (0,0)).2.toNat:=by rw[gN hj,pV,if_pos hx];simp
theorem zR {α:List (Int×Int)}(hj:j<(l.getD k g7).items.length)(hx:¬(0≤((l.getD k g7).items.getD j (0,0)).2∧((l.getD k g7).items.getD j (0,0)).2<k)):α++(u3 k (r9 l k) (l.getD k g7) (j+1))=α++(u3 k (r9 l k) (l.getD k g7) j)++[(((l.getD k g7).items.getD j (0,0)).1,(l.getD k g7).inst)]:=by rw[gN hj,pV,if_neg hx];simp
variable {n:Nat}
theorem fZ (hj:j<(l.getD k g7).items.length)(hx:0≤((l.getD k g7).items.getD j (0,0)).2∧((l.getD k g7).items.getD j (0,0)).2<k):n+(u3 k (r9 l k) (l.getD k g7) (j+1)).length=n+(u3 k (r9 l k) (l.getD k g7) j).length+1+(aR l ((l.getD k g7).items.getD j (0,0)).2.toNat).length:=by rw[gN hj,pV,if_pos hx,List.length_append,List.length_cons];omega
theorem mT (hj:j<(l.getD k g7).items.length)(hx:¬(0≤((l.getD k g7).items.getD j (0,0)).2∧((l.getD k g7).items.getD j (0,0)).2<k)):n+(u3 k (r9 l k) (l.getD k g7) (j+1)).length=n+(u3 k (r9 l k) (l.getD k g7) j).length+1:=by rw[gN hj,pV,if_neg hx,List.length_append,List.length_singleton];omega
theorem gZ {l:List Ru}{k:Nat}:∀{i j:Nat},i≤j→j≤(l.getD k g7).items.length→(u3 k (r9 l k) (l.getD k g7) i).length≤(u3 k (r9 l k) (l.getD k g7) j).length
  | i,0,h,_=>by rw[show i=0 from by omega];exact Nat.le_refl _
  | i,j+1,h,hj=>by
    by_cases e:i=j+1
    · rw[e];exact Nat.le_refl _
    · have:=gZ (l:=l) (k:=k) (i:=i) (j:=j) (by omega) (by omega)
      rw[gN (by omega),List.length_append];omega
variable {β m:Nat}
theorem SL (h:n=m):AV.own β n 0 n=AV.own β m 0 m:=by rw[h]
variable {g:Nat}
theorem own_eq2 (h:n=m):AV.own β g 0 n=AV.own β g 0 m:=by rw[h]
variable {h Rr:c8}
theorem app_x {xb:Blk}{f:List (Int×Int)}{p q:Int}(hn:f.length=n)(hl:n<100000):g8 cfg 55 (h++(n4 55 2 n (j6 f)::(Rr++[xb,⟨0,false,55,2,[.int .i64 p,.int .i64 q],0⟩]))) (.own h.length n 0 n) (.own (h.length+(Rr.length+1+1)) 0 0 1)=some (.own h.length (n+1) 0 (n+1),h++(n4 55 2 (n+1) (j6 (f++[(p,q)]))::(Rr++[xb,⟨0,false,55,2,[.int .i64 p,.int .i64 q],0⟩]))):=by subst hn;rw[s9 (C:=cfg) (K:=2) (m:=1) (new:=[.int .i64 p,.int .i64 q]) (zs:=j6 f) t191 rfl (by omega) (by rw[s7];omega) rfl (by omega) (by simp[rd,v5,eL]) rfl (by decide) (by omega),kR,show j6 f++[.int .i64 p,.int .i64 q]=j6 (f++[(p,q)]) from by simp[j6,O2]];rfl
theorem app_xg {xb:Blk}{f:List (Int×Int)}{p q:Int}(hn:f.length=n)(hl:n<100000):g8 cfg 55 (h++[n4 55 2 g (j6 f),xb,⟨0,false,55,2,[.int .i64 p,.int .i64 q],0⟩]) (.own h.length g 0 n) (.own (h.length+2) 0 0 1)=some (.own h.length (g+1) 0 (n+1),h++[n4 55 2 (g+1) (j6 (f++[(p,q)])),xb,⟨0,false,55,2,[.int .i64 p,.int .i64 q],0⟩]):=by subst hn;rw[s9 (C:=cfg) (K:=2) (m:=1) (new:=[.int .i64 p,.int .i64 q]) (zs:=j6 f) t191 rfl (by omega) (by rw[s7];omega) rfl (by omega) (by simp[rd,v5,eL]) rfl (by decide) (by omega),kR,show j6 f++[.int .i64 p,.int .i64 q]=j6 (f++[(p,q)]) from by simp[j6,O2]];rfl
def gP (g n:Nat):Nat:=if n=0 then g else g+1
theorem app_xv {l:c8}{a q:List (Int×Int)}(hn:a.length=n)(hm:q.length=m)(h0:0<n)(h1:n<100000)(h2:m<100000):g8 cfg 55 (h++(n4 55 2 g (j6 a)::l)) (.own h.length g 0 n) (.vec m (j6 q))=some (.own h.length (gP g m) 0 (n+m),h++(n4 55 2 (gP g m) (j6 (a++q))::l)):=by
  subst hn hm;have e1:cfg.sz 55=2:=rfl;have e2:(cfg.ti 55).bytes=16:=rfl;have k1:a.length+q.length≤maxLen:=by
    have:(200000:Nat)≤maxLen:=by decide
    omega
  have k2:(a.length+q.length)*16≤140737488355328:=by omega
  have ea:j6 (a++q)=j6 a++j6 q:=by simp[j6]
  have ne:j6 a≠[]:=fun e=>by have:=congrArg List.length e;rw[s7]at this;simp only[List.length_nil]at this;omega
  have ne2:j6 (a++q)≠[]:=fun e=>by have:=congrArg List.length e;rw[s7]at this;simp only[List.length_nil,List.length_append]at this;omega
  rw[eR ne,eR ne2,ea];cases q with
  | nil=>
    simp only[List.length_nil,Nat.add_zero]at k1 k2;simp[g8,rd,lenOf,e1,e2,gP,k1,k2,j6,eL,kR]
  | cons x q=>
    have k3:a.length*2≤(j6 a).length:=by rw[s7];omega
    have k4:¬(a.length+(q.length+1))*2≤(j6 a).length:=by rw[s7];omega
    have k5:(j6 (x::q)).length=(q.length+1)*2:=by rw[s7];simp only[List.length_cons];omega
    have k6:List.take (a.length*2) (j6 a)=j6 a:=List.take_of_length_le (by rw[s7];omega);simp only[List.length_cons]at k1 k2;simp[g8,rd,lenOf,e1,e2,gP,k1,k2,k3,k4,k5,k6,eL,kR]
theorem zS (l:List (Int×Int)):z4 (j6 l):=z4.flat fun _=>z4.cons .int (z4.cons .int z4.nil)
theorem SM {g1 g2:Nat}(a b:List (Int×Int)):z5 (h++(n4 55 2 g1 (j6 a)::Rr)) (h++(n4 55 2 g2 (j6 b)::Rr)):=(z5.refl h).app rfl ⟨.inr (by rw[o5];exact (zS _).refs _),kS.refl _ _⟩
theorem SN {len:Nat}{H:c8}{a:List (Int×Int)}(hb:H[β]?=some (n4 55 2 g (j6 a)))(hn:n≤β)(hl:a.length=len):iT n H 6 (.own β g 0 len)=some (.vec len (j6 a)):=by rw[dV,if_neg (by omega)];exact eH hb hn (by rw[s7,hl];omega) (by omega) ((zS a).frz _ _ _)
def KB (l:List Ru)(most:Int):List (Int×Int)×Bool:=if most<0∨10000<most∨most<nN l then ([],false) else (aR l (l.length-1),true)
variable {most:Int}
theorem SO (h:most<0∨10000<most∨most<nN l):KB l most=([],false):=if_pos h
theorem W4 (h:¬(most<0∨10000<most∨most<nN l)):KB l most=(aR l (l.length-1),true):=if_neg h
theorem IF:aR [] k=[]:=rfl
theorem W5 (h0:0<l.length)(h1:most≤10000)(h2:nN l≤most):(aR l (l.length-1)).length≤10000:=by have:=HW h0;unfold mxL at this;omega
attribute [local go_sem] rd Int.natCast_nonneg Int.natCast_inj Int.toNat_natCast_add_one mnI mxI wrap64 nH max2 v9 s7 aT kB fR fT fV iX fW fY iY cW u6 z7 u5 n7 bL l7 cP cQ bG eP dW jC eY List.length_take lP app_x app_xg app_xv
theorem c_expS (hl:l.length<1000000)(hit:∀r∈l,r.items.length<1000000)(hk:k<l.length)(a:List (Int×Int))(hn:a.length=n)(hn0:0<n)(hb:n+(aR l k).length<50000)(ih:∀(x:Int) (h R':c8) (a':List (Int×Int)) (n':Nat),a'.length=n'→0<n'→0≤x→x<k→n'+(aR l x.toNat).length<50000→CH 38 [.vec l.length (encRus l),.int .i64 x,.own h.length n' 0 n'] (h++(n4 55 2 n' (j6 a')::R')) (.own h.length (n'+(aR l x.toNat).length) 0 (n'+(aR l x.toNat).length)) (h++(n4 55 2 (n'+(aR l x.toNat).length) (j6 (a'++aR l x.toNat))::R'))):CH 38 [.vec l.length (encRus l),.int .i64 ((k:Nat):Int),.own h.length n 0 n] (h++(n4 55 2 n (j6 a)::Rr)) (.own h.length (n+(aR l k).length) 0 (n+(aR l k).length)) (h++(n4 55 2 (n+(aR l k).length) (j6 (a++aR l k))::Rr)):=by
  refine .wz Tryz.f38 46 ?_;have hri:(l.getD k g7).items.length<1000000:=hit _ (l6 hk);refine c25z ?_;refine .aD (fun m st=>∃(j:Nat),(m=(l.getD k g7).items.length-j∧(j≤(l.getD k g7).items.length))∧st=⟨mkS 46 [(0,AV.vec l.length (encRus l)),(1,AV.int .i64 ((k:Nat):Int)),(2,AV.own h.length (n+(u3 k (r9 l k) (l.getD k g7) j).length) 0 (n+(u3 k (r9 l k) (l.getD k g7) j).length)),(13,AV.vec (l.getD k g7).items.length (j6 (l.getD k g7).items)),(14,AV.int .i64 (((l.getD k g7).items.length:Nat):Int)),(15,AV.int .i64 ((j:Nat):Int))],(h++(n4 55 2 (n+(u3 k (r9 l k) (l.getD k g7) j).length) (j6 (a++(u3 k (r9 l k) (l.getD k g7) j)))::Rr))⟩) (.v ⟨0,⟨rfl,by omega⟩,rfl⟩ (hs:=t54)) ?_ (he:=by (rw[show n+(u3 k (r9 l k) (l.getD k g7) 0).length=n from rfl,show a++(u3 k (r9 l k) (l.getD k g7) 0)=a from List.append_nil a]));rintro m sl h' ⟨j,⟨hm,hj⟩,hst⟩;obtain ⟨rfl,rfl⟩:=St.mk.inj hst;clear hst;have hal:(a++(u3 k (r9 l k) (l.getD k g7) j)).length=n+(u3 k (r9 l k) (l.getD k g7) j).length:=by rw[List.length_append,hn]
  have hle:=gZ (l:=l) (k:=k) (i:=j) (j:=(l.getD k g7).items.length) (by omega) (by omega);have hpr:(aR l k).length=(u3 k (r9 l k) (l.getD k g7) (l.getD k g7).items.length).length:=rfl;refine c20z ?_;refine u2z ?_ ?_
  ·intro e1 qe1;refine c177z ?_;refine .sm w7 (mkP 12 [0,0,2,0,0,24,56,120,254,510,1023,2047] [9,10]) [0] ?_;refine dD.p (pd:=[]) 12 ?_;refine dD.nil t8 ?_;refine .c9 [0,1,2,8,13,14,15] ?_;refine c30z ?_;refine .spl 33 rfl rfl (fun e2=>?_) (fun e2=>?_)
   ·try simp only[e2]
    have qe2:=fact e2;refine .m [(3,33)] ?_;refine u2z ?_ ?_
    ·intro e3 qe3;refine .c9 [0,1,2,8,13,14,15] ?_;refine c150z ?_;refine .ch rfl rfl (ih _ h _ (a++((u3 k (r9 l k) (l.getD k g7) j)++[(((l.getD k g7).items.getD j (0,0)).1,(l.getD k g7).inst)])) _ (by simp only[List.length_append,List.length_cons,List.length_nil];omega) (by omega) (by omega) (by omega) (by have:=fZ (n:=n) (l:=l) (k:=k) (j:=j) (by omega) (by omega);have hle2:=gZ (l:=l) (k:=k) (i:=j+1) (j:=(l.getD k g7).items.length) (by omega) (by omega);omega)) ?_;refine c42z ?_;refine .rz ?_;exact ⟨_,by omega,.v ⟨(j+1),⟨rfl,by omega⟩,rfl⟩ (he:=by (rw[zQ (by omega) (by omega),fZ (by omega) (by omega)];simp only[List.append_assoc,List.cons_append,List.nil_append];rfl)) (hk:=t163) (hs:=t54)⟩
    intro e3 qe3;refine c8z ?_;refine c239z ?_;exact ⟨_,by omega,.v ⟨(j+1),⟨rfl,by omega⟩,rfl⟩ (he:=t151) (hk:=t163) (hs:=t54)⟩
   try simp only[e2]
   have qe2:=fact e2;refine .m [(3,33)] ?_;refine c54z ?_;refine c239z ?_;exact ⟨_,by omega,.v ⟨(j+1),⟨rfl,by omega⟩,rfl⟩ (he:=t151) (hk:=t163) (hs:=t54)⟩
  intro e1 qe1;refine c163z ?_;exact ⟨(h++(n4 55 2 (n+(u3 k (r9 l k) (l.getD k g7) j).length) (j6 (a++(u3 k (r9 l k) (l.getD k g7) j)))::Rr)),_,_,t82,by simp,SM _ _,dV.trans (if_pos (by simp)),by (obtain rfl:j=(l.getD k g7).items.length:=(by omega);exact ⟨rfl,rfl⟩)⟩
theorem c_exp (hl:l.length<1000000)(hit:∀r∈l,r.items.length<1000000)(k:Nat):∀(h R':c8) (a:List (Int×Int)) (n:Nat),k<l.length→a.length=n→0<n→n+(aR l k).length<50000→CH 38 [.vec l.length (encRus l),.int .i64 ((k:Nat):Int),.own h.length n 0 n] (h++(n4 55 2 n (j6 a)::R')) (.own h.length (n+(aR l k).length) 0 (n+(aR l k).length)) (h++(n4 55 2 (n+(aR l k).length) (j6 (a++aR l k))::R')):=by
  induction k using Nat.strongRecOn with
  | ind k ih=>
    intro h R' a n hk hn h0 hb;refine c_expS hl hit hk a hn h0 hb ?_;intro x h R' a' n' h1 h2 h3 h4 h5;obtain ⟨k',rfl⟩:=Int.eq_ofNat_of_zero_le h3;exact ih k' (by omega) h R' a' n' (by omega) h1 h2 h5
theorem heY (j:Nat)(hj:j<(l.getD k g7).items.length)(hx:0≤((l.getD k g7).items.getD j (0,0)).2∧((l.getD k g7).items.getD j (0,0)).2<k):n4 55 2 (u3 k (r9 l k) (l.getD k g7) (j+1)).length (j6 (u3 k (r9 l k) (l.getD k g7) (j+1)))=n4 55 2 ((u3 k (r9 l k) (l.getD k g7) j).length+1+(aR l ((l.getD k g7).items.getD j (0,0)).2.toNat).length) (j6 ((u3 k (r9 l k) (l.getD k g7) j)++[(((l.getD k g7).items.getD j (0,0)).1,(l.getD k g7).inst)]++aR l ((l.getD k g7).items.getD j (0,0)).2.toNat)):=by have h1:=zQ (α:=[]) hj hx;have h2:=fZ (n:=0) hj hx;simp only[List.nil_append,Nat.zero_add]at h1 h2;rw[h2,h1]
theorem heN (j:Nat)(hj:j<(l.getD k g7).items.length)(hx:¬(0≤((l.getD k g7).items.getD j (0,0)).2∧((l.getD k g7).items.getD j (0,0)).2<k)):n4 55 2 (u3 k (r9 l k) (l.getD k g7) (j+1)).length (j6 (u3 k (r9 l k) (l.getD k g7) (j+1)))=n4 55 2 ((u3 k (r9 l k) (l.getD k g7) j).length+1) (j6 ((u3 k (r9 l k) (l.getD k g7) j)++[(((l.getD k g7).items.getD j (0,0)).1,(l.getD k g7).inst)])):=by have h1:=zR (α:=[]) hj hx;have h2:=mT (n:=0) hj hx;simp only[List.nil_append,Nat.zero_add]at h1 h2;rw[h2,h1]
theorem c_expI (hl:l.length<1000000)(hit:∀r∈l,r.items.length<1000000)(x:Int)(h R':c8)(a:List (Int×Int))(n:Nat)(hn:a.length=n)(h0:0<n)(hx:0≤x)(hk:x<l.length)(hb:n+(aR l x.toNat).length<50000):CH 38 [.vec l.length (encRus l),.int .i64 x,.own h.length n 0 n] (h++(n4 55 2 n (j6 a)::R')) (.own h.length (n+(aR l x.toNat).length) 0 (n+(aR l x.toNat).length)) (h++(n4 55 2 (n+(aR l x.toNat).length) (j6 (a++aR l x.toNat))::R')):=by obtain ⟨k',rfl⟩:=Int.eq_ofNat_of_zero_le hx;exact c_exp hl hit k' h R' a n (by omega) hn h0 hb
theorem c_exp0 (hl:l.length<1000000)(hit:∀r∈l,r.items.length<1000000)(hk:k<l.length)(hb:(aR l k).length<20000):CB 38 [.vec l.length (encRus l),.int .i64 ((k:Nat):Int),.j9] h (.vec (aR l k).length (j6 (aR l k))):=by
  refine .bz Tryz.f38 46 ?_;have hri:(l.getD k g7).items.length<1000000:=hit _ (l6 hk);refine c25z ?_;refine g6.oB 2 rfl ?_;refine .aD (fun m st=>∃(j:Nat),(m=(l.getD k g7).items.length-j∧(j≤(l.getD k g7).items.length))∧st=⟨mkS 46 [(0,AV.vec l.length (encRus l)),(1,AV.int .i64 ((k:Nat):Int)),(2,AV.own h.length (u3 k (r9 l k) (l.getD k g7) j).length 0 (u3 k (r9 l k) (l.getD k g7) j).length),(13,AV.vec (l.getD k g7).items.length (j6 (l.getD k g7).items)),(14,AV.int .i64 (((l.getD k g7).items.length:Nat):Int)),(15,AV.int .i64 ((j:Nat):Int))],h++[n4 55 2 (u3 k (r9 l k) (l.getD k g7) j).length (j6 (u3 k (r9 l k) (l.getD k g7) j))]⟩) (.v ⟨0,⟨rfl,by omega⟩,rfl⟩ (hs:=t42)) ?_ (he:=by rfl);rintro m sl h' ⟨j,⟨hm,hj⟩,hst⟩;obtain ⟨rfl,rfl⟩:=St.mk.inj hst;clear hst;have hle:=gZ (l:=l) (k:=k) (i:=j) (j:=(l.getD k g7).items.length) (by omega) (by omega);have hpr:(aR l k).length=(u3 k (r9 l k) (l.getD k g7) (l.getD k g7).items.length).length:=rfl;refine c20z ?_;refine u2z ?_ ?_
  ·intro e1 qe1;refine c177z ?_;refine .sm w7 (mkP 12 [0,0,2,0,0,24,56,120,254,510,1023,2047] [9,10]) [0] ?_;refine dD.p (pd:=[]) 12 ?_;refine dD.nil t8 ?_;refine .c9 [0,1,2,8,13,14,15] ?_;refine c30z ?_;refine .spl 33 rfl rfl (fun e2=>?_) (fun e2=>?_)
   ·try simp only[e2]
    have qe2:=fact e2;refine .m [(3,33)] ?_;refine u2z ?_ ?_
    ·intro e3 qe3;refine .c9 [0,1,2,8,13,14,15] ?_;refine c150z ?_;refine .ch rfl rfl (c_expI hl hit _ h _ ((u3 k (r9 l k) (l.getD k g7) j)++[(((l.getD k g7).items.getD j (0,0)).1,(l.getD k g7).inst)]) _ (by simp only[List.length_append,List.length_cons,List.length_nil]) (by omega) (by omega) (by omega) (by have:=fZ (n:=0) (l:=l) (k:=k) (j:=j) (by omega) (by omega);have hle2:=gZ (l:=l) (k:=k) (i:=j+1) (j:=(l.getD k g7).items.length) (by omega) (by omega);omega)) ?_;refine c42z ?_;refine .rz ?_;exact ⟨_,by omega,.v ⟨(j+1),⟨rfl,by omega⟩,rfl⟩ (he:=by (rw[heY j (by omega) (by omega)];simp only[List.append_assoc,List.cons_append,List.nil_append];rfl)) (hk:=t163) (hs:=t42)⟩
    intro e3 qe3;refine c8z ?_;refine c239z ?_;exact ⟨_,by omega,.v ⟨(j+1),⟨rfl,by omega⟩,rfl⟩ (he:=t187) (hk:=t163) (hs:=t42)⟩
   try simp only[e2]
   have qe2:=fact e2;refine .m [(3,33)] ?_;refine c54z ?_;refine c239z ?_;exact ⟨_,by omega,.v ⟨(j+1),⟨rfl,by omega⟩,rfl⟩ (he:=t187) (hk:=t163) (hs:=t42)⟩
  intro e1 qe1;refine c163z ?_;exact ⟨_,_,rfl,SN t191 (Nat.le_refl _) rfl,t159⟩
theorem encY (j:Nat)(hj:j<(l.getD k g7).items.length)(hx:0≤((l.getD k g7).items.getD j (0,0)).2∧((l.getD k g7).items.getD j (0,0)).2<k):j6 (u3 k (r9 l k) (l.getD k g7) (j+1))=j6 ((u3 k (r9 l k) (l.getD k g7) j)++[(((l.getD k g7).items.getD j (0,0)).1,(l.getD k g7).inst)]++aR l ((l.getD k g7).items.getD j (0,0)).2.toNat):=by have h1:=zQ (α:=[]) hj hx;simp only[List.nil_append]at h1;rw[h1]
theorem encN' (j:Nat)(hj:j<(l.getD k g7).items.length)(hx:¬(0≤((l.getD k g7).items.getD j (0,0)).2∧((l.getD k g7).items.getD j (0,0)).2<k)):j6 (u3 k (r9 l k) (l.getD k g7) (j+1))=j6 ((u3 k (r9 l k) (l.getD k g7) j)++[(((l.getD k g7).items.getD j (0,0)).1,(l.getD k g7).inst)]):=by have h1:=zR (α:=[]) hj hx;simp only[List.nil_append]at h1;rw[h1]
theorem PO (hl:l.length<1000000)(hit:∀r∈l,r.items.length<1000000)(hk:k<l.length)(hb:(aR l k).length<20000)(ih:∀(x:Int) (h:c8),0≤x→x<k→(aR l x.toNat).length<20000→CB 39 [.vec l.length (encRus l),.int .i64 x] h (.vec (aR l x.toNat).length (j6 (aR l x.toNat)))):CB 39 [.vec l.length (encRus l),.int .i64 ((k:Nat):Int)] h (.vec (aR l k).length (j6 (aR l k))):=by
  refine .bz Tryz.f39 53 ?_;have hri:(l.getD k g7).items.length<1000000:=hit _ (l6 hk);refine c87z ?_;refine g6.oB 5 rfl ?_;refine .aD (fun m st=>∃(j:Nat) (g:Nat),(m=(l.getD k g7).items.length-j∧(j≤(l.getD k g7).items.length))∧st=⟨mkS 53 [(0,AV.vec l.length (encRus l)),(1,AV.int .i64 ((k:Nat):Int)),(5,AV.own h.length g 0 (u3 k (r9 l k) (l.getD k g7) j).length),(6,AV.int .i64 ((j:Nat):Int))],h++[n4 55 2 g (j6 (u3 k (r9 l k) (l.getD k g7) j))]⟩) (.v ⟨0,0,⟨rfl,by omega⟩,rfl⟩ (hs:=t41)) ?_ (he:=by rfl);rintro m sl h' ⟨j,g,⟨hm,hj⟩,hst⟩;obtain ⟨rfl,rfl⟩:=St.mk.inj hst;clear hst;have hle:=gZ (l:=l) (k:=k) (i:=j) (j:=(l.getD k g7).items.length) (by omega) (by omega);have hpr:(aR l k).length=(u3 k (r9 l k) (l.getD k g7) (l.getD k g7).items.length).length:=rfl;refine c0z ?_;refine u2z ?_ ?_
  ·intro e1 qe1;refine c5z ?_;refine .c9 [0,1,5,6] ?_;refine c250z ?_;refine .c9 [0,1,5,6,7] ?_;refine .sg w7 (mkH 12 [0,0,2,0,0,24,56,120,254,510,1023,2047] [9,10] [] [0,512,1536] [0]) 0 ?_;refine .p 2 ?_;refine c145z ?_;refine c31z ?_;refine .en [true] [512,0] [_] ?_;refine .en [true,false] [1536,512,0] [_] ?_;refine .p 1 ?_;refine aC.nil rfl ?_;refine .c9 [0,1,5,6,7] ?_;refine c30z ?_;refine .spl 40 rfl rfl (fun e2=>?_) (fun e2=>?_)
   ·try simp only[e2]
    have qe2:=fact e2;refine .m [(3,40)] ?_;refine u2z ?_ ?_
    ·intro e3 qe3;refine .c9 [0,1,5,6,7] ?_;have hle3:=(by have:=fZ (n:=0) (l:=l) (k:=k) (j:=j) (by omega) (by omega);have hle2:=gZ (l:=l) (k:=k) (i:=j+1) (j:=(l.getD k g7).items.length) (by omega) (by omega);omega:(aR l ((l.getD k g7).items.getD j (0,0)).2.toNat).length<20000∧(u3 k (r9 l k) (l.getD k g7) j).length<20000);have hpl:((u3 k (r9 l k) (l.getD k g7) j)++[(((l.getD k g7).items.getD j (0,0)).1,(l.getD k g7).inst)]).length=(u3 k (r9 l k) (l.getD k g7) j).length+1:=by simp only[List.length_append,List.length_cons,List.length_nil]
     refine c150z ?_;refine .ca rfl rfl (ih _ _ (by omega) (by omega) (by have:=fZ (n:=0) (l:=l) (k:=k) (j:=j) (by omega) (by omega);have hle2:=gZ (l:=l) (k:=k) (i:=j+1) (j:=(l.getD k g7).items.length) (by omega) (by omega);omega)) ?_;refine c42z ?_;refine .rz ?_;exact ⟨_,by omega,.v ⟨(j+1),(gP (g+1) (aR l ((l.getD k g7).items.getD j (0,0)).2.toNat).length),⟨rfl,by omega⟩,rfl⟩ (he:=by (rw[encY j (by omega) (by omega)];simp only[List.append_assoc,List.cons_append,List.nil_append];rfl)) (hk:=t163) (hs:=t41)⟩
    intro e3 qe3;refine c8z ?_;refine .c9 [0,1,5,6] ?_;refine .rz ?_;exact ⟨_,by omega,.v ⟨(j+1),(g+1),⟨rfl,by omega⟩,rfl⟩ (he:=t185) (hk:=t163) (hs:=t41)⟩
   try simp only[e2]
   have qe2:=fact e2;refine .m [(3,40)] ?_;refine c54z ?_;refine .c9 [0,1,5,6] ?_;refine .rz ?_;exact ⟨_,by omega,.v ⟨(j+1),(g+1),⟨rfl,by omega⟩,rfl⟩ (he:=t185) (hk:=t163) (hs:=t41)⟩
  intro e1 qe1;refine c12z ?_;refine .c9 [5] ?_;refine c43z ?_;exact ⟨_,_,rfl,SN t191 (Nat.le_refl _) rfl,t159⟩
theorem c_rpath (hl:l.length<1000000)(hit:∀r∈l,r.items.length<1000000)(k:Nat):∀(h:c8),k<l.length→(aR l k).length<20000→CB 39 [.vec l.length (encRus l),.int .i64 ((k:Nat):Int)] h (.vec (aR l k).length (j6 (aR l k))):=by
  induction k using Nat.strongRecOn with
  | ind k ih=>
    intro h hk hb;refine PO hl hit hk hb ?_;intro x h h3 h4 h5;obtain ⟨k',rfl⟩:=Int.eq_ofNat_of_zero_le h3;exact ih k' (by omega) h (by omega) h5
theorem c_expL (hl:l.length<1000000)(hit:∀r∈l,r.items.length<1000000)(h0:0<l.length)(hb:(aR l (l.length-1)).length<20000):CB 38 [.vec l.length (encRus l),.int .i64 ((l.length:Int)-1),.j9] h (.vec (aR l (l.length-1)).length (j6 (aR l (l.length-1)))):=by rw[show (l.length:Int)-1=((l.length-1:Nat):Int) from by omega];exact c_exp0 hl hit (by omega) hb
theorem PQ (hl:l.length<1000000)(hit:∀r∈l,r.items.length<1000000)(h0:0<l.length)(hb:(aR l (l.length-1)).length<20000):CB 39 [.vec l.length (encRus l),.int .i64 ((l.length:Int)-1)] h (.vec (aR l (l.length-1)).length (j6 (aR l (l.length-1)))):=by rw[show (l.length:Int)-1=((l.length-1:Nat):Int) from by omega];exact c_rpath hl hit _ h (by omega) hb
theorem SP (h:¬(most<0∨10000<most∨most<nN l))(h0:l.length=0):KB l most=([],true):=by rw[W4 h,List.length_eq_zero_iff.1 h0];rfl
variable {lock:Int}
theorem W6 {xi xp xd:Int}(hl:l.length<1000000)(hit:∀r∈l,r.items.length<1000000)(most:Int):CB 16 [.agg [.int .i64 lock,.int .i64 xi,.int .i64 xp,.int .i64 xd,.vec l.length (encRus l)],.int .i64 most] h (.tup [.vec (KB l most).1.length (j6 (KB l most).1),.bool (KB l most).2]):=by
  refine .bz Tryz.f16 29 ?_;have hlo:0≤nN l∧nN l≤4611686018427387904:=zN (fun x hx=>lK x hx) _;refine c264z ?_;refine .spl 8 rfl rfl (fun e1=>?_) (fun e1=>?_)
  ·try simp only[e1]
   have qe1:=fact e1;refine .k 8 [(2,8),(6,12)] ?_;refine .n ?_;refine c50z ?_;exact .ret (.ex (hq:=t152))
  try simp only[e1]
  have qe1:=fact e1;refine .k 4 [(2,8)] ?_;refine .spl 12 rfl rfl (fun e2=>?_) (fun e2=>?_)
  ·try simp only[e2]
   have qe2:=fact e2;refine .m [(6,12)] ?_;refine c50z ?_;exact .ret (.ex (hq:=t152))
  try simp only[e2]
  have qe2:=fact e2;refine .k 1 [(6,12)] ?_;refine .ca rfl rfl (zP hl hit) ?_;refine .m [(6,12)] ?_;refine u2z ?_ ?_
  ·intro e3 qe3;refine c4z ?_;exact .ret (.ex (hq:=t152))
  intro e3 qe3;refine c116z ?_;refine .c9 [2] ?_;refine .z ?_;refine u2z ?_ ?_
  ·intro e4 qe4;refine .z ?_;exact .ret (.ex (hq:=by (rw[SP (by omega) (by omega)];rfl)))
  intro e4 qe4;refine .sk ?_;refine c108z ?_;refine .ca rfl rfl (c_expL hl hit (by omega) t214) ?_;refine .n ?_;exact .ret (.ex (hq:=by (rw[W4 (by omega)])))
theorem G5 {xi xp xd:Int}(hl:l.length<1000000)(hit:∀r∈l,r.items.length<1000000)(most:Int):CB 17 [.agg [.int .i64 lock,.int .i64 xi,.int .i64 xp,.int .i64 xd,.vec l.length (encRus l)],.int .i64 most] h (.tup [.vec (KB l most).1.length (j6 (KB l most).1),.bool (KB l most).2]):=by
  refine .bz Tryz.f17 29 ?_;have hlo:0≤nN l∧nN l≤4611686018427387904:=zN (fun x hx=>lK x hx) _;refine c264z ?_;refine .spl 8 rfl rfl (fun e1=>?_) (fun e1=>?_)
  ·try simp only[e1]
   have qe1:=fact e1;refine .k 8 [(2,8),(6,12)] ?_;refine .n ?_;refine c50z ?_;exact .ret (.ex (hq:=t152))
  try simp only[e1]
  have qe1:=fact e1;refine .k 4 [(2,8)] ?_;refine .spl 12 rfl rfl (fun e2=>?_) (fun e2=>?_)
  ·try simp only[e2]
   have qe2:=fact e2;refine .m [(6,12)] ?_;refine c50z ?_;exact .ret (.ex (hq:=t152))
  try simp only[e2]
  have qe2:=fact e2;refine .k 1 [(6,12)] ?_;refine .ca rfl rfl (vA hl hit) ?_;refine .m [(6,12)] ?_;refine u2z ?_ ?_
  ·intro e3 qe3;refine c4z ?_;exact .ret (.ex (hq:=t152))
  intro e3 qe3;refine c116z ?_;refine .c9 [2] ?_;refine .z ?_;refine u2z ?_ ?_
  ·intro e4 qe4;refine .z ?_;exact .ret (.ex (hq:=by (rw[SP (by omega) (by omega)];rfl)))
  intro e4 qe4;refine .sk ?_;refine c108z ?_;refine .ca rfl rfl (PQ hl hit (by omega) t214) ?_;refine .n ?_;exact .ret (.ex (hq:=by (rw[W4 (by omega)])))
end Go.Proofs.YtapdldekgbbomaaGreatDoor
end
