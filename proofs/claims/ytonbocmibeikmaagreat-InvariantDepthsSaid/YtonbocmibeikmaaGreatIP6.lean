/- My own texts, put together by a program of mine. -/
import Derived.Laws.BitsLemmas
import Derived.Test.YtonbocmibeikmaaGreatIP5
set_option linter.unusedSimpArgs false
set_option linter.unusedVariables false
set_option maxRecDepth 100000
set_option maxHeartbeats 4000000
section
namespace Go.Proofs.YtonbocmibeikmaaGreat
open Go.Ab Go.Un
variable {p:Go.Un.Pg}{f:Fu}
theorem IX (h:GH p)(hf:f∈p.funcs):∀x∈f.params,tQ x.name=false:=by
  obtain ⟨i,hi,rfl⟩:=bV (d:=j5) hf;intro x hx;have hm:x.name∈(p.funcs.getD i j5).params.map (·.name):=List.mem_map.2 ⟨x,hx,rfl⟩;rcases (h.fn i hi).2.2 with e | e | e<;>rw[e]at hm<;>simp at hm
  · rw[hm];exact Q7 1 (by omega)
  · rcases hm with e | e<;>rw[e]
    · exact Q7 2 (by omega)
    · exact Q7 1 (by omega)
variable {i:Nat}
theorem nE {α:Type}(f:α→List AV)(K j:Nat)(hK:∀a,(f a).length=K)(hj:j<K)(d:α){l:List α}(h:i<l.length):List.take 1 (List.drop (i*K+j) (l.flatMap f))=List.take 1 (List.drop j (f (l.getD i d))):=by rw[←cL f K hK d h,List.drop_take,List.take_take,List.drop_drop,Nat.min_eq_left (by omega)]
theorem RM {l:List Gl}(h:i<l.length):List.take 1 (List.drop (i*2) (r7 l))=[.str (l.getD i lR).name]:=nE CT 2 0 (fun _=>rfl) (by omega) lR h
theorem RN {l:List Gl}(h:i<l.length):List.take 1 (List.drop (i*2+1) (r7 l))=[.int .i64 (l.getD i lR).init]:=nE CT 2 1 (fun _=>rfl) (by omega) lR h
variable {l:List Pm}
theorem RO (h:i<l.length):List.take 1 (List.drop (i*2) (w4 l))=[.str (l.getD i iE).name]:=nE CR 2 0 (fun _=>rfl) (by omega) iE h
theorem RP (h:i<l.length):List.take 1 (List.drop (i*2+1) (w4 l))=[.bool (l.getD i iE).mu]:=nE CR 2 1 (fun _=>rfl) (by omega) iE h
theorem txtGl_0 {l:List Gl}(h:(l.getD i lR).init=0):kY l (i+1)=kY l i++I6++(l.getD i lR).name++rG:=by rw[kY,if_pos h]
theorem txtGl_1 {l:List Gl}(h:¬(l.getD i lR).init=0):kY l (i+1)=kY l i++I6++(l.getD i lR).name++PA++CW (l.getD i lR).init++rG:=by rw[kY,if_neg h]
variable {out:BA}
theorem RQ {l:List Mx}(h1:(l.getD i v8).re=false)(h:¬0<(l.getD i v8).size):eA l out (i+1)=eA l out i++bO++(l.getD i v8).name++rG:=by rw[eA,if_neg h,if_neg (by rw[h1];decide)]
theorem RR {l:List Mx}(h1:(l.getD i v8).re=true)(h:¬0<(l.getD i v8).size):eA l out (i+1)=eA l out i++t_r++bO++(l.getD i v8).name++rG:=by rw[eA,if_neg h,if_pos h1]
theorem RS {l:List Mx}(h1:(l.getD i v8).re=false)(h:0<(l.getD i v8).size):eA l out (i+1)=eA l out i++bO++(l.getD i v8).name++MW++CW (l.getD i v8).size++MX++rG:=by rw[eA,if_pos h,if_neg (by rw[h1];decide)]
theorem RT {l:List Mx}(h1:(l.getD i v8).re=true)(h:0<(l.getD i v8).size):eA l out (i+1)=eA l out i++t_r++bO++(l.getD i v8).name++MW++CW (l.getD i v8).size++MX++rG:=by rw[eA,if_pos h,if_pos h1]
theorem RU (h1:(l.getD i iE).mu=false)(h:¬0<i):fP l out (i+1)=fP l out i++(l.getD i iE).name:=by rw[fP,if_neg h,if_neg (by rw[h1];decide)]
theorem RV (h1:(l.getD i iE).mu=true)(h:¬0<i):fP l out (i+1)=fP l out i++bO++(l.getD i iE).name:=by rw[fP,if_neg h,if_pos h1]
theorem RW (h1:(l.getD i iE).mu=false)(h:0<i):fP l out (i+1)=fP l out i++lW++(l.getD i iE).name:=by rw[fP,if_pos h,if_neg (by rw[h1];decide)]
theorem RX (h1:(l.getD i iE).mu=true)(h:0<i):fP l out (i+1)=fP l out i++lW++bO++(l.getD i iE).name:=by rw[fP,if_pos h,if_pos h1]
theorem GHgres (h:GH p)(hf:f∈p.funcs):rP (PF p f):=by
  refine ⟨⟨fun m hm=>?_,fun x hx=>?_⟩,fun x hx=>?_⟩
  · obtain ⟨i,hi,rfl⟩:=bV (d:=v8) hm
    show tQ (p.mutexes.getD i v8).name=false;rw[(h.mn i hi).1];exact IE i (by have:=h.ml;have hi2:i<p.mutexes.length:=hi;omega)
  · exact IX h hf x hx
  · obtain ⟨g,hg,rfl⟩:=List.mem_map.1 hx
    obtain ⟨i,hi,rfl⟩:=bV (d:=j5) hg;show tQ (p.funcs.getD i j5).name=false;rw[(h.fn i hi).1];exact IF i (by have:=h.fl;omega)
theorem IY (h:GH p)(hf:f∈p.funcs):aE (PG p f):=by
  intro x hx;refine ⟨h.YX hf x hx,?_⟩;rcases List.mem_append.1 hx with hx | hx
  · obtain ⟨g,hg,rfl⟩:=List.mem_map.1 hx
    obtain ⟨i,hi,rfl⟩:=bV (d:=lR) hg;rw[(h.gn i hi).1];exact ID i (by have:=h.gl;omega)
  · obtain ⟨g,hg,rfl⟩:=List.mem_map.1 hx
    exact IX h hf g (List.mem_filter.1 hg).1
theorem R8 {l:List Fu}(h:i<l.length):(l.getD i j5).body.wt≤sR l l.length:=by
  have key:∀n,i<n→(l.getD i j5).body.wt≤sR l n:=by
    intro n hn;induction n with
    | zero=>omega
    | succ n ih=>
      rw[sR];by_cases e:i=n
      · rw[e];omega
      · have:=ih (by omega);omega
  exact key _ h
variable {h:c5}
theorem c_lexF {L:Bs}(hx:LX L 4000)(hl:L.length≤262144):CB 95 [.vec L.length (tP L)] h (.tup [.any,.int .i64 L.length,.int .i64 0]):=
  J5 rfl ((c_lex0 L 4000 hx (Nat.le_refl _) hl).mono fun _ _ h=>h.1) h
theorem encB_8 {b:BA}:b.toList.map (fun c=>AV.int .u8 ((c.toNat:Nat):Int))=tP (L8 b):=by rw[ByteArray.toList_eq];rfl
theorem c_lexB {b:BA}(hx:LX (L8 b) 4000)(hl:b.size≤262144):CB 95 [.vec b.size (b.toList.map fun c=>AV.int .u8 ((c.toNat:Nat):Int))] h (.tup [.any,.int .i64 b.size,.int .i64 0]):=by rw[encB_8,kX];exact c_lexF hx (by rw[←kX];exact hl)
attribute [local go_sem] nC aL n8 bD cM bF l6 dL n6 bA aP Int.natCast_nonneg Int.natCast_inj List.length_map wrap64 DE mB A4 aK mM eq_mk mN Nat.reduceMul RM RN RO RP zP uV dZ
theorem AI {l:List Pm}(hn:∀x∈l,isName (L8 x.name))(out:BA):∀i,i≤l.length→(fP l out i).size≤out.size+30*i
  | 0,_=>Nat.le_refl _
  | i+1,hi=>by
    have ih:=AI hn out i (by omega);have hs:=z9 (hn _ (g8 (d:=iE) (show i<l.length from by omega)));have e1:bO.size=6:=rfl;have e2:lW.size=2:=rfl;unfold fP;repeat' split
    all_goals simp only[aK]
    all_goals omega
theorem IZ {l:List Fu}:∀{a b:Nat},a≤b→sR l a≤sR l b:=by
  intro a b h;induction h with
  | refl=>exact Nat.le_refl _
  | step _ ih=>rw[sR];omega
theorem c_progT (hp:GP p):CB 132 [.agg [.vec p.globals.length (r7 p.globals),.vec p.mutexes.length (c9 p.mutexes),.vec p.funcs.length (o3 p.funcs)]] h (.str (txtP p)):=by
  refine .bz Tryz.f132 131 ?_;have hgl:=tK hp.toGH p.globals.length (Nat.le_refl _);have hmx:=tL hp.toGH hgl.1 p.mutexes.length (Nat.le_refl _);have hgl0:=hp.gl;have hml0:=hp.ml;have hfl0:=hp.fl;have htot:=hp.wt;have hwm:∀i,i≤p.funcs.length→sR p.funcs i≤48:=fun i hi=>Nat.le_trans (IZ hi) htot;refine c59z ?_;refine .bX (fun m st=>∃(i:Nat),(m=p.globals.length-i∧i≤p.globals.length)∧st=⟨mkS 131 [(1,AV.ptr h.length 0 0),(3,AV.str (kY p.globals i)),(4,AV.int .i64 ((i:Nat):Int))],h++[⟨0,false,27,3,[.vec p.globals.length (r7 p.globals),.vec p.mutexes.length (c9 p.mutexes),.vec p.funcs.length (o3 p.funcs)],0⟩]⟩) _ (.v ⟨0,⟨rfl,by omega⟩,rfl⟩ (hs:=t61)) ?_;rintro m sl h' ⟨i,⟨hm,hi⟩,hst⟩;obtain ⟨rfl,rfl⟩:=St.mk.inj hst;have hsz:=(tK hp.toGH i hi).2;refine c0z ?_;refine u2z ?_ ?_
  ·intro e1 qe1;refine c2z ?_;have hgn:=eO (hp.toGH.GW (g8 (d:=lR) (l:=p.globals) (i:=i) (by omega)));have hgi:=(hp.gn i (by omega)).2;refine c216z ?_;refine .c6 [1,3,4] ?_;refine .z ?_;refine u2z ?_ ?_
   ·intro e2 qe2;have hns:=(uY hgi.1 hgi.2).2;refine c116z ?_;refine c204z ?_;refine .c6 [1,3,4] ?_;refine c48z ?_;exact ⟨_,by omega,.v ⟨(i+1),⟨rfl,by omega⟩,rfl⟩ (hs:=t61)⟩
   intro e2 qe2;refine .sk ?_;refine c97z ?_;exact ⟨_,by omega,.v ⟨(i+1),⟨rfl,by omega⟩,rfl⟩ (hs:=t61)⟩
  intro e1 qe1;refine .exit ?_;obtain rfl:i=p.globals.length:=by omega
  change c8 ..;refine c5z ?_;refine .u6 (fun m st=>∃(i:Nat),(m=p.mutexes.length-i∧i≤p.mutexes.length)∧st=⟨mkS 131 [(1,AV.ptr h.length 0 0),(3,AV.str (eA p.mutexes (kY p.globals p.globals.length) i)),(5,AV.int .i64 ((i:Nat):Int))],h++[⟨0,false,27,3,[.vec p.globals.length (r7 p.globals),.vec p.mutexes.length (c9 p.mutexes),.vec p.funcs.length (o3 p.funcs)],0⟩]⟩) (.v ⟨0,⟨rfl,by omega⟩,rfl⟩ (hs:=t22)) ?_;rintro m sl h' ⟨i,⟨hm,hi⟩,hst⟩;obtain ⟨rfl,rfl⟩:=St.mk.inj hst;clear hst;have hsz:=(tL hp.toGH hgl.1 i hi).2;refine c0z ?_;refine u2z ?_ ?_
  ·intro e3 qe3;refine c2z ?_;have hmn:=eO (hp.toGH.PL (g8 (d:=v8) (l:=p.mutexes) (i:=i) (by omega)));have hmi:=(hp.mn i (by omega)).2;refine c13z ?_;refine .c6 [1,3,5,6] ?_;refine .z ?_;refine u2z ?_ ?_
   ·intro e4 qe4;refine c1z ?_;refine c13z ?_;refine .c6 [1,3,5,6] ?_;refine .z ?_;refine u2z ?_ ?_
    ·intro e5 qe5;have hns:=(uY (n:=(p.mutexes.getD i v8).size) (by omega) (by omega)).2;refine c145z ?_;refine c204z ?_;refine .c6 [1,3,5] ?_;refine c48z ?_;exact ⟨_,by omega,.v ⟨(i+1),⟨rfl,by omega⟩,rfl⟩ (he:=t45) (hs:=t22)⟩
    intro e5 qe5;refine .sk ?_;refine c48z ?_;exact ⟨_,by omega,.v ⟨(i+1),⟨rfl,by omega⟩,rfl⟩ (he:=t45) (hs:=t22)⟩
   intro e4 qe4;refine .sk ?_;refine c69z ?_;refine u2z ?_ ?_
   ·intro e6 qe6;refine .c6 [1,3,5,6] ?_;have hns:=(uY (n:=(p.mutexes.getD i v8).size) (by omega) (by omega)).2;refine c145z ?_;refine c204z ?_;refine .c6 [1,3,5] ?_;refine c48z ?_;exact ⟨_,by omega,.v ⟨(i+1),⟨rfl,by omega⟩,rfl⟩ (he:=t45) (hs:=t22)⟩
   intro e6 qe6;refine .sk ?_;refine .c6 [1,3,5] ?_;refine c48z ?_;exact ⟨_,by omega,.v ⟨(i+1),⟨rfl,by omega⟩,rfl⟩ (he:=t45) (hs:=t22)⟩
  intro e3 qe3;refine .exit ?_;obtain rfl:i=p.mutexes.length:=by omega
  change c8 ..;refine c5z ?_;refine .u6 (fun m st=>∃(i:Nat),(m=p.funcs.length-i∧i≤p.funcs.length)∧st=⟨mkS 131 [(1,AV.ptr h.length 0 0),(3,AV.str (sQ p.funcs (eA p.mutexes (kY p.globals p.globals.length) p.mutexes.length) i)),(7,AV.int .i64 ((i:Nat):Int))],h++[⟨0,false,27,3,[.vec p.globals.length (r7 p.globals),.vec p.mutexes.length (c9 p.mutexes),.vec p.funcs.length (o3 p.funcs)],0⟩]⟩) (.v ⟨0,⟨rfl,by omega⟩,rfl⟩) ?_;rintro m sl h' ⟨i,⟨hm,hi⟩,hst⟩;obtain ⟨rfl,rfl⟩:=St.mk.inj hst;clear hst;have hsz:=(zW hp hmx.1 i hi).2;have hwi:=hwm i hi;refine c0z ?_;refine u2z ?_ ?_
  ·intro e7 qe7;refine c2z ?_;have hfm:=g8 (d:=j5) (l:=p.funcs) (i:=i) (by omega);have hfn:=eO (hp.toGH.GX hfm);have hpn:=hp.toGH.pV hfm;have hbd:=hp.body i (by omega);have hwt:=R8 (l:=p.funcs) (i:=i) (by omega);have hww:=hp.wt;have hlw:=dC (p.funcs.getD i j5).body;refine .z ?_;refine .c6 [1,3,7,8] ?_;refine c18z ?_;refine .bX (fun m st=>∃(j:Nat),(m=(p.funcs.getD i j5).params.length-j∧j≤(p.funcs.getD i j5).params.length)∧st=⟨mkS 131 [(1,AV.ptr h.length 0 0),(3,AV.str (fP (p.funcs.getD i j5).params (sQ p.funcs (eA p.mutexes (kY p.globals p.globals.length) p.mutexes.length) i++sH++(p.funcs.getD i j5).name++xA) j)),(7,AV.int .i64 ((i:Nat):Int)),(8,AV.ptr (h.length+1) 0 0),(9,AV.int .i64 ((j:Nat):Int))],h++[⟨0,false,27,3,[.vec p.globals.length (r7 p.globals),.vec p.mutexes.length (c9 p.mutexes),.vec p.funcs.length (o3 p.funcs)],0⟩,⟨0,false,136,3,[.str (p.funcs.getD i j5).name,.vec (p.funcs.getD i j5).params.length (w4 (p.funcs.getD i j5).params),.vec (p.funcs.getD i j5).body.len (o5 (p.funcs.getD i j5).body)],0⟩]⟩) _ (.v ⟨0,⟨rfl,by omega⟩,rfl⟩ (hs:=t29)) ?_;rintro m sl h' ⟨j,⟨hm,hj⟩,hst⟩;obtain ⟨rfl,rfl⟩:=St.mk.inj hst;have hsp:=AI (l:=(p.funcs.getD i j5).params) hpn.2 (sQ p.funcs (eA p.mutexes (kY p.globals p.globals.length) p.mutexes.length) i++sH++(p.funcs.getD i j5).name++xA) j hj;have hs0:(sQ p.funcs (eA p.mutexes (kY p.globals p.globals.length) p.mutexes.length) i++sH++(p.funcs.getD i j5).name++xA).size≤(sQ p.funcs (eA p.mutexes (kY p.globals p.globals.length) p.mutexes.length) i).size+30:=by simp only[aK];have e1:sH.size=5:=rfl;have e2:xA.size=1:=rfl;omega
   refine c0z ?_;refine u2z ?_ ?_
   ·intro e8 qe8;refine c2z ?_;refine c0z ?_;refine u2z ?_ ?_
    ·intro e9 qe9;refine c1z ?_;refine .seq ?_;refine .c6 [1,3,7,8,9] ?_;have hpj:=eO (hpn.2 _ (g8 (d:=iE) (l:=(p.funcs.getD i j5).params) (i:=j) (by omega)));refine .z ?_;refine u2z ?_ ?_
     ·intro e10 qe10;refine c1z ?_;refine .c6 [1,3,7,8,9] ?_;refine c212z ?_;refine .rz ?_;exact ⟨_,by omega,.v ⟨(j+1),⟨rfl,by omega⟩,rfl⟩ (hs:=t29)⟩
     intro e10 qe10;refine .sk ?_;refine c212z ?_;refine .rz ?_;exact ⟨_,by omega,.v ⟨(j+1),⟨rfl,by omega⟩,rfl⟩ (hs:=t29)⟩
    intro e9 qe9;refine c197z ?_;have hpj:=eO (hpn.2 _ (g8 (d:=iE) (l:=(p.funcs.getD i j5).params) (i:=j) (by omega)));refine .z ?_;refine u2z ?_ ?_
    ·intro e11 qe11;refine .c6 [1,3,7,8,9] ?_;refine c1z ?_;refine c212z ?_;refine .rz ?_;exact ⟨_,by omega,.v ⟨(j+1),⟨rfl,by omega⟩,rfl⟩ (hs:=t29)⟩
    intro e11 qe11;refine .sk ?_;refine .c6 [1,3,7,8,9] ?_;refine c212z ?_;refine .rz ?_;exact ⟨_,by omega,.v ⟨(j+1),⟨rfl,by omega⟩,rfl⟩ (hs:=t29)⟩
   intro e8 qe8;refine .exit ?_;obtain rfl:j=(p.funcs.getD i j5).params.length:=by omega
   change c8 ..;have htab:gV.size=1:=rfl;have hbs:=(jW (hp.toGH.genv hfm) (p.funcs.getD i j5).body _ gV ByteArray.empty 0 (hp.toGH.YX hfm) hbd.1 (by omega) I7 Cl.nil).2;have he0:ByteArray.empty.size=0:=rfl;refine c145z ?_;refine .ca rfl rfl (IG (hp.toGH.genv hfm) 1000 _ (by omega) (Nat.le_refl _) _ gV (IY hp.toGH hfm) hbd.1 (by omega) I7 _) ?_;refine c28z ?_;refine .c6 [1,3,7] ?_;refine .rz ?_;exact ⟨_,by omega,.v ⟨(i+1),⟨rfl,by omega⟩,rfl⟩ (he:=t45)⟩
  intro e7 qe7;refine .exit ?_;obtain rfl:i=p.funcs.length:=by omega
  refine c211z ?_;exact .ret (.ex (hq:=by rfl))
theorem c_valid (hp:GP p):CB 87 [.agg [.vec p.globals.length (r7 p.globals),.vec p.mutexes.length (c9 p.mutexes),.vec p.funcs.length (o3 p.funcs)]] h (.bool true):=by
  refine .bz Tryz.f87 140 ?_;have hgl0:=hp.gl;have hml0:=hp.ml;have hfl0:=hp.fl;refine c13z ?_;refine c24z ?_;refine .spl 16 rfl rfl (fun e1=>by exfalso;have q:=fact e1;omega) (fun e1=>?_);try simp only[e1]
  have qe1:=fact e1;refine .k 6 [(4,16)] ?_;refine .spl 22 rfl rfl (fun e2=>by exfalso;have q:=fact e2;omega) (fun e2=>?_);try simp only[e2]
  have qe2:=fact e2;refine .m [(10,22)] ?_;refine uFbz ?_;intro e3 qe3;refine c197z ?_;refine .c6 [1] ?_;refine c19z ?_;refine .bX (fun m st=>∃(i:Nat),(m=p.globals.length-i∧i≤p.globals.length)∧st=⟨mkS 140 [(1,AV.ptr h.length 0 0),(3,AV.int .i64 ((i:Nat):Int))],h++[⟨0,false,27,3,[.vec p.globals.length (r7 p.globals),.vec p.mutexes.length (c9 p.mutexes),.vec p.funcs.length (o3 p.funcs)],0⟩]⟩) _ (.v ⟨0,⟨rfl,by omega⟩,rfl⟩) ?_;rintro m sl h' ⟨i,⟨hm,hi⟩,hst⟩;obtain ⟨rfl,rfl⟩:=St.mk.inj hst;refine c0z ?_;refine u2z ?_ ?_
  ·intro e4 qe4;refine c2z ?_;have hgi:=(hp.gn i (by omega)).2;have hgr:tQ (p.globals.getD i lR).name=false:=by rw[(hp.gn i (by omega)).1];exact ID i (by omega)
   refine c132z ?_;refine .ca rfl rfl (mL _ (hp.toGH.GW (g8 (d:=lR) (l:=p.globals) (i:=i) (by omega))) hgr) ?_;refine .k 8 [(8,43)] ?_;refine .m [(8,43)] ?_;refine uFbz ?_;intro e5 qe5;refine c4z ?_;refine .c6 [1,3] ?_;refine .rz ?_;exact ⟨_,by omega,.v ⟨(i+1),⟨rfl,by omega⟩,rfl⟩⟩
  intro e4 qe4;refine c6z ?_;refine c5z ?_;refine .u6 (fun m st=>∃(i:Nat),(m=p.mutexes.length-i∧i≤p.mutexes.length)∧st=⟨mkS 140 [(1,AV.ptr h.length 0 0),(4,AV.int .i64 ((i:Nat):Int))],h++[⟨0,false,27,3,[.vec p.globals.length (r7 p.globals),.vec p.mutexes.length (c9 p.mutexes),.vec p.funcs.length (o3 p.funcs)],0⟩]⟩) (.v ⟨0,⟨rfl,by omega⟩,rfl⟩) ?_;rintro m sl h' ⟨i,⟨hm,hi⟩,hst⟩;obtain ⟨rfl,rfl⟩:=St.mk.inj hst;clear hst;refine c0z ?_;refine u2z ?_ ?_
  ·intro e6 qe6;refine c2z ?_;have hmi:=(hp.mn i (by omega)).2;have hmr:tQ (p.mutexes.getD i v8).name=false:=by rw[(hp.mn i (by omega)).1];exact IE i (by omega)
   refine .z ?_;refine .c6 [1,4,5] ?_;refine c15z ?_;refine .ca rfl rfl (mL _ (hp.toGH.PL (g8 (d:=v8) (l:=p.mutexes) (i:=i) (by omega))) hmr) ?_;refine .k 7 [(4,68)] ?_;refine .spl 73 rfl rfl (fun e7=>by exfalso;have q:=fact e7;omega) (fun e7=>?_);try simp only[e7]
   have qe7:=fact e7;refine .k 5 [(9,73)] ?_;refine .spl 78 rfl rfl (fun e8=>by exfalso;have q:=fact e8;omega) (fun e8=>?_);try simp only[e8]
   have qe8:=fact e8;refine .k 3 [(14,78)] ?_;refine .spl 81 rfl rfl (fun e9=>?_) (fun e9=>?_)
   ·try simp only[e9]
    have qe9:=fact e9;refine .m [(14,78),(17,81)] ?_;refine .spl 86 rfl rfl (fun e10=>by exfalso;have q:=fact e10;have:=hmi.2.2 (by assumption);omega) (fun e10=>?_);try simp only[e10]
    have qe10:=fact e10;refine c34z ?_;refine .c6 [1,4] ?_;refine .rz ?_;exact ⟨_,by omega,.v ⟨(i+1),⟨rfl,by omega⟩,rfl⟩ (he:=t45)⟩
   try simp only[e9]
   have qe9:=fact e9;refine .m [(14,78),(17,81)] ?_;refine c34z ?_;refine .c6 [1,4] ?_;refine .rz ?_;exact ⟨_,by omega,.v ⟨(i+1),⟨rfl,by omega⟩,rfl⟩ (he:=t45)⟩
  intro e6 qe6;refine c6z ?_;refine c5z ?_;refine .u6 (fun m st=>∃(i:Nat),(m=p.funcs.length-i∧i≤p.funcs.length)∧st=⟨mkS 140 [(1,AV.ptr h.length 0 0),(6,AV.int .i64 ((i:Nat):Int))],h++[⟨0,false,27,3,[.vec p.globals.length (r7 p.globals),.vec p.mutexes.length (c9 p.mutexes),.vec p.funcs.length (o3 p.funcs)],0⟩]⟩) (.v ⟨0,⟨rfl,by omega⟩,rfl⟩) ?_;rintro m sl h' ⟨i,⟨hm,hi⟩,hst⟩;obtain ⟨rfl,rfl⟩:=St.mk.inj hst;clear hst;refine c0z ?_;refine u2z ?_ ?_
  ·intro e11 qe11;refine c2z ?_;have hfm:=g8 (d:=j5) (l:=p.funcs) (i:=i) (by omega);have hfn:=eO (hp.toGH.GX hfm);have hpn:=hp.toGH.pV hfm;have hbd:=hp.body i (by omega);have hwt:=R8 (l:=p.funcs) (i:=i) (by omega);have hww:=hp.wt;have hlw:=dC (p.funcs.getD i j5).body;have hfr:tQ (p.funcs.getD i j5).name=false:=by rw[(hp.fn i (by omega)).1];exact IF i (by omega)
   refine c13z ?_;refine .c6 [1,6,7] ?_;refine c15z ?_;refine .ca rfl rfl (mL _ (hp.toGH.GX hfm) hfr) ?_;refine .k 8 [(4,103)] ?_;refine .spl 109 rfl rfl (fun e12=>by exfalso;have q:=fact e12;omega) (fun e12=>?_);try simp only[e12]
   have qe12:=fact e12;refine .k 2 [(10,109)] ?_;refine .ca rfl rfl (c_okS (hp.toGH.genv hfm) (GHgres hp.toGH hfm) 1000 _ (by omega) (Nat.le_refl _) _ 0 (IY hp.toGH hfm) hbd.1 (by omega) (by omega) _) ?_;refine .m [(10,109)] ?_;refine c17z ?_;refine .c6 [1,6,7] ?_;refine c19z ?_;refine .bX (fun m st=>∃(j:Nat),(m=(p.funcs.getD i j5).params.length-j∧j≤(p.funcs.getD i j5).params.length)∧st=⟨mkS 140 [(1,AV.ptr h.length 0 0),(6,AV.int .i64 ((i:Nat):Int)),(7,AV.ptr (h.length+1) 0 0),(8,AV.int .i64 ((j:Nat):Int))],h++[⟨0,false,27,3,[.vec p.globals.length (r7 p.globals),.vec p.mutexes.length (c9 p.mutexes),.vec p.funcs.length (o3 p.funcs)],0⟩,⟨0,false,136,3,[.str (p.funcs.getD i j5).name,.vec (p.funcs.getD i j5).params.length (w4 (p.funcs.getD i j5).params),.vec (p.funcs.getD i j5).body.len (o5 (p.funcs.getD i j5).body)],0⟩]⟩) _ (.v ⟨0,⟨rfl,by omega⟩,rfl⟩) ?_;rintro m sl h' ⟨j,⟨hm,hj⟩,hst⟩;obtain ⟨rfl,rfl⟩:=St.mk.inj hst;refine c0z ?_;refine u2z ?_ ?_
   ·intro e13 qe13;refine c2z ?_;refine c132z ?_;refine .ca rfl rfl (mL _ (hpn.2 _ (g8 (d:=iE) (l:=(p.funcs.getD i j5).params) (i:=j) (by omega))) (IX hp.toGH hfm _ (g8 (d:=iE) (l:=(p.funcs.getD i j5).params) (i:=j) (by omega)))) ?_;refine .n ?_;refine c34z ?_;refine .c6 [1,6,7,8] ?_;refine .rz ?_;exact ⟨_,by omega,.v ⟨(j+1),⟨rfl,by omega⟩,rfl⟩⟩
   intro e13 qe13;refine c6z ?_;refine .rz ?_;exact ⟨_,by omega,.v ⟨(i+1),⟨rfl,by omega⟩,rfl⟩ (he:=t45)⟩
  intro e11 qe11;refine c6z ?_;have htx:=txtP_ok hp;refine c147z ?_;refine .ca rfl rfl (c_progT hp) ?_;refine .e 1 ?_;refine .ca rfl rfl (c_lexB htx.1 htx.2) ?_;refine .n ?_;refine .c6 [11] ?_;refine .z ?_;exact .ret (.ex (hq:=by rfl))
end Go.Proofs.YtonbocmibeikmaaGreat
end
section
namespace Go.Proofs.YtonbocmibeikmaaGreat
open Go.Ab Go.Un
def sc1:AV→AV
  | .bool b=>.bool b
  | .int k n=>.int k n
  | .str s=>.str s
  | _=>.any
def sc2:AV→AV
  | .agg cs=>.agg (cs.map sc1)
  | x=>sc1 x
def Bk:AV→AV
  | .tup xs=>.tup (xs.map sc2)
  | x=>sc2 x
section
variable {h1 h2:c5}{φ1 φ2:Map}{w:World}{v:Value}{x:AV}
theorem JA (r:Rel h1 φ1 w v x):Rel h2 φ2 w v (sc1 x):=by
  unfold sc1;split
  · cases r.aU;exact .aZ _
  · cases r.v7;exact .bR _ _
  · cases r.dT;exact .oZ _
  · exact .jD _
theorem JB (r:Rel h1 φ1 w v x):Rel h2 φ2 w v (sc2 x):=by
  unfold sc2;split
  · rename_i cs
    obtain ⟨a,rfl,ha,hc,hr⟩:=r.jQ;refine .agg a _ (by simp[ha]) hc fun j u z hu hz=>?_;rw[List.getElem?_map]at hz;obtain ⟨y,hy,rfl⟩:=Option.map_eq_some_iff.1 hz;exact JA (hr j u y hu hy)
  · exact JA r
theorem JC (r:Rel h1 φ1 w v x):Rel h2 φ2 w v (Bk x):=by
  unfold Bk;split
  · rename_i xs
    obtain ⟨a,rfl,ha,hr⟩:=r.mC;refine .tup a _ (by simp[ha]) fun j u z hu hz=>?_;rw[List.getElem?_map]at hz;obtain ⟨y,hy,rfl⟩:=Option.map_eq_some_iff.1 hz;exact JB (hr j u y hu hy)
  · exact JB r
end
variable {h:c5}
theorem borrowD {f:FuncId}{args args':List AV}{x:AV}(ha:ON 0 h args' args)(r:CallA Tryz.prog cfg f args' (bS 0 h) fun y _=>y=x):CallA Tryz.prog cfg f args h fun y k=>y=Bk x∧k=h:=by
  intro B φ w cargs i hs hr;obtain ⟨i',_⟩:=W4 0 i;obtain ⟨k1,k2⟩:=ha.get;refine (r B φ w cargs i' (by rw[k1];exact hs) fun j v y h1 h2=>?_).mono fun e w' hp=>?_
  · have hj:j<args.length:=by rw[←k1];exact (List.getElem?_eq_some_iff.1 h2).1
    have e1:args'.getD j .any=y:=by simp[List.getD,h2]
    have e2:args.getD j .any=args[j]:=by simp[List.getD,hj]
    rcases k2 j with h | h
    · rw[e1]at h
      rw[h];exact .jD _
    · rw[e1,e2]at h
      exact W5 i 0 h (hr j v _ h1 (List.getElem?_eq_getElem hj))
  · obtain ⟨v,y,h',φ',rfl,h1,h2,h3,rfl⟩:=hp
    have hfree:∀k,k<w.heap.size→U5 (bS 0 h) φ w k:=fun k hk=>⟨hk,fun β b hb hv=>by
      rcases cZ hb with ⟨hn,_⟩ | ⟨_,b',_,rfl⟩
      · omega
      · cases hv⟩
    have hk:∀k,k<w.heap.size→w'.heap[k]?=w.heap[k]?:=fun k hk=>(h2.kR k (hfree k hk)).1;have ev:Ev h φ w h φ w':=⟨h2.os,h2.tape,h2.output,h2.size,fun k hs=>⟨hk k hs.1,Nat.lt_of_lt_of_le hs.1 h2.size,hs.2⟩,fun k j hs=>⟨World.cell?_of_block (hk k hs.1),Nat.lt_of_lt_of_le hs.1 h2.size,hs.2⟩,Nat.le_refl _,fun β b b' e1 e2=>by rw[e1]at e2;cases e2;exact ⟨Nat.le_refl _,fun _=>⟨rfl,rfl,rfl⟩⟩⟩;refine ⟨v,_,h,φ,rfl,⟨fun β b hb hv=>?_,i.inj,i.base,i.virt,Nat.le_trans i.room h2.size,fun g=>ev.N7 (i.glob g)⟩,ev,JC h3,rfl,rfl⟩;obtain ⟨cur,q1,q2,q3,q4⟩:=i.blk β b hb hv;exact ⟨cur,(hk _ (Array.getElem?_eq_some_iff.1 q1).1).trans q1,q2,q3,fun j v x a d=>⟨(q4 j v x a d).1,ev.rel (q4 j v x a d).2⟩⟩
variable {g n:Nat}
theorem B8 {H:c5}{β:Nat}{l:List Ent}{x:BA}(hb:H[β]?=some (o9 145 3 g (j7 l)))(hn:l.length=n)(hl:l.length<1000000)(hf:bP l x=none):CB 89 [.own β g 0 n,.str x] H (.tup [.agg [.str ByteArray.empty,.int .i64 0,.int .i64 0],.bool false]):=by subst hn;have e:OM 0 H (.own β g 0 l.length)=some (.vec l.length (j7 l)):=iR hb (Nat.zero_le _) (by rw[s5];omega) (by omega) ((rO l).frz _ _ _);have ha:ON 0 H [.vec l.length (j7 l),.str x] [.own β g 0 l.length,.str x]:=And.intro (.inr e) (And.intro (.inr rfl) trivial);exact borrowD ha ((IM hf hl).mono fun _ _ h=>h.1)
variable {p:Go.Un.Pg}
theorem qF:(aQ p).length=p.globals.length+(p.mutexes.length+p.funcs.length):=by simp[aQ]
variable {i:Nat}
theorem RY (h:i<(aQ p).length):(aQ p).getD i jV=if i<p.globals.length then ⟨(p.globals.getD i lR).name,1,(i:Int)⟩ else if i-p.globals.length<p.mutexes.length then ⟨(p.mutexes.getD (i-p.globals.length) v8).name,2,((i-p.globals.length:Nat):Int)⟩ else ⟨(p.funcs.getD (i-p.globals.length-p.mutexes.length) j5).name,3,((i-p.globals.length-p.mutexes.length:Nat):Int)⟩:=by
  rw[qF]at h;unfold aQ;rw[List.getD_eq_getElem?_getD];by_cases h1:i<p.globals.length
  · rw[if_pos h1,List.getElem?_append_left t130]
    simp[h1]
  · rw[if_neg h1,List.getElem?_append_right (by simpa using Nat.le_of_not_lt h1)]
    simp only[List.length_map,List.length_range];by_cases h2:i-p.globals.length<p.mutexes.length
    · rw[if_pos h2,List.getElem?_append_left t103]
      simp[h2]
    · rw[if_neg h2,List.getElem?_append_right (by simpa using Nat.le_of_not_lt h2)]
      simp only[List.length_map,List.length_range];have h3:i-p.globals.length-p.mutexes.length<p.funcs.length:=by omega
      simp[h3]
theorem JD (h:i<(aQ p).length):(aQ p).getD i jV=if i<p.globals.length then ⟨(p.globals.getD i lR).name,1,(i:Int)⟩ else if (i:Int)-p.globals.length<p.mutexes.length then ⟨(p.mutexes.getD ((i:Int)-p.globals.length).toNat v8).name,2,(i:Int)-p.globals.length⟩ else ⟨(p.funcs.getD ((i:Int)-p.globals.length-p.mutexes.length).toNat j5).name,3,(i:Int)-p.globals.length-p.mutexes.length⟩:=by
  rw[RY h];by_cases h1:i<p.globals.length
  · rw[if_pos h1,if_pos h1]
  · rw[if_neg h1,if_neg h1,show ((i:Int)-p.globals.length).toNat=i-p.globals.length from by omega,show ((i:Int)-p.globals.length-p.mutexes.length).toNat=i-p.globals.length-p.mutexes.length from by omega]
    by_cases h2:i-p.globals.length<p.mutexes.length
    · rw[if_pos h2,if_pos (by omega),show ((i-p.globals.length:Nat):Int)=(i:Int)-p.globals.length from by omega]
    · rw[if_neg h2,if_neg (by omega),show ((i-p.globals.length-p.mutexes.length:Nat):Int)=(i:Int)-p.globals.length-p.mutexes.length from by omega]
theorem JE {l:List Ent}(hn:(l.map (·.name)).Nodup)(hi:i<l.length):bP (l.take i) (l.getD i jV).name=none:=by
  refine uZ fun h=>?_;obtain ⟨e,he,hx⟩:=List.mem_map.1 h;obtain ⟨j,hj,rfl⟩:=List.mem_iff_getElem.1 he;simp only[List.length_take]at hj;have hjl:j<l.length:=by omega
  simp only[List.getElem_take]at hx;have e1:l.getD i jV=l[i]:=by simp[List.getD,hi]
  rw[e1]at hx;have:=(List.pairwise_iff_getElem.1 hn) j i (by simpa using hjl) (by simpa using hi) (by omega);simp only[List.getElem_map]at this;exact this hx
theorem xX (h:GP p):((aQ p).map (·.name)).Nodup:=by have h1:=(vB h.toGH (i:=0) (by have:=h.fl;omega)).nodup vA;rw[List.map_append]at h1;exact (List.nodup_append.1 h1).1
theorem takeD {l:List Ent}(h:i<l.length):l.take (i+1)=l.take i++[l.getD i jV]:=by rw[List.take_add_one];simp[List.getD,h]
theorem K6 {l:List Ent}{x:Ent}:j7 (l++[x])=j7 l++[.str x.name,.int .i64 x.kind,.int .i64 x.n]:=by simp[j7,iT]
variable {b0 b2 b3:Blk}{es:List Ent}
theorem app_ent {l:c5}{x:BA}{k m:Int}(hn:es.length=n)(hl:n<100000):j6 cfg 145 (h++(b0::o9 145 3 g (j7 es)::b2::b3::⟨0,false,145,3,[.str x,.int .i64 k,.int .i64 m],0⟩::l)) (.own (h.length+1) g 0 n) (.own (h.length+4) 0 0 1)=some (.own (h.length+1) (g+1) 0 (n+1),h++(b0::o9 145 3 (g+1) (j7 (es++[⟨x,k,m⟩]))::b2::b3::⟨0,false,145,3,[.str x,.int .i64 k,.int .i64 m],0⟩::l)):=by subst hn;rw[u9 (C:=cfg) (K:=3) (m:=1) (new:=[.str x,.int .i64 k,.int .i64 m]) (zs:=j7 es) t30 rfl (by omega) (by rw[s5];omega) rfl (by omega) t113 rfl (by decide) (by omega),K6,l7];rfl
theorem RZ {l:List Gl}(h:i<l.length):List.take 1 (List.drop (i*2) (r7 l))=[.str (l.getD i lR).name]:=DL CT 2 0 (fun _=>rfl) (by omega) lR h
theorem SA {l:List Mx}(h:i<l.length):List.take 1 (List.drop (i*3) (c9 l))=[.str (l.getD i v8).name]:=DL OX 3 0 (fun _=>rfl) (by omega) v8 h
theorem SB {l:List Fu}(h:i<l.length):List.take 1 (List.drop (i*3) (o3 l))=[.str (l.getD i j5).name]:=DL dZ 3 0 (fun _=>rfl) (by omega) j5 h
attribute [local go_sem] rd s5 n8 bD cM r8 aS fT dL n6 bA aP l6 bF Int.natCast_nonneg Int.natCast_inj List.length_map wrap64 gA jL jM Y7 J0 Q0 Y8 zY max2 eZ cR bH Nat.reduceMul nA kH aF iT qB lG vP RZ SA SB app_ent
theorem c_decl (hp:GP p):CB 88 [.agg [.vec p.globals.length (r7 p.globals),.vec p.mutexes.length (c9 p.mutexes),.vec p.funcs.length (o3 p.funcs)]] h (.tup [.vec (aQ p).length (j7 (aQ p)),.int .i64 (-1)]):=by
  refine .bz Tryz.f88 94 ?_;have hdl:=qF (p:=p);have hnd:=xX hp;have hgl:=hp.gl;have hml:=hp.ml;have hfl:=hp.fl;refine c210z ?_;refine .z ?_;refine c216z ?_;refine .c6 [1,4,5,6] ?_;refine c19z ?_;refine c8.rC 4 rfl ?_;refine .u6 (fun m st=>∃(i:Nat),(m=(aQ p).length-i∧i≤(aQ p).length)∧st=⟨mkS 94 [(1,AV.ptr h.length 0 0),(4,AV.own (h.length+1) i 0 i),(5,AV.int .i64 (-1)),(6,AV.int .i64 ((aQ p).length:Int)),(7,AV.int .i64 ((i:Nat):Int))],h++[⟨0,false,27,3,[.vec p.globals.length (r7 p.globals),.vec p.mutexes.length (c9 p.mutexes),.vec p.funcs.length (o3 p.funcs)],0⟩,o9 145 3 i (j7 ((aQ p).take i))]⟩) (.v ⟨0,⟨rfl,by omega⟩,rfl⟩ (hs:=t49)) ?_;rintro m sl h' ⟨i,⟨hm,hi⟩,hst⟩;obtain ⟨rfl,rfl⟩:=St.mk.inj hst;clear hst;have htl:((aQ p).take i).length=i:=by simp;omega
  refine c0z ?_;refine u2z ?_ ?_
  ·intro e1 qe1;refine c2z ?_;refine c13z ?_;have hat:=JD (p:=p) (i:=i) (by omega);have hfn:=JE hnd (i:=i) (by omega);refine c19z ?_;refine .c6 [1,4,5,6,7,8,9] ?_;refine .z ?_;refine u2z ?_ ?_
   ·intro e2 qe2;refine c135z ?_;refine .seq ?_;refine .c6 [1,4,5,6,7,8] ?_;rw[if_pos (by omega)]at hat;rw[hat]at hfn;refine c199z ?_;refine .n ?_;refine c222z ?_;refine c17z ?_;refine c1z ?_;refine .c6 [1,4,5,6,7] ?_;refine .rz ?_;exact ⟨_,by omega,.v ⟨(i+1),⟨rfl,by omega⟩,rfl⟩ (he:=t108) (hk:=t104) (hs:=t49)⟩
   intro e2 qe2;refine .z ?_;refine u2z ?_ ?_
   ·intro e3 qe3;refine .c6 [1,4,5,6,7,8,9] ?_;refine c135z ?_;refine .seq ?_;refine .c6 [1,4,5,6,7,8] ?_;rw[if_neg (by omega),if_pos (by omega)]at hat;rw[hat]at hfn;refine c199z ?_;refine .n ?_;refine c222z ?_;refine c17z ?_;refine c1z ?_;refine .c6 [1,4,5,6,7] ?_;refine .rz ?_;exact ⟨_,by omega,.v ⟨(i+1),⟨rfl,by omega⟩,rfl⟩ (he:=t108) (hk:=t104) (hs:=t49)⟩
   intro e3 qe3;refine .c6 [1,4,5,6,7,8,9] ?_;refine .so v9 (mkP 17 [0,1,0,0,8,24,60,127,255,511,0,0,2048,6144,15360,32767,65535] [16]) ?_;refine .k 8 [] ?_;refine c44z ?_;change c8 ..;refine .seq ?_;refine .c6 [1,4,5,6,7,8] ?_;rw[if_neg (by omega),if_neg (by omega)]at hat;rw[hat]at hfn;refine c199z ?_;refine .n ?_;refine c222z ?_;refine c17z ?_;refine c1z ?_;refine .c6 [1,4,5,6,7] ?_;refine .rz ?_;exact ⟨_,by omega,.v ⟨(i+1),⟨rfl,by omega⟩,rfl⟩ (he:=t108) (hk:=t104) (hs:=t49)⟩
  intro e1 qe1;refine .exit ?_;obtain rfl:i=(aQ p).length:=by omega
  rw[List.take_length];refine c8.pS (t:=4) (γ:=h.length+1) (len:=(aQ p).length) t30 (by rw[s5];omega) (by omega) (rO _) (iS (by decide) rfl) ?_;rw[aW];simp only[l7,List.set_cons_succ,List.set_cons_zero];refine c211z ?_;exact .ret (.ex (hq:=by rfl))
def s0F (p:Go.Un.Pg)(f:Fu):Sco:=⟨p,aQ p++lS f.params 0 0,(fY f.params:Int),0,[],[]⟩
def s1F (p:Go.Un.Pg)(f:Fu):Sco:=cO (s0F p f).l (s0F p f) f.body
def s2F (p:Go.Un.Pg)(f:Fu):Sco:=n9 (s1F p f) ⟨8,0,false,l4,bU,[],[]⟩ (s1F p f).st
variable {a b c d:Blk}{s:Sco}{r:c5}
theorem SD:(h++(a::b::c::d::aF (h.length+4) s::o9 54 12 (s).code.length (o6 (s).code)::o9 3 1 (s).sites.length (g5 (s).sites)::r))=hT ⟨h++[a,b,c,d],r⟩ (aF (h.length+4) s) s.code s.sites:=by simp[hT]
theorem hF_k:Frm.k ⟨h++[a,b,c,d],r⟩=h.length+4:=by simp[Frm.k]
theorem SE {E:Env}{cx:Ctx}{S:Sl}(hw:S.wt≤1000){vars:List BA}(sc:SC E cx vars s.l)(hG:GS E S vars)(bd:Bd E cx s.p)(B:Bnd s S.wt):CH 133 [.ptr (h.length+4) 0 0,.vec S.len (o5 S)] (h++(a::b::c::d::aF (h.length+4) s::o9 54 12 (s).code.length (o6 (s).code)::o9 3 1 (s).sites.length (g5 (s).sites)::r)) (.tup []) (h++(a::b::c::d::aF (h.length+4) (cO s.l s S)::o9 54 12 ((cO s.l s S)).code.length (o6 ((cO s.l s S)).code)::o9 3 1 ((cO s.l s S)).sites.length (g5 ((cO s.l s S)).sites)::r)):=by have:=AH 1000 S hw (Nat.le_refl _) vars s sc hG bd B ⟨h++[a,b,c,d],r⟩;rw[hF_k,←SD,←SD]at this;exact this
theorem c_putF (hc:s.code.length<10000)(hs:s.sites.length<10000)(i:Ins)(t:Int){zs:List AV}(hz:oX (eK i) zs):CH 134 [.ptr (h.length+4) 0 0,.agg zs,.int .i64 t] (h++(a::b::c::d::aF (h.length+4) s::o9 54 12 (s).code.length (o6 (s).code)::o9 3 1 (s).sites.length (g5 (s).sites)::r)) (.int .i64 ((s.code.length:Nat):Int)) (h++(a::b::c::d::aF (h.length+4) (n9 s i t)::o9 54 12 ((n9 s i t)).code.length (o6 ((n9 s i t)).code)::o9 3 1 ((n9 s i t)).sites.length (g5 ((n9 s i t)).sites)::r)):=by have:=mO (e:=⟨h++[a,b,c,d],r⟩) hc hs i t hz;rw[hF_k,←SD,←SD]at this;exact this
variable {b1:Blk}
theorem app_cpF {l:c5}(hz:es.length=n)(h0:0<n)(hn:n<1000):j6 cfg 145 (h++(b0::b1::b2::⟨0,false,145,3,[],0⟩::l)) (.own (h.length+3) 0 0 0) (.vec n (j7 es))=some (.own (h.length+3) 1 0 n,h++(b0::b1::b2::⟨1,false,145,3,j7 es,0⟩::l)):=by
  subst hz;have e1:cfg.sz 145=3:=rfl;have e2:(cfg.ti 145).bytes=32:=rfl;have hm:es.length≤maxLen:=by
    have:(1000:Nat)≤maxLen:=by decide
    omega
  have hb:es.length*32≤140737488355328:=by omega
  have h1:(j7 es).length=es.length*3:=by rw[s5];omega
  have h2:¬es.length=0:=by omega
  have h3:¬es.length*3=0:=by omega
  simp[j6,rd,lenOf,e1,e2,h1,hm,hb,p8,l7,h0,h2,h3]
variable {b4:Blk}
theorem app_onF {b5 b6 b7 b8:Blk}{l:c5}{x:BA}{k m:Int}(hz:es.length=n)(hn:n<1000):j6 cfg 145 (h++(b0::b1::b2::⟨g,false,145,3,j7 es,0⟩::b4::b5::b6::b7::b8::⟨0,false,145,3,[.str x,.int .i64 k,.int .i64 m],0⟩::l)) (.own (h.length+3) g 0 n) (.own (h.length+9) 0 0 1)=some (.own (h.length+3) (g+1) 0 (n+1),h++(b0::b1::b2::⟨g+1,false,145,3,j7 (es++[⟨x,k,m⟩]),0⟩::b4::b5::b6::b7::b8::⟨0,false,145,3,[.str x,.int .i64 k,.int .i64 m],0⟩::l)):=by
  subst hz;have e1:cfg.sz 145=3:=rfl;have e2:(cfg.ti 145).bytes=32:=rfl;have hm:es.length+1≤maxLen:=by
    have:(1001:Nat)≤maxLen:=by decide
    omega
  have hb:(es.length+1)*32≤140737488355328:=by omega
  have h1:(j7 es).length=es.length*3:=by rw[s5];omega
  have ht:List.take (es.length*3) (j7 es)=j7 es:=List.take_of_length_le (by omega);have hnl:¬(es.length+1)*3≤es.length*3:=by omega
  have hs:j7 (es++[⟨x,k,m⟩])=j7 es++[.str x,.int .i64 k,.int .i64 m]:=by simp[j7,iT]
  simp[j6,rd,lenOf,e1,e2,h1,hm,hb,ht,hnl,p8,l7,hs]
theorem qG:∀{l:List Pm} {x:Pm} {a b:Nat},lS (l++[x]) a b=lS l a b++[if x.mu then ⟨x.name,5,((b+aY l:Nat):Int)⟩ else ⟨x.name,4,((a+fY l:Nat):Int)⟩]
  | [],x,a,b=>by simp[lS,aY,fY];split<;>rfl
  | y::l,x,a,b=>by
    simp only[List.cons_append,lS];cases hy:y.mu with
    | true=>
      simp only[if_true,qG (l:=l),List.cons_append,aY,fY,List.filter_cons,hy,Bool.not_true,Bool.false_eq_true,if_false,List.length_cons];rw[show b+1+(l.filter fun x=>x.mu).length=b+((l.filter fun x=>x.mu).length+1) from by omega]
    | false=>
      simp only[Bool.false_eq_true,if_false,qG (l:=l),List.cons_append,aY,fY,List.filter_cons,hy,Bool.not_false,if_true,List.length_cons];rw[show a+1+(l.filter fun x=>! x.mu).length=a+((l.filter fun x=>! x.mu).length+1) from by omega]
variable {l:List Pm}
theorem AJ {a b:Nat}:(lS l a b).length=l.length:=by have:=congrArg List.length (iJ l a b);simpa using this
theorem AK:fY l≤l.length:=List.length_filter_le _ _
theorem rQ (h:i<l.length):l.take (i+1)=l.take i++[l.getD i iE]:=by rw[List.take_add_one];simp[List.getD,h]
theorem xY {x:Pm}:fY (l++[x])=fY l+(if x.mu then 0 else 1):=by simp only[fY,List.filter_append,List.length_append];cases h:x.mu<;>simp[h]
theorem vU {x:Pm}:aY (l++[x])=aY l+(if x.mu then 1 else 0):=by simp only[aY,List.filter_append,List.length_append];cases h:x.mu<;>simp[h]
theorem drop_pm (hi:i<l.length):l.drop i=l.getD i iE::l.drop (i+1):=by rw[List.drop_eq_getElem_cons hi];simp[List.getD,hi]
theorem findP (hp:GP p){j:Nat}(hj:j<p.funcs.length)(hi:i<(p.funcs.getD j j5).params.length):bP (aQ p++lS ((p.funcs.getD j j5).params.take i) 0 0) ((p.funcs.getD j j5).params.getD i iE).name=none:=by
  have hn:=(vB hp.toGH hj).nodup vA;rw[List.map_append,iJ]at hn;have hs:((p.funcs.getD j j5).params.map (·.name))=(((p.funcs.getD j j5).params.take i).map (·.name))++((p.funcs.getD j j5).params.getD i iE).name::(((p.funcs.getD j j5).params.drop (i+1)).map (·.name)):=by
    have h1:(p.funcs.getD j j5).params=(p.funcs.getD j j5).params.take i++((p.funcs.getD j j5).params.getD i iE::(p.funcs.getD j j5).params.drop (i+1)):=by have h2:=drop_pm hi;rw[←h2,List.take_append_drop]
    have h3:=congrArg (List.map (fun x:Pm=>x.name)) h1;rw[List.map_append,List.map_cons]at h3;exact h3
  rw[hs,←List.append_assoc]at hn;refine uZ fun hm=>?_;rw[List.map_append,iJ]at hm;exact (List.nodup_append.1 hn).2.2 _ hm _ (by simp) rfl
theorem bd_of (hp:GP p){f:Fu}:Bd (PF p f) (ctxP p f) p:=⟨rfl,rfl,rfl,fun x hx=>by obtain ⟨g,hg,rfl⟩:=List.mem_map.1 hx;exact (hp.toGH.pV hg).1⟩
theorem SF (h:i<l.length):List.take 1 (List.drop (i*2) (w4 l))=[.str (l.getD i iE).name]:=DL CR 2 0 (fun _=>rfl) (by omega) iE h
section
attribute [local go_sem] app_cpF app_onF B5 vQ vR B6 B7 rM nD SF
theorem c_func (hp:GP p){j:Nat}(hj:j<p.funcs.length):CB 90 [.agg [.vec p.globals.length (r7 p.globals),.vec p.mutexes.length (c9 p.mutexes),.vec p.funcs.length (o3 p.funcs)],.vec (aQ p).length (j7 (aQ p)),.agg (dZ (p.funcs.getD j j5))] h (.tup [.agg (uW (nV p (p.funcs.getD j j5))),.vec (s2F p (p.funcs.getD j j5)).sites.length (g5 (s2F p (p.funcs.getD j j5)).sites),.int .i64 0,.int .i64 0]):=by
  unfold dZ;refine .bz Tryz.f90 136 ?_;have hdl:=qF (p:=p);have hgl:=hp.gl;have hml:=hp.ml;have hfl:=hp.fl;have hpn:=(hp.toGH.pV (g8 (d:=j5) hj)).1;have hbd:=hp.body j hj;have hwt:=R8 (l:=p.funcs) hj;have hww:=hp.wt;refine .z ?_;refine .sg v9 (mkH 7 [0,0,0,6,15,31,63] [1,3,5] [] [0,2,10,42] [0]) 0 ?_;refine .rm [true] ?_;refine .en [true] [2,0] [_] ?_;refine .p 1 ?_;refine .en [true,false] [10,2,0] [_] ?_;refine .p 1 ?_;refine .en [true,false,false] [42,10,2,0] [_] ?_;refine .p 1 ?_;refine .po [false,true,true,true] ?_;refine z5.nil rfl ?_;refine .c6 [5,6,10] ?_;refine c8.mI (β:=h.length+4) (k:=8) t30 rfl ?_;simp only[List.append_assoc,List.cons_append,List.nil_append,p8,l7,List.set_cons_succ,List.set_cons_zero,List.length_append,List.length_cons,List.length_nil,Nat.reduceAdd,Nat.zero_add];refine c8.mI (β:=h.length+4) (k:=9) t30 rfl ?_;simp only[List.append_assoc,List.cons_append,List.nil_append,p8,l7,List.set_cons_succ,List.set_cons_zero,List.length_append,List.length_cons,List.length_nil,Nat.reduceAdd,Nat.zero_add];refine c18z ?_;refine .u6 (fun m st=>∃(i:Nat),(m=(p.funcs.getD j j5).params.length-i∧i≤(p.funcs.getD j j5).params.length)∧st=⟨mkS 136 [(5,AV.ptr (h.length+1) 0 0),(6,AV.ptr (h.length+2) 0 0),(10,AV.ptr (h.length+4) 0 0),(11,AV.ptr (h.length+7) 0 0),(12,AV.int .i64 ((i:Nat):Int))],h++[⟨0,false,27,3,[.vec p.globals.length (r7 p.globals),.vec p.mutexes.length (c9 p.mutexes),.vec p.funcs.length (o3 p.funcs)],0⟩,⟨0,false,136,3,[.str (p.funcs.getD j j5).name,.vec (p.funcs.getD j j5).params.length (w4 (p.funcs.getD j j5).params),.vec (p.funcs.getD j j5).body.len (o5 (p.funcs.getD j j5).body)],0⟩,⟨0,false,57,5,[.str ByteArray.empty,.int .i64 0,.int .i64 0,.int .i64 0,.nils],0⟩,⟨1+i,false,145,3,j7 (aQ p++lS ((p.funcs.getD j j5).params.take i) 0 0),0⟩,⟨0,false,198,10,[.vec p.globals.length (r7 p.globals),.vec p.mutexes.length (c9 p.mutexes),.vec p.funcs.length (o3 p.funcs),.own (h.length+3) (1+i) 0 ((aQ p).length+i),.int .i64 0,.int .i64 0,.int .i64 0,.int .i64 0,.own (h.length+5) 0 0 0,.own (h.length+6) 0 0 0],0⟩,⟨0,true,0,0,[],0⟩,⟨0,true,0,0,[],0⟩,⟨0,false,57,5,[.str (p.funcs.getD j j5).name,.int .i64 ((fY ((p.funcs.getD j j5).params.take i):Nat):Int),.int .i64 ((aY ((p.funcs.getD j j5).params.take i):Nat):Int),.int .i64 0,.nils],0⟩]⟩) (.v ⟨0,⟨rfl,by omega⟩,rfl⟩) ?_ (he:=by (simp[lS,fY,aY]));rintro m sl h' ⟨i,⟨hm,hi⟩,hst⟩;obtain ⟨rfl,rfl⟩:=St.mk.inj hst;clear hst;have hLl:(aQ p++lS ((p.funcs.getD j j5).params.take i) 0 0).length=(aQ p).length+i:=by simp only[List.length_append,AJ,List.length_take];omega
  have hpl:(lS ((p.funcs.getD j j5).params.take i) 0 0).length=i:=by simp only[AJ,List.length_take];omega
  have hne:j7 (aQ p++lS ((p.funcs.getD j j5).params.take i) 0 0)≠[]:=by intro h0;have:=congrArg List.length h0;rw[s5]at this;replace this:=s7z this;omega
  have hni:=AK (l:=(p.funcs.getD j j5).params.take i);have hnl:=I9 (l:=(p.funcs.getD j j5).params.take i);rw[List.length_take]at hni hnl;refine c0z ?_;refine u2z ?_ ?_
  ·intro e1 qe1;refine c2z ?_;refine .seq ?_;have hfn:=findP hp hj (i:=i) (by omega);refine .sg v9 (mkH 17 [0,1,3,7,0,16,0,112,240,496,1023,2047,4095,4095,0,24575,65535] [10,14,15] [(14,0)] [0,1024,16384,17408,50176] [0,1,2,3,4,5,6,7,8,9,10,11,12,13]) 1 ?_;refine z5.aI t25 ?_;refine .p 3 ?_;refine c112z ?_;refine c196z ?_;refine .cm [true] [1024,0] [_] rfl rfl (by simp only[kQ,and_true,List.cons_append,List.nil_append];exact B8 t205 hLl (by omega) hfn) ?_;refine .p 3 ?_;refine .en [true,true] [17408,16384,1024,0] [_,_] ?_;refine .en [true,false,false,false] [50176,17408,16384,1024,0] [_] ?_;refine .p 1 ?_;refine z5.pop [false,false,true,false,true] (by kernel_rfl) (by simp only[sE,and_true,List.cons_append,List.nil_append];exact ⟨cV.s4 rfl rfl rfl rfl hb89 (B8 t205 hLl (by omega) hfn) rfl,cV.s4 rfl rfl rfl rfl hb89 (B8 t205 hLl (by omega) hfn) rfl⟩) ?_;refine c93z ?_;refine .po [false,false,true,false,true] ?_;refine z5.nil rfl ?_;refine .c6 [5,6,10,11,12,14] ?_;refine c9z ?_;refine .sk ?_;refine .z ?_;refine u2z ?_ ?_
   ·intro e2 qe2;refine .c6 [5,6,10,11,12] ?_;refine .sg v9 (mkH 19 [0,0,2,6,14,0,32,0,224,480,992,0,2048,8160,16352,32766,65535,131071,262143] [14,15,18] [] [0,16384,49152,311296] [0,1,2,3,4]) 0 ?_;refine .p 4 ?_;refine c141z ?_;refine c233z ?_;refine .p 1 ?_;refine .rn [true] ?_;refine .p 1 ?_;refine .en [true] [16384,0] [_] ?_;refine .en [true,false] [49152,16384,0] [_] ?_;refine .p 2 ?_;refine .en [true,false,false] [311296,49152,16384,0] [_] ?_;refine c27z ?_;refine .c6 [5,6,10,11,12,57] ?_;refine c48z ?_;have hmu:((p.funcs.getD j j5).params.getD i iE).mu=true:=by simp_all
    have hs1:lS ((p.funcs.getD j j5).params.take (i+1)) 0 0=lS ((p.funcs.getD j j5).params.take i) 0 0++[⟨((p.funcs.getD j j5).params.getD i iE).name,5,((aY ((p.funcs.getD j j5).params.take i):Nat):Int)⟩]:=by rw[rQ (by omega),qG,hmu];simp
    have hs2:fY ((p.funcs.getD j j5).params.take (i+1))=fY ((p.funcs.getD j j5).params.take i)+0:=by rw[rQ (by omega),xY,hmu];rfl
    have hs3:aY ((p.funcs.getD j j5).params.take (i+1))=aY ((p.funcs.getD j j5).params.take i)+1:=by rw[rQ (by omega),vU,hmu];rfl
    exact ⟨_,by omega,.v ⟨(i+1),⟨rfl,by omega⟩,rfl⟩ (he:=t131) (hk:=t78)⟩
   intro e2 qe2;refine .c6 [5,6,10,11,12] ?_;refine .sg v9 (mkH 19 [0,0,2,6,14,0,32,0,224,480,992,0,2048,8160,16352,32766,65535,131071,262143] [14,15,18] [] [0,16384,49152,311296] [0,1,2,3,4]) 0 ?_;refine .p 4 ?_;refine c141z ?_;refine c233z ?_;refine .p 1 ?_;refine .rn [true] ?_;refine .p 1 ?_;refine .en [true] [16384,0] [_] ?_;refine .en [true,false] [49152,16384,0] [_] ?_;refine .p 2 ?_;refine .en [true,false,false] [311296,49152,16384,0] [_] ?_;refine c27z ?_;refine .c6 [5,6,10,11,12] ?_;refine c48z ?_;have hmu:((p.funcs.getD j j5).params.getD i iE).mu=false:=by simp_all
   have hs1:lS ((p.funcs.getD j j5).params.take (i+1)) 0 0=lS ((p.funcs.getD j j5).params.take i) 0 0++[⟨((p.funcs.getD j j5).params.getD i iE).name,4,((fY ((p.funcs.getD j j5).params.take i):Nat):Int)⟩]:=by rw[rQ (by omega),qG,hmu];simp
   have hs2:fY ((p.funcs.getD j j5).params.take (i+1))=fY ((p.funcs.getD j j5).params.take i)+1:=by rw[rQ (by omega),xY,hmu];rfl
   have hs3:aY ((p.funcs.getD j j5).params.take (i+1))=aY ((p.funcs.getD j j5).params.take i)+0:=by rw[rQ (by omega),vU,hmu];rfl
   exact ⟨_,by omega,.v ⟨(i+1),⟨rfl,by omega⟩,rfl⟩ (he:=t131) (hk:=t78)⟩
  intro e1 qe1;refine .exit ?_;obtain rfl:i=(p.funcs.getD j j5).params.length:=by omega
  rw[List.take_length]at hLl hne ⊢;rw[←hLl];refine c8.G9 (γ:=h.length+3) (β:=h.length+4) (k:=3) (off:=0) (len:=(aQ p++lS (p.funcs.getD j j5).params 0 0).length) (cs:=j7 (aQ p++lS (p.funcs.getD j j5).params 0 0)) t30 rfl (by simp only[s5];omega) (by rw[List.drop_zero,List.take_of_length_le (by simp only[s5];omega)];exact (rO _).UW) t30 (by omega) rfl ?_;refine c22z ?_;refine .z ?_;refine .c6 [5,6,10,11] ?_;refine c8.aI (h++[⟨0,false,27,3,[.vec p.globals.length (r7 p.globals),.vec p.mutexes.length (c9 p.mutexes),.vec p.funcs.length (o3 p.funcs)],0⟩,⟨0,false,136,3,[.str (p.funcs.getD j j5).name,.vec (p.funcs.getD j j5).params.length (w4 (p.funcs.getD j j5).params),.vec (p.funcs.getD j j5).body.len (o5 (p.funcs.getD j j5).body)],0⟩,⟨0,false,57,5,[.str ByteArray.empty,.int .i64 0,.int .i64 0,.int .i64 0,.nils],0⟩,dJ ⟨1+(p.funcs.getD j j5).params.length,false,145,3,j7 (aQ p++lS (p.funcs.getD j j5).params 0 0),0⟩ (0+(aQ p++lS (p.funcs.getD j j5).params 0 0).length*3),aF (h.length+4) (s0F p (p.funcs.getD j j5)),o9 54 12 (s0F p (p.funcs.getD j j5)).code.length (o6 (s0F p (p.funcs.getD j j5)).code),o9 3 1 (s0F p (p.funcs.getD j j5)).sites.length (g5 (s0F p (p.funcs.getD j j5)).sites),⟨0,false,57,5,[.str (p.funcs.getD j j5).name,.int .i64 ((fY (p.funcs.getD j j5).params:Nat):Int),.int .i64 ((aY (p.funcs.getD j j5).params:Nat):Int),.int .i64 0,.nils],0⟩]) (by simp only[s0F,aF,List.length_append,Nat.zero_add];rfl) ?_;generalize dJ ⟨1+(p.funcs.getD j j5).params.length,false,145,3,j7 (aQ p++lS (p.funcs.getD j j5).params 0 0),0⟩ (0+(aQ p++lS (p.funcs.getD j j5).params 0 0).length*3)=Lb;have hni2:=AK (l:=(p.funcs.getD j j5).params);have hB0:Bnd (s0F p (p.funcs.getD j j5)) (p.funcs.getD j j5).body.wt:=⟨by show 0<(aQ p++lS (p.funcs.getD j j5).params 0 0).length;omega,by show (aQ p++lS (p.funcs.getD j j5).params 0 0).length+_≤_;omega,by show 0+_≤_;omega,by show 0+_≤_;omega,by show 0≤((fY (p.funcs.getD j j5).params:Nat):Int);omega,by show ((fY (p.funcs.getD j j5).params:Nat):Int)+_≤_;omega,Int.le_refl _,by show 0+_≤_;omega⟩;refine c14z ?_;refine .ch rfl rfl (SE (s:=(s0F p (p.funcs.getD j j5))) (by omega) (sc_of hp.toGH hj) hbd.1 (bd_of hp) hB0) ?_;refine .nil ?_;have hc1:=iV (l0:=(s0F p (p.funcs.getD j j5)).l) (s:=(s0F p (p.funcs.getD j j5))) (S:=(p.funcs.getD j j5).body);have hc2:=iL (l0:=(s0F p (p.funcs.getD j j5)).l) (s:=(s0F p (p.funcs.getD j j5))) (S:=(p.funcs.getD j j5).body);change _≤(s1F p (p.funcs.getD j j5)).code.length∧(s1F p (p.funcs.getD j j5)).code.length≤0+_ at hc1;change _≤(s1F p (p.funcs.getD j j5)).sites.length∧(s1F p (p.funcs.getD j j5)).sites.length≤0+_ at hc2;refine c8.aI (h++[⟨0,false,27,3,[.vec p.globals.length (r7 p.globals),.vec p.mutexes.length (c9 p.mutexes),.vec p.funcs.length (o3 p.funcs)],0⟩,⟨0,false,136,3,[.str (p.funcs.getD j j5).name,.vec (p.funcs.getD j j5).params.length (w4 (p.funcs.getD j j5).params),.vec (p.funcs.getD j j5).body.len (o5 (p.funcs.getD j j5).body)],0⟩,⟨0,false,57,5,[.str ByteArray.empty,.int .i64 0,.int .i64 0,.int .i64 0,.nils],0⟩,Lb,aF (h.length+4) (s1F p (p.funcs.getD j j5)),o9 54 12 (s1F p (p.funcs.getD j j5)).code.length (o6 (s1F p (p.funcs.getD j j5)).code),o9 3 1 (s1F p (p.funcs.getD j j5)).sites.length (g5 (s1F p (p.funcs.getD j j5)).sites),⟨0,false,57,5,[.str (p.funcs.getD j j5).name,.int .i64 ((fY (p.funcs.getD j j5).params:Nat):Int),.int .i64 ((aY (p.funcs.getD j j5).params:Nat):Int),.int .i64 0,.nils],0⟩]) rfl ?_;refine c132z ?_;refine .ch rfl rfl (c_putF (s:=(s1F p (p.funcs.getD j j5))) (by omega) (by omega) ⟨8,0,false,l4,bU,[],[]⟩ _ (by repeat' (first | exact trivial | exact oX.refl _ | exact .inl rfl | exact .inr ⟨rfl,rfl⟩ | refine ⟨?_,?_⟩))) ?_;refine .nil ?_;refine .c6 [6,10,11] ?_;refine c8.aI (h++[⟨0,false,27,3,[.vec p.globals.length (r7 p.globals),.vec p.mutexes.length (c9 p.mutexes),.vec p.funcs.length (o3 p.funcs)],0⟩,⟨0,false,136,3,[.str (p.funcs.getD j j5).name,.vec (p.funcs.getD j j5).params.length (w4 (p.funcs.getD j j5).params),.vec (p.funcs.getD j j5).body.len (o5 (p.funcs.getD j j5).body)],0⟩,⟨0,false,57,5,[.str ByteArray.empty,.int .i64 0,.int .i64 0,.int .i64 0,.nils],0⟩,Lb,aF (h.length+4) (s2F p (p.funcs.getD j j5)),o9 54 12 (s2F p (p.funcs.getD j j5)).code.length (o6 (s2F p (p.funcs.getD j j5)).code),o9 3 1 (s2F p (p.funcs.getD j j5)).sites.length (g5 (s2F p (p.funcs.getD j j5)).sites),⟨0,false,57,5,[.str (p.funcs.getD j j5).name,.int .i64 ((fY (p.funcs.getD j j5).params:Nat):Int),.int .i64 ((aY (p.funcs.getD j j5).params:Nat):Int),.int .i64 0,.nils],0⟩]) rfl ?_;refine c8.nU (γ:=h.length+5) (β:=h.length+4) (k:=8) (len:=(s2F p (p.funcs.getD j j5)).code.length) t30 (by rw[r8];omega) (by omega) (WB _) t30 (by omega) rfl ?_;simp only[B5,vQ,vR,B6,B7,rM,List.append_assoc,List.cons_append,List.nil_append,p8,l7,List.set_cons_succ,List.set_cons_zero,List.length_append,List.length_cons,List.length_nil,Nat.reduceAdd,Nat.zero_add];generalize dY 54 12 (s2F p (p.funcs.getD j j5)).code.length (o6 (s2F p (p.funcs.getD j j5)).code) ((s2F p (p.funcs.getD j j5)).code.length*12)=Cb;refine c8.nU (γ:=h.length+6) (β:=h.length+4) (k:=9) (len:=(s2F p (p.funcs.getD j j5)).sites.length) t30 (by rw[l6];omega) (by omega) (xB _) t30 (by omega) rfl ?_;simp only[List.append_assoc,List.cons_append,List.nil_append,p8,l7,List.set_cons_succ,List.set_cons_zero,List.length_append,List.length_cons,List.length_nil,Nat.reduceAdd,Nat.zero_add];generalize dY 3 1 (s2F p (p.funcs.getD j j5)).sites.length (g5 (s2F p (p.funcs.getD j j5)).sites) ((s2F p (p.funcs.getD j j5)).sites.length*1)=Sb;refine .sg v9 (mkH 12 [0,1,3,7,0,16,48,112,15,271,1023,2047] [9,11] [] [0,512,2560] [4,5,6,7]) 0 ?_;refine c96z ?_;refine .p 3 ?_;refine c141z ?_;refine .en [true] [512,0] [_] ?_;refine .p 1 ?_;refine .en [true,false] [2560,512,0] [_] ?_;refine c175z ?_;refine .c6 [6,10,11] ?_;refine .sg v9 (mkH 17 [0,0,2,6,14,0,32,96,224,0,512,1536,3584,1,8223,25087,65535] [13] [] [0,8192] [1,2,3,4,5,6,7,8,9,10,11,12]) 0 ?_;refine .rn [true] ?_;refine c196z ?_;refine c196z ?_;refine c196z ?_;refine .en [true] [8192,0] [_] ?_;refine .p 3 ?_;refine .po [true,true] ?_;refine .po [true,true] ?_;refine .po [true,true] ?_;refine z5.nil rfl ?_;exact .ret (.ex (hq:=by rfl))
end
theorem plnMx (l:List Mx):aC (c9 l):=aC.flat fun _=>aC.cons .str (aC.cons .bool (aC.cons .int .nil))
theorem plnPr (l:List Pr):aC (g7 l):=aC.flat fun _=>aC.cons .str (aC.cons .int (aC.cons .int (aC.cons .int (aC.cons .vec .nil))))
theorem R9 {l:List Pr}{x:Pr}:g7 (l++[x])=g7 l++uW x:=by simp[g7]
theorem DO {l:List Gl}(h:i<l.length):List.take 1 (List.drop (i*2+1) (r7 l))=[.int .i64 (l.getD i lR).init]:=DL CT 2 1 (fun _=>rfl) (by omega) lR h
theorem app_cpM {l:c5}{ms:List Mx}(hz:ms.length=n)(h0:0<n)(hn:n<1000):j6 cfg 66 (h++(b0::b1::b2::⟨1,false,66,3,[],0⟩::l)) (.own (h.length+3) 1 0 0) (.vec n (c9 ms))=some (.own (h.length+3) 2 0 n,h++(b0::b1::b2::⟨2,false,66,3,c9 ms,0⟩::l)):=by
  subst hz;have e1:cfg.sz 66=3:=rfl;have e2:(cfg.ti 66).bytes=32:=rfl;have hm:ms.length≤maxLen:=by
    have:(1000:Nat)≤maxLen:=by decide
    omega
  have hb:ms.length*32≤140737488355328:=by omega
  have h1:(c9 ms).length=ms.length*3:=by rw[n6];omega
  have h2:¬ms.length=0:=by omega
  have h3:¬ms.length*3=0:=by omega
  simp[j6,rd,lenOf,e1,e2,h1,hm,hb,p8,l7,h0,h2,h3]
theorem app_gi {l:c5}{is:List Int}{x:Int}(hn:is.length=n)(hl:n<100000):j6 cfg 3 (h++(b0::b1::b2::b3::b4::o9 3 1 g (g5 is)::⟨0,false,3,1,[.int .i64 x],0⟩::l)) (.own (h.length+5) g 0 n) (.own (h.length+6) 0 0 1)=some (.own (h.length+5) (g+1) 0 (n+1),h++(b0::b1::b2::b3::b4::o9 3 1 (g+1) (g5 (is++[x]))::⟨0,false,3,1,[.int .i64 x],0⟩::l)):=by subst hn;rw[u9 (C:=cfg) (K:=1) (m:=1) (new:=[.int .i64 x]) (zs:=g5 is) t30 rfl (by omega) (by rw[l6,Nat.mul_one]) rfl (by omega) t113 rfl (by decide) (by omega),←qC,l7];rfl
theorem app_pr {b5 b7:Blk}{l:c5}{ps:List Pr}{x:Pr}(hn:ps.length=n)(hl:n<100000):j6 cfg 57 (h++(b0::b1::b2::b3::b4::b5::o9 57 5 g (g7 ps)::b7::⟨0,false,57,5,uW x,0⟩::l)) (.own (h.length+6) g 0 n) (.own (h.length+8) 0 0 1)=some (.own (h.length+6) (g+1) 0 (n+1),h++(b0::b1::b2::b3::b4::b5::o9 57 5 (g+1) (g7 (ps++[x]))::b7::⟨0,false,57,5,uW x,0⟩::l)):=by subst hn;rw[u9 (C:=cfg) (K:=5) (m:=1) (new:=uW x) (zs:=g7 ps) t30 rfl (by omega) (by rw[w8,Nat.mul_comm]) rfl (by omega) (by simp[rd,p8,uW]) rfl (by decide) (by omega),←R9,l7];rfl
theorem SG {l:List Fu}(h:0<l.length):List.take 1 (List.drop 1 (o3 l))=[AV.vec (l.getD 0 j5).params.length (w4 (l.getD 0 j5).params)]:=nD (i:=0) h
theorem JF (hp:GP p):bP (aQ p) ⟨#[109,97,105,110]⟩=some ⟨⟨#[109,97,105,110]⟩,3,0⟩:=by have hf:=hp.fl.1;have hn:(p.funcs.getD 0 j5).name=⟨#[109,97,105,110]⟩:=(hp.fn 0 (by omega)).1;have:=rI (xX hp) (e:=⟨(p.funcs.getD 0 j5).name,3,((0:Nat):Int)⟩) (List.mem_append.2 (.inr (List.mem_append.2 (.inr (List.mem_map.2 ⟨0,List.mem_range.2 (by omega),rfl⟩)))));rw[hn]at this;exact this
theorem taken {α:Type}{l:List α}{d:α}(h:i<l.length):l.take (i+1)=l.take i++[l.getD i d]:=by rw[List.take_add_one];simp[List.getD,h]
theorem JG {x:Pr}:(uW x).length=5:=rfl
theorem takePr {x:Pr}:List.take 5 (uW x)=uW x:=rfl
section
attribute [local go_sem] app_cpM app_gi app_pr nD SG DO uV JG takePr
theorem c_lower (hp:GP p):CB 54 [.agg [.vec p.globals.length (r7 p.globals),.vec p.mutexes.length (c9 p.mutexes),.vec p.funcs.length (o3 p.funcs)]] h (.tup [.agg (encUn (dB p)),.int .i64 0,.int .i64 0,.int .i64 0]):=by
  refine .bz Tryz.f54 112 ?_;have hdl:=qF (p:=p);have hgl:=hp.gl;have hml:=hp.ml;have hfl:=hp.fl;have hmain:=JF hp;have hz0:(p.funcs.getD 0 j5).params.length=0:=by rw[(hp.fn 0 (by omega)).2.1 rfl];rfl
  refine c13z ?_;refine c147z ?_;refine .ca rfl rfl (c_valid hp) ?_;refine .n ?_;refine c17z ?_;refine c147z ?_;refine .ca rfl rfl (c_decl hp) ?_;refine c35z ?_;refine .c6 [1,2,6,7] ?_;refine c9z ?_;refine .sk ?_;refine c147z ?_;refine .ca rfl rfl (R5 hmain (by omega)) ?_;refine c35z ?_;refine .s ?_;refine .k 8 [(2,37)] ?_;refine .k 8 [(7,42)] ?_;refine .m [(7,42)] ?_;refine uFbz ?_;intro e1 qe1;refine .sk ?_;refine .c6 [1,2,6,8,30] ?_;refine .sg v9 (mkH 9 [0,1,0,0,8,28,63,0,255] [2,5,7,8] [(2,0),(7,1)] [0,4,36,128,132,164,420] [0,1,2,3,4,5,6]) 2 ?_;refine c33z ?_;refine .em [true] [4,0] [_] ?_;refine .p 1 ?_;refine .rm [true,true] ?_;refine .em [true,false] [36,4,0] [_] ?_;refine .p 1 ?_;refine .en [true,true,true] [164,132,128,36,4,0] [_,_,_] ?_;refine .en [true,false,false,false,false,false] [420,164,132,128,36,4,0] [_] ?_;refine .po [false,false,true,false,false,true,false] ?_;refine .po [false,false,true,true,false,true,true] ?_;refine .po [false,false,false,true,false,false,true] ?_;refine .po [false,true,true,true,true,true,true] ?_;refine z5.nil rfl ?_;refine .seq ?_;refine .c6 [1,2,6,10,30] ?_;refine c19z ?_;refine c8.mI (β:=h.length+4) (k:=0) t30 rfl ?_;simp only[List.append_assoc,List.cons_append,List.nil_append,p8,l7,List.set_cons_succ,List.set_cons_zero,List.length_append,List.length_cons,List.length_nil,Nat.reduceAdd,Nat.zero_add];refine .u6 (fun m st=>∃(i:Nat),(m=p.globals.length-i∧i≤p.globals.length)∧st=⟨mkS 112 [(1,AV.ptr h.length 0 0),(2,AV.ptr (h.length+1) 0 0),(6,AV.vec (aQ p).length (j7 (aQ p))),(10,AV.ptr (h.length+4) 1 0),(11,AV.int .i64 ((i:Nat):Int))],h++[⟨0,false,27,3,[.vec p.globals.length (r7 p.globals),.vec p.mutexes.length (c9 p.mutexes),.vec p.funcs.length (o3 p.funcs)],0⟩,⟨0,false,30,4,[.nils,.nils,.nils,.int .i64 0],0⟩,⟨0,false,145,3,[.str ⟨#[109,97,105,110]⟩,.int .i64 3,.int .i64 0],0⟩,⟨2,false,66,3,c9 p.mutexes,0⟩,⟨1,false,30,4,[.own (h.length+5) i 0 i,.own (h.length+3) 2 0 p.mutexes.length,.nils,.int .i64 0],0⟩,o9 3 1 i (g5 ((dB p).globals.take i))]⟩) (.v ⟨0,⟨rfl,by omega⟩,rfl⟩) ?_;rintro m sl h' ⟨i,⟨hm,hi⟩,hst⟩;obtain ⟨rfl,rfl⟩:=St.mk.inj hst;clear hst;have htl:((dB p).globals.take i).length=i:=by simp[dB];omega
  refine c0z ?_;refine u2z ?_ ?_
  ·intro e2 qe2;refine c2z ?_;refine .og v9 (mkH 12 [0,1,0,4,0,28,60,124,252,511,1023,2047] [8,9,11] [] [0,256,768,2816] [0,1]) 0 ?_;refine c33z ?_;refine .p 1 ?_;refine c233z ?_;refine .en [true] [256,0] [_] ?_;refine .en [true,false] [768,256,0] [_] ?_;refine .p 1 ?_;refine .en [true,false,false] [2816,768,256,0] [_] ?_;refine c129z ?_;refine .c6 [1,2,6,10,11] ?_;refine .rz ?_;exact ⟨_,by omega,.v ⟨(i+1),⟨rfl,by omega⟩,rfl⟩ (he:=by (rw[taken (d:=0) (l:=(dB p).globals) (by simp[dB];omega),show (dB p).globals.getD i 0=(p.globals.getD i lR).init from getD_map (by omega)];simp only[List.append_assoc,List.cons_append,List.nil_append];rfl)) (hk:=by exact (y0.refl _).app rfl ⟨.inl rfl,.inl rfl,.inl rfl,.inl rfl,.inr (gN.get ⟨.own _ _ _ _ (by simp),.own _ _ _ _ (by simp),.nils,.int _ _,trivial⟩),.inr (by rw[o2];exact (xB _).refs _),trivial⟩)⟩
  intro e2 qe2;refine .exit ?_;obtain rfl:i=p.globals.length:=by omega
  change c8 ..;refine c5z ?_;refine c8.mI (β:=h.length+4) (k:=2) t30 rfl ?_;simp only[List.append_assoc,List.cons_append,List.nil_append,p8,l7,List.set_cons_succ,List.set_cons_zero,List.length_append,List.length_cons,List.length_nil,Nat.reduceAdd,Nat.zero_add];refine .u6 (fun m st=>∃(i:Nat),(m=p.funcs.length-i∧i≤p.funcs.length)∧st=⟨mkS 112 [(1,AV.ptr h.length 0 0),(2,AV.ptr (h.length+1) 0 0),(6,AV.vec (aQ p).length (j7 (aQ p))),(10,AV.ptr (h.length+4) 1 0),(12,AV.int .i64 ((i:Nat):Int))],h++[⟨0,false,27,3,[.vec p.globals.length (r7 p.globals),.vec p.mutexes.length (c9 p.mutexes),.vec p.funcs.length (o3 p.funcs)],0⟩,⟨0,false,30,4,[.nils,.nils,.nils,.int .i64 0],0⟩,⟨0,false,145,3,[.str ⟨#[109,97,105,110]⟩,.int .i64 3,.int .i64 0],0⟩,⟨2,false,66,3,c9 p.mutexes,0⟩,⟨1,false,30,4,[.own (h.length+5) p.globals.length 0 p.globals.length,.own (h.length+3) 2 0 p.mutexes.length,.own (h.length+6) i 0 i,.int .i64 0],0⟩,o9 3 1 p.globals.length (g5 ((dB p).globals.take p.globals.length)),o9 57 5 i (g7 ((dB p).procs.take i))]⟩) (.v ⟨0,⟨rfl,by omega⟩,rfl⟩) ?_;rintro m sl h' ⟨i,⟨hm,hi⟩,hst⟩;obtain ⟨rfl,rfl⟩:=St.mk.inj hst;clear hst;have htl:((dB p).procs.take i).length=i:=by simp[dB];omega
  refine c0z ?_;refine u2z ?_ ?_
  ·intro e3 qe3;refine c2z ?_;refine .sg v9 (mkH 18 [0,0,0,4,0,28,60,127,255,511,511,511,511,0,9215,26623,61439,131071] [13,14] [] [0,8192,24576] [0,1,2,3,4,5,6,7,8,9,10,11,12]) 0 ?_;refine .rm [true] ?_;refine .p 2 ?_;refine .rm [true] ?_;refine .p 2 ?_;refine .rm [true] ?_;refine .cl rfl rfl (fun _=>c_func hp (by omega)) ?_;refine .p 5 ?_;refine .en [true] [8192,0] [_] ?_;refine .en [true,false] [24576,8192,0] [_] ?_;refine .p 3 ?_;refine c37z ?_;refine c175z ?_;refine .seq ?_;refine .c6 [1,2,6,10,12,13,15,16] ?_;refine c9z ?_;refine .sk ?_;refine c1z ?_;refine .c6 [1,2,6,10,12] ?_;refine .rz ?_;exact ⟨_,by omega,.v ⟨(i+1),⟨rfl,by omega⟩,rfl⟩ (he:=by (rw[taken (d:=pU) (l:=(dB p).procs) (by simp[dB];omega),show (dB p).procs.getD i pU=nV p (p.funcs.getD i j5) from getD_map (by omega)];simp only[List.append_assoc,List.cons_append,List.nil_append];rfl)) (hk:=by exact (y0.refl _).app rfl ⟨.inl rfl,.inl rfl,.inl rfl,.inl rfl,.inr (gN.get ⟨.own _ _ _ _ (by simp),.own _ _ _ _ (by simp),.own _ _ _ _ (by simp),.int _ _,trivial⟩),.inl rfl,.inr (by rw[o2];exact (plnPr _).refs _),trivial⟩)⟩
  intro e3 qe3;refine .exit ?_;obtain rfl:i=p.funcs.length:=by omega
  have hgt:(dB p).globals.take p.globals.length=(dB p).globals:=List.take_of_length_le (by simp[dB]);have hpt:(dB p).procs.take p.funcs.length=(dB p).procs:=List.take_of_length_le (by simp[dB]);rw[hgt,hpt];have hgl2:(dB p).globals.length=p.globals.length:=by simp[dB]
  have hpl2:(dB p).procs.length=p.funcs.length:=by simp[dB]
  refine c8.nU (γ:=h.length+5) (β:=h.length+4) (k:=0) (len:=p.globals.length) t30 (by rw[l6,hgl2,Nat.mul_one]) (by omega) (xB _) t30 (by omega) rfl ?_;simp only[List.append_assoc,List.cons_append,List.nil_append,p8,l7,List.set_cons_succ,List.set_cons_zero,List.length_append,List.length_cons,List.length_nil,Nat.reduceAdd,Nat.zero_add];generalize dY 3 1 p.globals.length (g5 (dB p).globals) (p.globals.length*1)=Gb;refine c8.nU (γ:=h.length+6) (β:=h.length+4) (k:=2) (len:=p.funcs.length) t30 (by rw[w8,hpl2,Nat.mul_comm]) (by omega) (plnPr _) t30 (by omega) rfl ?_;simp only[List.append_assoc,List.cons_append,List.nil_append,p8,l7,List.set_cons_succ,List.set_cons_zero,List.length_append,List.length_cons,List.length_nil,Nat.reduceAdd,Nat.zero_add];generalize dY 57 5 p.funcs.length (g7 (dB p).procs) (p.funcs.length*5)=Pb;refine c8.G9 (γ:=h.length+3) (β:=h.length+4) (k:=1) (off:=0) (len:=p.mutexes.length) (cs:=c9 p.mutexes) t30 rfl (by simp only[n6];omega) (by rw[List.drop_zero,List.take_of_length_le (by simp only[n6];omega)];exact (plnMx _).UW) t30 (by omega) rfl ?_;refine c22z ?_;refine .c6 [2,10] ?_;refine .z ?_;exact .ret (.ex (hq:=by (simp only[encUn,hgl2,hpl2];rfl)))
end
end Go.Proofs.YtonbocmibeikmaaGreat
end
section
namespace Go.Proofs.YtonbocmibeikmaaGreat
open Go.Ab Go.Un
variable {a b:List Int}{i:Nat}
theorem ne_at (h:a.getD i 0≠b.getD i 0):¬a=b:=fun e=>h (by rw[e])
theorem eq_all (hl:a.length=b.length)(h:∀d,d<a.length→a.getD d 0=b.getD d 0):a=b:=by refine List.ext_getElem hl fun i h1 h2=>?_;have:=h i h1;simpa [List.getD,h1,h2] using this
theorem all_nx (h:∀d,d<i→a.getD d 0=b.getD d 0)(e:a.getD i 0=b.getD i 0):∀d,d<i+1→a.getD d 0=b.getD d 0:=fun d hd=>by
  by_cases hdi:d=i
  · rw[hdi];exact e
  · exact h d (by omega)
variable {l:List Int}{n:Int}
theorem no_nx (h:∀d,d<i→l.getD d 0≠n)(e:l.getD i 0≠n):∀d,d<i+1→l.getD d 0≠n:=fun d hd=>by
  by_cases hdi:d=i
  · rw[hdi];exact e
  · exact h d (by omega)
theorem no_mem (h:∀d,d<l.length→l.getD d 0≠n):¬n∈l:=fun hm=>by obtain ⟨i,hi,rfl⟩:=bV (d:=(0:Int)) hm;exact h i hi rfl
theorem take_I {k:Nat}:List.take k (g5 l)=g5 (l.take k):=by simp[g5,List.map_take]
theorem dropt_I {k:Nat}:List.take (l.length-k) (List.drop k (g5 l))=g5 (l.drop k):=by rw[g5,←List.map_drop,List.take_of_length_le (by simp)];rfl
theorem iW (h:i<l.length):List.take 1 (List.drop i (g5 l))=[.int .i64 (l.getD i 0)]:=by
  have h2:i<(g5 l).length:=by rw[l6];exact h
  rw[List.drop_eq_getElem_cons h2];simp[g5,List.getD,h]
def gW (g n:Nat):Nat:=if n=0 then g else g+1
def kW (l:List Int)(n:Int):Nat:=(l.takeWhile fun x=>decide (x<n)).length
def jY (l:List Int)(n:Int):List Int:=if n∈l then l else l.take (kW l n)++n::l.drop (kW l n)
theorem kW_at:∀{k:Nat},k≤l.length→(∀d,d<k→l.getD d 0<n)→(k<l.length→¬l.getD k 0<n)→k=kW l n:=by
  induction l with
  | nil=>intro k hk _ _;simp at hk;subst hk;rfl
  | cons x l ih=>
    intro k hk h1 h2;cases k with
    | zero=>
      have:=h2 (by simp);simp only[List.getD_cons_zero]at this;simp[kW,List.takeWhile,this]
    | succ k=>
      have h0:=h1 0 (by omega);simp only[List.getD_cons_zero]at h0;have:=ih (k:=k) (by simpa using hk) (fun d hd=>by have:=h1 (d+1) (by omega);simpa using this) (fun hl=>by have:=h2 (by simpa using hl);simpa using this);rw[kW,List.takeWhile_cons_of_pos (by simpa using h0),List.length_cons,this];rfl
theorem lt_nx (h:∀d,d<i→l.getD d 0<n)(e:l.getD i 0<n):∀d,d<i+1→l.getD d 0<n:=fun d hd=>by
  by_cases hdi:d=i
  · rw[hdi];exact e
  · exact h d (by omega)
variable {h:c5}{g:Nat}
theorem app_w {l:c5}{n m:Nat}(ha:a.length=n)(hb:b.length=m)(hn:n<150000)(hm:m<100000):j6 cfg 3 (h++(⟨g,false,3,1,g5 a,0⟩::l)) (.own h.length g 0 n) (.vec m (g5 b))=some (.own h.length (gW g m) 0 (n+m),h++(⟨gW g m,false,3,1,g5 (a++b),0⟩::l)):=by
  subst ha hb;have e1:cfg.sz 3=1:=rfl;have e2:(cfg.ti 3).bytes=8:=rfl;have h1:a.length+b.length≤maxLen:=by
    have:(300000:Nat)≤maxLen:=by decide
    omega
  have h2:(a.length+b.length)*8≤140737488355328:=by omega
  have ht:List.take a.length (g5 a)=g5 a:=List.take_of_length_le t197;have hs:g5 (a++b)=g5 a++g5 b:=by simp[g5]
  cases b with
  | nil=>
    simp only[List.length_nil,Nat.add_zero]at h1 h2;simp[j6,rd,lenOf,e1,e2,gW,hs,g5,h1,h2]
  | cons x b=>
    simp only[List.length_cons]at h1 h2;have h3:¬a.length+(b.length+1)≤a.length:=by omega
    simp[j6,rd,lenOf,e1,e2,l6,h1,h2,ht,h3,gW,hs,jG,yY]
theorem app_w0 {l:c5}{m:Nat}(hb:b.length=m)(hm:m<100000):j6 cfg 3 (h++(⟨g,false,3,1,[],0⟩::l)) (.own h.length g 0 0) (.vec m (g5 b))=some (.own h.length (gW g m) 0 m,h++(⟨gW g m,false,3,1,g5 b,0⟩::l)):=by have:=app_w (h:=h) (l:=l) (a:=[]) (b:=b) (g:=g) (n:=0) rfl hb (by omega) hm;rw[Nat.zero_add]at this;exact this
theorem app_w1 {l:c5}{x:Int}{n:Nat}(ha:a.length=n)(hn:n<100000):j6 cfg 3 (h++(⟨g,false,3,1,g5 a,0⟩::⟨1,false,3,1,[.int .i64 x],0⟩::l)) (.own h.length g 0 n) (.own (h.length+1) 1 0 1)=some (.own h.length (g+1) 0 (n+1),h++(⟨g+1,false,3,1,g5 (a++[x]),0⟩::⟨1,false,3,1,[.int .i64 x],0⟩::l)):=by
  subst ha;have e1:cfg.sz 3=1:=rfl;have e2:(cfg.ti 3).bytes=8:=rfl;have h1:a.length+1≤maxLen:=by
    have:(200000:Nat)≤maxLen:=by decide
    omega
  have h2:(a.length+1)*8≤140737488355328:=by omega
  have ht:List.take a.length (g5 a)=g5 a:=List.take_of_length_le t197;have hs:g5 (a++[x])=g5 a++[.int .i64 x]:=qC;have h3:¬a.length+1≤a.length:=by omega
  simp[j6,rd,lenOf,e1,e2,l6,h1,h2,ht,h3,hs,p8,jG,yY]
theorem frz_I {n d:Nat}{H:c5}:p6 (lP n H (d+1)) (g5 l)=some (g5 l):=(xB l).frz _ _ _
theorem K7 {n β len:Nat}{H:c5}(hb:H[β]?=some ⟨g,false,3,1,g5 a,0⟩)(hn:n≤β)(hl:a.length=len):iQ n H 6 (.own β g 0 len)=some (.vec len (g5 a)):=by subst hl;rw[dK,if_neg (by omega),gH,hb];simp only[hn,and_self,if_true,Bool.false_eq_true,if_false,Nat.zero_add,Nat.mul_one,l6,Nat.le_refl,List.drop_zero];rw[List.take_of_length_le t197,frz_I]
def fI:List z8→z8→Int
  | [],_ => -1
  | a::l,x=>if a=x then 0 else if fI l x<0 then -1 else fI l x+1
theorem fI_at:∀{l:List z8} {x:z8} {i:Nat},i<l.length→(∀d,d<i→l.getD d l5≠x)→l.getD i l5=x→fI l x=i
  | [],x,i,h,_,_=>by simp at h
  | a::l,x,0,_,_,h=>by simp only[List.getD_cons_zero]at h;rw[fI,if_pos h];rfl
  | a::l,x,i+1,hi,h1,h2=>by have h0:=h1 0 (by omega);simp only[List.getD_cons_zero]at h0;have ih:=fI_at (l:=l) (x:=x) (i:=i) (by simpa using hi) (fun d hd=>by have:=h1 (d+1) (by omega);simpa using this) (by simpa using h2);rw[fI,if_neg h0,ih,if_neg (by omega)];omega
theorem Bu:∀{l:List z8} {x:z8},(∀d,d<l.length→l.getD d l5≠x)→fI l x = -1
  | [],x,_=>rfl
  | a::l,x,h=>by have h0:=h 0 (by simp);simp only[List.getD_cons_zero]at h0;have ih:=Bu (l:=l) (x:=x) (fun d hd=>by have:=h (d+1) (by simpa using hd);simpa using this);rw[fI,if_neg h0,ih,if_pos (by omega)]
theorem AL:∀{l:List z8} {x:z8},x∈l→0≤fI l x∧fI l x<l.length∧l.getD (fI l x).toNat l5=x
  | [],x,h=>by simp at h
  | a::l,x,h=>by
    by_cases hx:a=x
    · rw[fI,if_pos hx];simp[hx]
    · have ih:=AL (l:=l) (x:=x) (by simpa [Ne.symm hx] using h)
      rw[fI,if_neg hx,if_neg (by omega)];refine ⟨by omega,t60,?_⟩;rw[show (fI l x+1).toNat=(fI l x).toNat+1 from by omega];simpa using ih.2.2
variable {x:z8}
theorem fI_not {l:List z8}(h:x∉l):fI l x = -1:=Bu fun d hd e=>h (e▸g8 hd)
theorem it_ne {l:List z8}(h:∀d,d<i→l.getD d l5≠x)(e:l.getD i l5≠x):∀d,d<i+1→l.getD d l5≠x:=fun d hd=>by
  by_cases hdi:d=i
  · rw[hdi];exact e
  · exact h d (by omega)
theorem it_ne1 {l:List z8}(h:¬(l.getD i l5).proc=x.proc):l.getD i l5≠x:=fun e=>h (by rw[e])
theorem it_ne2 {l:List z8}(h:¬(l.getD i l5).j9=x.j9):l.getD i l5≠x:=fun e=>h (by rw[e])
theorem nF {l:List z8}(h:i<l.length):List.take 1 (List.drop (i*2) (j0 l))=[.int .i64 (l.getD i l5).proc]:=DL CU 2 0 (fun _=>rfl) (by omega) l5 h
theorem AM {l:List z8}(h:i<l.length):List.take 1 (List.drop (i*2+1) (j0 l))=[.vec (l.getD i l5).j9.length (g5 (l.getD i l5).j9)]:=DL CU 2 1 (fun _=>rfl) (by omega) l5 h
theorem nG {l:List z8}(h:i<l.length):List.take 2 (List.drop (i*2) (j0 l))=[.int .i64 (l.getD i l5).proc,.vec (l.getD i l5).j9.length (g5 (l.getD i l5).j9)]:=GJ h
variable {u:Un}{it:z8}
theorem bK (h:it.proc.toNat<u.procs.length):List.take 1 (List.drop (it.proc.toNat*5+4) (g7 u.procs))=[.vec (c7 u it).length (o6 (c7 u it))]:=DL uW 5 4 (fun _=>rfl) (by omega) pU h
theorem eH {l:List Ins}(h:i<l.length):List.take 1 (List.drop (i*12) (o6 l))=[.int .i64 (l.getD i g6).op]:=by rw[show i*12=i*12+0 from rfl,o6,DL eK 12 0 aS (by omega) g6 h,lH];rfl
theorem SH {l:List Ins}(h:i<l.length):List.take 1 (List.drop (i*12+1) (o6 l))=[.int .i64 (l.getD i g6).target]:=by rw[o6,DL eK 12 1 aS (by omega) g6 h,lH];rfl
theorem SI {l:List Ins}(h:i<l.length):List.take 1 (List.drop (i*12+11) (o6 l))=[.vec (l.getD i g6).places.length (dQ (l.getD i g6).places)]:=by rw[o6,DL eK 12 11 aS (by omega) g6 h,lH];rfl
theorem SJ {l:List Pl}(h:i<l.length):List.take 3 (List.drop (i*3) (dQ l))=[.bool (l.getD i bU).param,.int .i64 (l.getD i bU).index,.vec (l.getD i bU).at'.length (n4 (l.getD i bU).at')]:=read_pl h
theorem app_lk {b0 b1 b2 b3:Blk}{l:c5}{is:List Int}{x:Int}{n:Nat}(hn:is.length=n)(hl:n<100000):j6 cfg 3 (h++(b0::b1::b2::b3::o9 3 1 g (g5 is)::⟨0,false,3,1,[.int .i64 x],0⟩::l)) (.own (h.length+4) g 0 n) (.own (h.length+5) 0 0 1)=some (.own (h.length+4) (g+1) 0 (n+1),h++(b0::b1::b2::b3::o9 3 1 (g+1) (g5 (is++[x]))::⟨0,false,3,1,[.int .i64 x],0⟩::l)):=by subst hn;rw[u9 (C:=cfg) (K:=1) (m:=1) (new:=[.int .i64 x]) (zs:=g5 is) t30 rfl (by omega) (by rw[l6,Nat.mul_one]) rfl (by omega) t113 rfl (by decide) (by omega),←qC,l7];rfl
attribute [local go_sem] rd s5 n8 bD cM r8 aS fT dL n6 bA aP l6 bF Int.natCast_nonneg Int.natCast_inj List.length_map wrap64 gA jL jM Y7 J0 Q0 Y8 zY max2 eZ cR bH Nat.reduceMul nA kH iT vP iW app_w app_w0 app_w1 Nat.sub_zero Option.bind_eq_bind take_I dropt_I nF AM nG bK eH SH SI SJ app_lk u0 w8
theorem WE (a b:List Int)(hl:a.length<1000000):CB 31 [.vec a.length (g5 a),.vec b.length (g5 b)] h (.bool (decide (a=b))):=by
  refine .bz Tryz.f31 26 ?_;refine c69z ?_;refine u2z ?_ ?_
  ·intro e1 qe1;refine c154z ?_;exact ⟨[],_,(List.append_nil _).symm,t40,t57⟩
  intro e1 qe1;refine .sk ?_;refine c5z ?_;refine .bX (fun m st=>∃(i:Nat),(m=a.length-i∧((∀d,d<i→a.getD d 0=b.getD d 0)∧i≤a.length))∧st=⟨mkS 26 [(0,AV.vec a.length (g5 a)),(1,AV.vec b.length (g5 b)),(5,AV.int .i64 ((i:Nat):Int))],h⟩) _ (.v ⟨0,⟨rfl,⟨t105,by omega⟩⟩,rfl⟩) ?_;rintro m sl h' ⟨i,⟨hm,⟨hI,hi⟩⟩,hst⟩;obtain ⟨rfl,rfl⟩:=St.mk.inj hst;refine c0z ?_;refine u2z ?_ ?_
  ·intro e2 qe2;refine c2z ?_;refine .ss v9 (mkP 9 [0,0,3,7,0,0,48,112,255] []) ?_;refine c44z ?_;refine u2z ?_ ?_
   ·intro e3 qe3;refine c154z ?_;exact ⟨[],_,(List.append_nil _).symm,t40,t57⟩
   intro e3 qe3;refine c4z ?_;refine c163z ?_;exact ⟨_,by omega,.v ⟨(i+1),⟨rfl,⟨all_nx hI (by omega),by omega⟩⟩,rfl⟩⟩
  intro e2 qe2;refine c63z ?_;exact ⟨[],_,(List.append_nil _).symm,t40,t57⟩
theorem WG (l:List Int)(n:Int)(hl:l.length<1000000):CB 109 [.vec l.length (g5 l),.int .i64 n] h (.bool (decide (n∈l))):=by
  refine .bz Tryz.f109 18 ?_;refine c18z ?_;refine .bX (fun m st=>∃(i:Nat),(m=l.length-i∧((∀d,d<i→l.getD d 0≠n)∧i≤l.length))∧st=⟨mkS 18 [(0,AV.vec l.length (g5 l)),(1,AV.int .i64 n),(5,AV.int .i64 ((i:Nat):Int))],h⟩) _ (.v ⟨0,⟨rfl,⟨t105,by omega⟩⟩,rfl⟩) ?_;rintro m sl h' ⟨i,⟨hm,⟨hI,hi⟩⟩,hst⟩;obtain ⟨rfl,rfl⟩:=St.mk.inj hst;refine c0z ?_;refine u2z ?_ ?_
  ·intro e1 qe1;refine c58z ?_;refine u2z ?_ ?_
   ·intro e2 qe2;refine c154z ?_;exact ⟨[],_,(List.append_nil _).symm,t40,t101⟩
   intro e2 qe2;refine c4z ?_;refine c163z ?_;exact ⟨_,by omega,.v ⟨(i+1),⟨rfl,⟨no_nx hI (by omega),by omega⟩⟩,rfl⟩⟩
  intro e1 qe1;refine c63z ?_;exact ⟨[],_,(List.append_nil _).symm,t40,t101⟩
theorem c_hasY (hm:n∈l)(hl:l.length<1000000):CB 109 [.vec l.length (g5 l),.int .i64 n] h (.bool true):=by have:=WG (h:=h) l n hl;rw[decide_eq_true hm]at this;exact this
theorem c_hasN (hm:n∉l)(hl:l.length<1000000):CB 109 [.vec l.length (g5 l),.int .i64 n] h (.bool false):=by have:=WG (h:=h) l n hl;rw[decide_eq_false hm]at this;exact this
theorem c_withY (l:List Int)(n:Int)(hl:l.length<100000)(hmem:n∈l):CB 69 [.vec l.length (g5 l),.int .i64 n] h (.vec (jY l n).length (g5 (jY l n))):=by refine .bz Tryz.f69 36 ?_;refine c13z ?_;refine c15z ?_;refine .ca rfl rfl (c_hasY hmem (by omega)) ?_;refine .nil ?_;refine .T ?_;refine .z ?_;exact .ret (.ex (hq:=by (rw[jY,if_pos hmem])))
theorem c_withN (l:List Int)(n:Int)(hl:l.length<100000)(hmem:n∉l):CB 69 [.vec l.length (g5 l),.int .i64 n] h (.vec (jY l n).length (g5 (jY l n))):=by
  refine .bz Tryz.f69 36 ?_;refine c13z ?_;refine c15z ?_;refine .ca rfl rfl (c_hasN hmem (by omega)) ?_;refine .nil ?_;refine c144z ?_;refine .sb ?_;refine .bX (fun m st=>∃(i:Nat),(m=l.length-i∧((∀d,d<i→l.getD d 0<n)∧i≤l.length))∧st=⟨mkS 36 [(0,AV.vec l.length (g5 l)),(1,AV.int .i64 n),(5,AV.int .i64 ((i:Nat):Int))],h⟩) _ (.v ⟨0,⟨rfl,⟨t105,by omega⟩⟩,rfl⟩) ?_;rintro m sl h' ⟨i,⟨hm,⟨hI,hi⟩⟩,hst⟩;obtain ⟨rfl,rfl⟩:=St.mk.inj hst;refine .seq ?_;refine c24z ?_;refine .spl 14 rfl rfl (fun e1=>?_) (fun e1=>?_)
  ·try simp only[e1]
   have qe1:=fact e1;refine .m [(4,14)] ?_;refine u2z ?_ ?_
   ·intro e2 qe2;refine c125z ?_;refine c163z ?_;exact ⟨_,by omega,.v ⟨(i+1),⟨rfl,⟨lt_nx hI (by omega),by omega⟩⟩,rfl⟩⟩
   intro e2 qe2;refine .exit ?_;have hkw:i=kW l n:=kW_at hi hI (by intro _;omega);have hdl:(l.drop i).length=l.length-i:=List.length_drop;have htl:(l.take i).length=i:=by rw[List.length_take];omega
   have hcl:(l.take i++[n]).length=i+1:=by rw[List.length_append,htl];rfl
   change c8 ..;refine .c6 [0,1,5] ?_;refine .sg v9 (mkH 13 [0,0,0,6,15,0,32,127,0,0,768,2047,4095] [0,4,6,7,11] [(0,0),(6,1)] [0,1,17,64,65,81,209,2257] [0,1,2,3,4]) 2 ?_;refine .em [true] [1,0] [_] ?_;refine .p 3 ?_;refine .em [true,false] [17,1,0] [_] ?_;refine .p 1 ?_;refine .en [true,true,true] [81,65,64,17,1,0] [_,_,_] ?_;refine .en [true,false,false,false,false,false] [209,81,65,64,17,1,0] [_] ?_;refine .p 3 ?_;refine .en [true,false,false,false,false,false,false] [2257,209,81,65,64,17,1,0] [_] ?_;refine .p 1 ?_;refine c94z ?_;refine z5.nil rfl ?_;refine c3z ?_;exact ⟨_,_,rfl,K7 t141 (Nat.le_refl _) t110,t153⟩
  try simp only[e1]
  have qe1:=fact e1;refine .m [(4,14)] ?_;refine .F ?_;refine .exit ?_;have hkw:i=kW l n:=kW_at hi hI (by intro _;omega);have hdl:(l.drop i).length=l.length-i:=List.length_drop;have htl:(l.take i).length=i:=by rw[List.length_take];omega
  have hcl:(l.take i++[n]).length=i+1:=by rw[List.length_append,htl];rfl
  change c8 ..;refine .c6 [0,1,5] ?_;refine .sg v9 (mkH 13 [0,0,0,6,15,0,32,127,0,0,768,2047,4095] [0,4,6,7,11] [(0,0),(6,1)] [0,1,17,64,65,81,209,2257] [0,1,2,3,4]) 2 ?_;refine .em [true] [1,0] [_] ?_;refine .p 3 ?_;refine .em [true,false] [17,1,0] [_] ?_;refine .p 1 ?_;refine .en [true,true,true] [81,65,64,17,1,0] [_,_,_] ?_;refine .en [true,false,false,false,false,false] [209,81,65,64,17,1,0] [_] ?_;refine .p 3 ?_;refine .en [true,false,false,false,false,false,false] [2257,209,81,65,64,17,1,0] [_] ?_;refine .p 1 ?_;refine c94z ?_;refine z5.nil rfl ?_;refine c3z ?_;exact ⟨_,_,rfl,K7 t141 (Nat.le_refl _) t110,t153⟩
theorem JH (l:List Int)(n:Int)(hl:l.length<100000):CB 69 [.vec l.length (g5 l),.int .i64 n] h (.vec (jY l n).length (g5 (jY l n))):=by
  by_cases hm:n∈l
  · exact c_withY l n hl hm
  · exact c_withN l n hl hm
theorem JI (it:z8)(p:Pl)(hp:p.param=true→0≤p.index∧p.index.toNat<it.j9.length):CB 135 [.agg [.int .i64 it.proc,.vec it.j9.length (g5 it.j9)],.agg [.bool p.param,.int .i64 p.index,.vec p.at'.length (n4 p.at')]] h (.int .i64 (xP it p)):=by
  refine .bz Tryz.f135 15 ?_;refine c69z ?_;refine u2z ?_ ?_
  ·intro e1 qe1;have hpp:=hp (by assumption);refine .z ?_;exact .ret (.ex (hq:=by (unfold xP;simp_all)))
  intro e1 qe1;refine .sk ?_;refine .z ?_;exact .ret (.ex (hq:=by (unfold xP;simp_all)))
theorem n7 (hu:WU u)(w:WIt u it):(c7 u it).length≤1664:=by have:=(vC hu (l:=[it]) (by simp) (by simpa using w)).2;simpa using this
variable {pc:Nat}
theorem JJ (hu:WU u)(w:WIt u it)(hpc:pc<(c7 u it).length)(hc:iU ((c7 u it).getD pc g6)):∀p∈((c7 u it).getD pc g6).places,p.param=true→0≤p.index∧p.index.toNat<it.j9.length:=by
  obtain ⟨_,_,_,hh⟩:=(eL hu w).2.2 pc hpc;intro p hp hpar;obtain ⟨h0,⟨_,h2⟩ | ⟨h1,_⟩⟩:=(hh hc).2.2 p hp
  · refine ⟨h0,?_⟩
    rw[w.len];simp only at h2;omega
  · rw[hpar]at h1;cases h1
theorem DP (hu:WU u)(w:WIt u it)(hpc:pc<(c7 u it).length)(hc:iU ((c7 u it).getD pc g6)):((c7 u it).getD pc g6).places.length≤2:=by have h1:=xQ hu w hpc hc;have h2:=h1.len;have h3:=hu.j9 (dV u it pc).proc.toNat (by have:=h1.lo;have:=h1.hi;omega);simp only[dV,List.length_map]at h2 h3;omega
theorem JK (hu:WU u)(w:WIt u it)(hpc:pc<(c7 u it).length)(hc:¬iU ((c7 u it).getD pc g6)):CB 91 [.agg [.vec u.globals.length (g5 u.globals),.vec u.mutexes.length (c9 u.mutexes),.vec u.procs.length (g7 u.procs),.int .i64 u.main],.agg [.int .i64 it.proc,.vec it.j9.length (g5 it.j9)],.int .i64 ((pc:Nat):Int)] h (.tup [.agg [.int .i64 0,.vec 0 []],.bool false]):=by
  refine .bz Tryz.f91 75 ?_;have w1:=w.lo;have w2:=w.hi;have hsz:(c7 u it).length≤1664:=n7 hu w;refine c182z ?_;refine .c6 [2,4,6,8] ?_;refine c14z ?_;refine .spl 20 rfl rfl (fun e1=>by exfalso;have q:=fact e1;omega) (fun e1=>?_);try simp only[e1]
  have qe1:=fact e1;refine .k 6 [(2,20)] ?_;refine .spl 26 rfl rfl (fun e2=>by exfalso;have q:=fact e2;omega) (fun e2=>?_);try simp only[e2]
  have qe2:=fact e2;refine .k 7 [(8,26)] ?_;refine .spl 33 rfl rfl (fun e3=>?_) (fun e3=>by exfalso;have q:=fact e3;exact hc (.inl (by omega)));try simp only[e3]
  have qe3:=fact e3;refine .m [(8,26),(15,33)] ?_;refine .spl 41 rfl rfl (fun e4=>?_) (fun e4=>by exfalso;have q:=fact e4;exact hc (.inr (by omega)));try simp only[e4]
  have qe4:=fact e4;refine .T ?_;refine .c6 [6] ?_;refine .z ?_;exact .ret (.ex (hq:=by rfl))
theorem JL (hu:WU u)(w:WIt u it)(hpc:pc<(c7 u it).length)(hc:iU ((c7 u it).getD pc g6)):CB 91 [.agg [.vec u.globals.length (g5 u.globals),.vec u.mutexes.length (c9 u.mutexes),.vec u.procs.length (g7 u.procs),.int .i64 u.main],.agg [.int .i64 it.proc,.vec it.j9.length (g5 it.j9)],.int .i64 ((pc:Nat):Int)] h (.tup [.agg [.int .i64 (dV u it pc).proc,.vec (dV u it pc).j9.length (g5 (dV u it pc).j9)],.bool true]):=by
  refine .bz Tryz.f91 75 ?_;have w1:=w.lo;have w2:=w.hi;have hsz:(c7 u it).length≤1664:=n7 hu w;have hpl:=JJ hu w hpc hc;have hpn:=DP hu w hpc hc;refine c182z ?_;refine .c6 [2,4,6,8] ?_;refine c14z ?_;refine .spl 20 rfl rfl (fun e1=>by exfalso;have q:=fact e1;omega) (fun e1=>?_);try simp only[e1]
  have qe1:=fact e1;refine .k 6 [(2,20)] ?_;refine .spl 26 rfl rfl (fun e2=>by exfalso;have q:=fact e2;omega) (fun e2=>?_);try simp only[e2]
  have qe2:=fact e2;refine .k 7 [(8,26)] ?_;refine .spl 33 rfl rfl (fun e3=>?_) (fun e3=>?_)
  ·try simp only[e3]
   have qe3:=fact e3;refine .m [(8,26),(15,33)] ?_;refine .spl 41 rfl rfl (fun e4=>by exfalso;have q:=fact e4;rcases hc with hc | hc<;>omega) (fun e4=>?_);try simp only[e4]
   have qe4:=fact e4;refine c17z ?_;refine .c6 [2,4,6,8] ?_;refine c18z ?_;refine c8.mI (β:=h.length+3) (k:=1) t30 rfl ?_;simp only[List.append_assoc,List.cons_append,List.nil_append,p8,l7,List.set_cons_succ,List.set_cons_zero,List.length_append,List.length_cons,List.length_nil,Nat.reduceAdd,Nat.zero_add];refine .u6 (fun m st=>∃(q:Nat),(m=((c7 u it).getD pc g6).places.length-q∧q≤((c7 u it).getD pc g6).places.length)∧st=⟨mkS 75 [(2,AV.int .i64 ((pc:Nat):Int)),(4,AV.ptr (h.length+1) 0 0),(6,AV.ptr (h.length+2) 0 0),(8,AV.vec (c7 u it).length (o6 (c7 u it))),(9,AV.ptr (h.length+3) 0 0),(10,AV.int .i64 ((q:Nat):Int))],h++[⟨0,false,30,4,[.vec u.globals.length (g5 u.globals),.vec u.mutexes.length (c9 u.mutexes),.vec u.procs.length (g7 u.procs),.int .i64 u.main],0⟩,⟨0,false,46,2,[.int .i64 it.proc,.vec it.j9.length (g5 it.j9)],0⟩,⟨0,false,46,2,[.int .i64 0,.nils],0⟩,⟨0,false,46,2,[.int .i64 ((c7 u it).getD pc g6).target,.own (h.length+4) q 0 q],0⟩,o9 3 1 q (g5 ((((c7 u it).getD pc g6).places.take q).map (xP it)))]⟩) (.v ⟨0,⟨rfl,by omega⟩,rfl⟩) ?_;rintro m sl h' ⟨q,⟨hm,hq⟩,hst⟩;obtain ⟨rfl,rfl⟩:=St.mk.inj hst;clear hst;have htl:((((c7 u it).getD pc g6).places.take q).map (xP it)).length=q:=by rw[List.length_map,List.length_take];omega
   refine c0z ?_;refine u2z ?_ ?_
   ·intro e5 qe5;refine c2z ?_;refine .c6 [2,4,6,8,9,10] ?_;refine .og v9 (mkH 16 [0,1,0,0,0,24,56,120,0,504,1016,2044,4092,8191,16383,32767] [12,13,15] [] [0,4096,12288,45056] [0,1]) 0 ?_;refine c33z ?_;refine .rn [true] ?_;refine c167z ?_;refine c64z ?_;refine .cl rfl rfl (fun _=>JI it (((c7 u it).getD pc g6).places.getD q bU) (hpl _ (g8 (d:=bU) (i:=q) (by omega)))) ?_;refine .en [true] [4096,0] [_] ?_;refine .en [true,false] [12288,4096,0] [_] ?_;refine .p 1 ?_;refine .en [true,false,false] [45056,12288,4096,0] [_] ?_;refine c129z ?_;refine .c6 [2,4,6,8,9,10] ?_;refine .rz ?_;exact ⟨_,by omega,.v ⟨(q+1),⟨rfl,by omega⟩,rfl⟩ (he:=t128) (hk:=t112)⟩
   intro e5 qe5;refine .exit ?_;obtain rfl:q=((c7 u it).getD pc g6).places.length:=by omega
   rw[List.take_length]at htl ⊢;refine c8.nU (γ:=h.length+4) (β:=h.length+3) (k:=1) (len:=((c7 u it).getD pc g6).places.length) t30 (by rw[l6,htl,Nat.mul_one]) (by omega) (xB _) t30 (by omega) rfl ?_;refine c22z ?_;refine c230z ?_;exact .ret (.ex (hq:=by (simp only[dV,List.length_map])))
  try simp only[e3]
  have qe3:=fact e3;refine .m [(8,26),(15,33)] ?_;refine c17z ?_;refine .c6 [2,4,6,8] ?_;refine c18z ?_;refine c8.mI (β:=h.length+3) (k:=1) t30 rfl ?_;simp only[List.append_assoc,List.cons_append,List.nil_append,p8,l7,List.set_cons_succ,List.set_cons_zero,List.length_append,List.length_cons,List.length_nil,Nat.reduceAdd,Nat.zero_add];refine .u6 (fun m st=>∃(q:Nat),(m=((c7 u it).getD pc g6).places.length-q∧q≤((c7 u it).getD pc g6).places.length)∧st=⟨mkS 75 [(2,AV.int .i64 ((pc:Nat):Int)),(4,AV.ptr (h.length+1) 0 0),(6,AV.ptr (h.length+2) 0 0),(8,AV.vec (c7 u it).length (o6 (c7 u it))),(9,AV.ptr (h.length+3) 0 0),(10,AV.int .i64 ((q:Nat):Int))],h++[⟨0,false,30,4,[.vec u.globals.length (g5 u.globals),.vec u.mutexes.length (c9 u.mutexes),.vec u.procs.length (g7 u.procs),.int .i64 u.main],0⟩,⟨0,false,46,2,[.int .i64 it.proc,.vec it.j9.length (g5 it.j9)],0⟩,⟨0,false,46,2,[.int .i64 0,.nils],0⟩,⟨0,false,46,2,[.int .i64 ((c7 u it).getD pc g6).target,.own (h.length+4) q 0 q],0⟩,o9 3 1 q (g5 ((((c7 u it).getD pc g6).places.take q).map (xP it)))]⟩) (.v ⟨0,⟨rfl,by omega⟩,rfl⟩) ?_;rintro m sl h' ⟨q,⟨hm,hq⟩,hst⟩;obtain ⟨rfl,rfl⟩:=St.mk.inj hst;clear hst;have htl:((((c7 u it).getD pc g6).places.take q).map (xP it)).length=q:=by rw[List.length_map,List.length_take];omega
  refine c0z ?_;refine u2z ?_ ?_
  ·intro e6 qe6;refine c2z ?_;refine .c6 [2,4,6,8,9,10] ?_;refine .og v9 (mkH 16 [0,1,0,0,0,24,56,120,0,504,1016,2044,4092,8191,16383,32767] [12,13,15] [] [0,4096,12288,45056] [0,1]) 0 ?_;refine c33z ?_;refine .rn [true] ?_;refine c167z ?_;refine c64z ?_;refine .cl rfl rfl (fun _=>JI it (((c7 u it).getD pc g6).places.getD q bU) (hpl _ (g8 (d:=bU) (i:=q) (by omega)))) ?_;refine .en [true] [4096,0] [_] ?_;refine .en [true,false] [12288,4096,0] [_] ?_;refine .p 1 ?_;refine .en [true,false,false] [45056,12288,4096,0] [_] ?_;refine c129z ?_;refine .c6 [2,4,6,8,9,10] ?_;refine .rz ?_;exact ⟨_,by omega,.v ⟨(q+1),⟨rfl,by omega⟩,rfl⟩ (he:=t128) (hk:=t112)⟩
  intro e6 qe6;refine .exit ?_;obtain rfl:q=((c7 u it).getD pc g6).places.length:=by omega
  rw[List.take_length]at htl ⊢;refine c8.nU (γ:=h.length+4) (β:=h.length+3) (k:=1) (len:=((c7 u it).getD pc g6).places.length) t30 (by rw[l6,htl,Nat.mul_one]) (by omega) (xB _) t30 (by omega) rfl ?_;refine c22z ?_;refine c230z ?_;exact .ret (.ex (hq:=by (simp only[dV,List.length_map])))
theorem c_findI (l:List z8)(x:z8){n2 n3:Nat}{z2 z3:List AV}(hl:l.length<1000000)(hk:∀y∈l,y.j9.length<1000000):CB 92 [.agg [.vec l.length (j0 l),.vec n2 z2,.vec n3 z3],.agg [.int .i64 x.proc,.vec x.j9.length (g5 x.j9)]] h (.int .i64 (fI l x)):=by
  refine .bz Tryz.f92 34 ?_;refine c18z ?_;refine .bX (fun m st=>∃(i:Nat),(m=l.length-i∧((∀d,d<i→l.getD d l5≠x)∧i≤l.length))∧st=⟨mkS 34 [(2,AV.ptr h.length 0 0),(3,AV.ptr (h.length+1) 0 0),(5,AV.int .i64 ((i:Nat):Int))],h++[⟨0,false,34,3,[.vec l.length (j0 l),.vec n2 z2,.vec n3 z3],0⟩,⟨0,false,46,2,[.int .i64 x.proc,.vec x.j9.length (g5 x.j9)],0⟩]⟩) _ (.v ⟨0,⟨rfl,⟨t105,by omega⟩⟩,rfl⟩) ?_;rintro m sl h' ⟨i,⟨hm,⟨hI,hi⟩⟩,hst⟩;obtain ⟨rfl,rfl⟩:=St.mk.inj hst;refine c0z ?_;refine u2z ?_ ?_
  ·intro e1 qe1;refine c2z ?_;refine .ss v9 (mkP 20 [0,1,0,7,15,31,0,64,255,511,1023,2047,1023,8191,16383,32767,1023,66559,262143,524287] []) ?_;refine .k 8 [] ?_;refine .k 2 [] ?_;refine .spl 22 rfl rfl (fun e2=>?_) (fun e2=>?_)
   ·try simp only[e2]
    have qe2:=fact e2;refine .k 8 [(9,22)] ?_;refine .ca rfl rfl (WE _ _ (hk _ (g8 (by omega)))) ?_;refine .n [] ?_;refine u2z ?_ ?_
    ·intro e3 qe3;refine .c6 [5] ?_;refine .z ?_;exact .ret (.ex (hq:=t111))
    intro e3 qe3;refine c4z ?_;refine .c6 [2,3,5] ?_;refine .rz ?_;exact ⟨_,by omega,.v ⟨(i+1),⟨rfl,⟨it_ne hI t203,by omega⟩⟩,rfl⟩⟩
   try simp only[e2]
   have qe2:=fact e2;refine .k 8 [(9,22)] ?_;refine .n [(9,22)] ?_;refine c34z ?_;refine .c6 [2,3,5] ?_;refine .rz ?_;exact ⟨_,by omega,.v ⟨(i+1),⟨rfl,⟨it_ne hI t203,by omega⟩⟩,rfl⟩⟩
  intro e1 qe1;refine c6z ?_;refine c10z ?_;exact .ret (.ex (hq:=t111))
end Go.Proofs.YtonbocmibeikmaaGreat
end
section
namespace Go.Proofs.YtonbocmibeikmaaGreat
open Go.Ab Go.Un
theorem n5.cx {P:Program}{C:Cfg}{h:c5}{ops:Array Oper}{o:Oper}{rest:List Oper}{Q:St→Prop}{n d:Nat}{l:List (Nat×AV)}{c:Call}{f:FuncId}{args:List AV}{K:AV→c5→Prop}(ho:o.op=.call c)(ht:z4 C (CO C n l) c=some (f,args))(hb:o1 C f=true)
    (hc:CallA P C f args h K) (hk:∀y h',K y h'→n5 P C ops rest ⟨mkS n ((d,y)::l),h'⟩ Q) (hw:zN ops n l o=some true:=by rfl) (hd:o.dst=some d:=by rfl):n5 P C ops (o::rest) ⟨mkS n l,h⟩ Q:=
  n5.call (tD▸hw) ho (rD▸ht) hb (hc.mono fun y h' hq=>by rw[hd];show n5 P C ops rest ⟨(mkS n l).set d y,h'⟩ Q;rw[aW];exact hk y h' hq)
def qH (u:Un)(L:List z8)(it:z8)(cs:List Int)(n:Nat):Prop:=∀j,j<n→
  (iU ((c7 u it).getD j g6)→0≤cs.getD j 0∧cs.getD j 0<L.length∧L.getD (cs.getD j 0).toNat l5=dV u it j)∧(¬iU ((c7 u it).getD j g6)→cs.getD j 0 = -1)
structure LI (u:Un)(L:List z8):Prop where
  w:∀it∈L,WIt u it
  nd:L.Nodup
  z:0<L.length∧L.getD 0 l5=⟨0,[]⟩
structure RI (L:List z8)(R:List Int):Prop where
  p:1≤R.length
  r:∀x∈R,0≤x∧x<L.length
  s:R.Pairwise (·<·)
def PI (u:Un)(L:List z8)(CS:List (List Int))(i:Nat):Prop:=∀j,j<i→(CS.getD j []).length=(c7 u (L.getD j l5)).length∧qH u L (L.getD j l5) (CS.getD j []) (c7 u (L.getD j l5)).length
def kJ (u:Un)(L:List z8)(i:Nat):Nat:=((L.take i).map fun it=>(c7 u it).length).sum
variable {i:Nat}
theorem nH {α:Type}{l m:List α}{d:α}(h:i<l.length):(l++m).getD i d=l.getD i d:=by simp[List.getD,List.getElem?_append_left h]
variable {u:Un}{L M:List z8}{it:z8}{n:Nat}
theorem qH.app {cs:List Int}(h:qH u L it cs n):qH u (L++M) it cs n:=fun j hj=>by obtain ⟨h1,h2⟩:=h j hj;refine ⟨fun hc=>?_,h2⟩;obtain ⟨q1,q2,q3⟩:=h1 hc;exact ⟨q1,by rw[List.length_append];omega,by rw[nH (by omega),q3]⟩
theorem qH.set {cs:List Int}{x:Int}(h:qH u L it cs n)(hn:n<cs.length)(hx:(iU ((c7 u it).getD n g6)→0≤x∧x<L.length∧L.getD x.toNat l5=dV u it n)∧(¬iU ((c7 u it).getD n g6)→x = -1)):qH u L it (cs.set n x) (n+1):=fun j hj=>by
  by_cases hjn:j=n
  · subst hjn
    have:(cs.set j x).getD j 0=x:=by simp[List.getD,hn]
    rw[this];exact hx
  · have:(cs.set n x).getD j 0=cs.getD j 0:=by simp[List.getD,List.getElem?_set_ne (Ne.symm hjn)]
    rw[this];exact h j (by omega)
variable {x:z8}
theorem LI.snoc (h:LI u L)(hx:WIt u x)(hn:x∉L):LI u (L++[x]):=by
  refine ⟨fun it hit=>?_,?_,by simp,?_⟩
  · rcases List.mem_append.1 hit with hit | hit
    · exact h.w it hit
    · replace hit:=s9z hit
      subst hit;exact hx
  · rw[List.nodup_append]
    exact ⟨h.nd,by simp,fun a ha b hb=>by replace hb:=s9z hb;subst hb;exact fun e=>hn (e▸ha)⟩
  · rw[nH h.z.1];exact h.z.2
theorem LI.few (hu:WU u)(h:LI u L):L.length≤64:=(vC hu h.nd h.w).1
theorem LI.sites (hu:WU u)(h:LI u L)(i:Nat):kJ u L i≤1664:=by have h1:=(vC hu (l:=L.take i) (h.nd.sublist (List.take_sublist _ _)) (fun it hit=>h.w it (List.mem_of_mem_take hit))).2;exact h1
theorem LI.j9 (hu:WU u)(h:LI u L):∀y∈L,y.j9.length≤2:=fun y hy=>by have w:=h.w y hy;have h1:=w.len;have h3:=hu.j9 y.proc.toNat (by have:=w.lo;have:=w.hi;omega);omega
variable {R:List Int}
theorem RI.app (h:RI L R):RI (L++M) R:=⟨h.p,fun x hx=>by have:=h.r x hx;rw[List.length_append];omega,h.s⟩
variable {l:List Int}
theorem JM {n x:Int}:x∈jY l n↔x∈l∨x=n:=by
  unfold jY;split
  · rename_i h
    constructor
    · exact .inl
    · rintro (h1 | rfl)
      · exact h1
      · exact h
  · rw[List.mem_append,List.mem_cons]
    constructor
    · rintro (h | h | h)
      · exact .inl (List.mem_of_mem_take h)
      · exact .inr h
      · exact .inl (List.mem_of_mem_drop h)
    · rintro (h | h)
      · rw[←List.take_append_drop (kW l n) l,List.mem_append]at h
        rcases h with h | h
        · exact .inl h
        · exact .inr (.inr h)
      · exact .inr (.inl h)
theorem take_kW {n:Int}:l.take (kW l n)=l.takeWhile fun x=>decide (x<n):=by
  conv=>lhs;rw[←List.takeWhile_append_dropWhile (p:=fun x=>decide (x<n)) (l:=l)]
  rw[List.take_append_of_le_length (by simp[kW])];exact List.take_of_length_le (by simp[kW])
theorem drop_kW {n:Int}:l.drop (kW l n)=l.dropWhile fun x=>decide (x<n):=by
  conv=>lhs;rw[←List.takeWhile_append_dropWhile (p:=fun x=>decide (x<n)) (l:=l)]
  rw[List.drop_append_of_le_length (by simp[kW])];rw[List.drop_of_length_le (by simp[kW]),List.nil_append]
theorem sK:∀{l:List Int} {n:Int},l.Pairwise (·<·)→n∉l→(l.takeWhile (fun x=>decide (x<n))++n::l.dropWhile (fun x=>decide (x<n))).Pairwise (·<·)
  | [],n,_,_=>by simp
  | x::l,n,h,hn=>by
    rw[List.pairwise_cons]at h;by_cases hx:x<n
    · have ih:=sK (l:=l) (n:=n) h.2 (fun hm=>hn (List.mem_cons_of_mem _ hm))
      rw[List.takeWhile_cons_of_pos t200,List.dropWhile_cons_of_pos t200,List.cons_append,List.pairwise_cons];refine ⟨fun y hy=>?_,ih⟩;rcases List.mem_append.1 hy with hy | hy
      · exact h.1 y ((List.takeWhile_sublist _).subset hy)
      · rcases List.mem_cons.1 hy with rfl | hy
        · exact hx
        · exact h.1 y ((List.dropWhile_sublist _).subset hy)
    · have hne:n≠x:=fun e=>hn (by rw[e];simp)
      rw[List.takeWhile_cons_of_neg t200,List.dropWhile_cons_of_neg t200,List.nil_append,List.pairwise_cons];refine ⟨fun y hy=>?_,List.pairwise_cons.2 h⟩;rcases List.mem_cons.1 hy with rfl | hy
      · omega
      · have:=h.1 y hy;omega
theorem RI.with (h:RI L R){n:Int}(hn:0≤n∧n<L.length):RI L (jY R n):=by
  refine ⟨?_,fun x hx=>?_,?_⟩
  · unfold jY
    split
    · exact h.p
    · simp only[List.length_append,List.length_cons];omega
  · rcases JM.1 hx with hx | rfl
    · exact h.r x hx
    · exact hn
  · unfold jY
    split
    · exact h.s
    · rename_i hm
      rw[take_kW,drop_kW];exact sK h.s hm
theorem r9:∀{R:List Int} {a b:Int},R.Pairwise (·<·)→(∀x∈R,a≤x∧x<b)→R.length≤(b-a).toNat
  | [],a,b,_,_=>by simp
  | x::R,a,b,h,hr=>by rw[List.pairwise_cons]at h;have h0:=hr x (by simp);have ih:=r9 (R:=R) (a:=x+1) (b:=b) h.2 (fun y hy=>⟨by have:=h.1 y hy;omega,(hr y (by simp[hy])).2⟩);simp only[List.length_cons];omega
theorem RI.len (hu:WU u)(hl:LI u L)(h:RI L R):R.length≤64:=by have h1:=r9 h.s (a:=0) (b:=(L.length:Int)) h.r;have h2:=hl.few hu;omega
theorem DQ (h:i<L.length):kJ u L (i+1)=kJ u L i+(c7 u (L.getD i l5)).length:=by unfold kJ;rw[taken (d:=l5) h];simp
variable {CS:List (List Int)}
theorem PI.step {v:List Int}(h:PI u L CS i)(hc:CS.length=i)(hi:i<L.length)(hv:v.length=(c7 u (L.getD i l5)).length)(hok:qH u (L++M) (L.getD i l5) v (c7 u (L.getD i l5)).length):PI u (L++M) (CS++[v]) (i+1):=fun j hj=>by
  by_cases hji:j=i
  · subst hji
    have e1:(CS++[v]).getD j []=v:=by subst hc;simp[List.getD]
    rw[e1,nH hi];exact ⟨hv,hok⟩
  · have e1:(CS++[v]).getD j []=CS.getD j []:=nH (by omega)
    obtain ⟨h1,h2⟩:=h j (by omega);rw[e1,nH (by omega)];exact ⟨h1,h2.app⟩
theorem S2 {l:List (List Int)}{x:List Int}:j8 (l++[x])=j8 l++[.vec x.length (g5 x)]:=by simp[j8]
theorem S3 {l:List z8}:j0 (l++[x])=j0 l++[.int .i64 x.proc,.vec x.j9.length (g5 x.j9)]:=by simp[j0,CU]
theorem SK (l:List (List Int)):aC (j8 l):=aC.map fun _=>.vec
theorem SL (l:List z8):aC (j0 l):=aC.flat fun _=>aC.cons .int (aC.cons .vec .nil)
variable {h:c5}{g:Nat}
theorem app_its {b0 b1 b3 b4 b5 b6 b7:Blk}{l:c5}(hz:L.length=n)(hn:n<1000):j6 cfg 46 (h++(b0::b1::⟨g,false,46,2,j0 L,0⟩::b3::b4::b5::b6::b7::⟨0,false,46,2,[.int .i64 x.proc,.vec x.j9.length (g5 x.j9)],0⟩::l)) (.own (h.length+2) g 0 n) (.own (h.length+8) 0 0 1)=some (.own (h.length+2) (g+1) 0 (n+1),h++(b0::b1::⟨g+1,false,46,2,j0 (L++[x]),0⟩::b3::b4::b5::b6::b7::⟨0,false,46,2,[.int .i64 x.proc,.vec x.j9.length (g5 x.j9)],0⟩::l)):=by
  subst hz;have e1:cfg.sz 46=2:=rfl;have e2:(cfg.ti 46).bytes=32:=rfl;have hm:L.length+1≤maxLen:=by
    have:(1001:Nat)≤maxLen:=by decide
    omega
  have hb:(L.length+1)*32≤140737488355328:=by omega
  have h1:(j0 L).length=L.length*2:=by rw[u0];omega
  have ht:List.take (L.length*2) (j0 L)=j0 L:=List.take_of_length_le (by omega);have hnl:¬(L.length+1)*2≤L.length*2:=by omega
  simp[j6,rd,lenOf,e1,e2,h1,hm,hb,ht,hnl,p8,l7,S3]
theorem app_cs {b0 b1 b2 b3 b4 b6:Blk}{l:c5}{x:List Int}{m:Nat}(hn:CS.length=n)(hx:x.length=m)(hl:n<100000):j6 cfg 22 (h++(b0::b1::b2::b3::b4::o9 22 1 g (j8 CS)::b6::⟨0,false,22,1,[.vec m (g5 x)],0⟩::l)) (.own (h.length+5) g 0 n) (.own (h.length+7) 0 0 1)=some (.own (h.length+5) (g+1) 0 (n+1),h++(b0::b1::b2::b3::b4::o9 22 1 (g+1) (j8 (CS++[x]))::b6::⟨0,false,22,1,[.vec m (g5 x)],0⟩::l)):=by subst hn hx;rw[u9 (C:=cfg) (K:=1) (m:=1) (new:=[.vec x.length (g5 x)]) (zs:=j8 CS) t30 rfl (by omega) (by simp[j8]) rfl (by omega) t113 rfl (by decide) (by omega),←S2,l7];rfl
theorem JN:∀{v:List Int} {i:Nat} {x:Int},i<v.length→List.take i (g5 v)++AV.int .i64 x::List.drop (i+1) (g5 v)=g5 (v.set i x)
  | y::v,0,x,_=>rfl
  | y::v,i+1,x,h=>by have ih:=JN (v:=v) (i:=i) (x:=x) (by simpa using h);simp only[g5,List.map_cons,List.set_cons_succ,List.take_succ_cons,List.drop_succ_cons,List.cons_append]at ih ⊢;rw[ih]
theorem zeros_I:(List.replicate n [AV.int .i64 0]).flatten=g5 (List.replicate n 0):=by
  induction n with
  | zero=>rfl
  | succ n ih=>rw[List.replicate_succ,List.flatten_cons,ih];simp[g5,List.replicate_succ]
theorem frz_its {d:Nat}{H:c5}{l:List z8}:p6 (lP n H (d+1)) (j0 l)=some (j0 l):=(SL l).frz _ _ _
theorem S4 {H:c5}{β γ n1 n2 n3:Nat}{z3:List AV}(hb:H[β]?=some ⟨g,false,46,2,j0 L,0⟩)(hc:H[γ]?=some (o9 22 1 i (j8 CS)))(h1:L.length=n1)(h2:CS.length=n2)(hl:L.length<1000000)(hk:∀y∈L,y.j9.length<1000000):CB 92 [.agg [.own β g 0 n1,.own γ i 0 n2,.vec n3 z3],.agg [.int .i64 x.proc,.vec x.j9.length (g5 x.j9)]] H (.int .i64 (fI L x)):=by
  subst h1 h2;have e1:lP 0 H 6 (.own β g 0 L.length)=some (.vec L.length (j0 L)):=by rw[gH,hb];simp only[Nat.zero_le,and_self,if_true,Bool.false_eq_true,if_false,Nat.zero_add];rw[if_pos (by rw[u0];omega),List.drop_zero,List.take_of_length_le (by rw[u0];omega),frz_its]
  have e2:lP 0 H 6 (.own γ i 0 CS.length)=some (.vec CS.length (j8 CS)):=iR hc (Nat.zero_le _) (by simp[j8]) (by omega) ((SK CS).frz _ _ _);have e:OM 0 H (.agg [.own β g 0 L.length,.own γ i 0 CS.length,.vec n3 z3])=some (.agg [.vec L.length (j0 L),.vec CS.length (j8 CS),.vec n3 z3]):=by simp only[OM,p6,e1,e2,mY,Option.map_some]
  have ha:ON 0 H [.agg [.vec L.length (j0 L),.vec CS.length (j8 CS),.vec n3 z3],.agg [.int .i64 x.proc,.vec x.j9.length (g5 x.j9)]] [.agg [.own β g 0 L.length,.own γ i 0 CS.length,.vec n3 z3],.agg [.int .i64 x.proc,.vec x.j9.length (g5 x.j9)]]:=And.intro (.inr e) (And.intro (.inr rfl) trivial);exact CallA.borrow ha ((c_findI L x hl hk).mono fun _ _ h=>h.1)
theorem bB {l:List (List Int)}:(j8 l).length=l.length:=by simp[j8]
variable {pc:Nat}
theorem DR (hu:WU u)(w:WIt u it)(hpc:pc<(c7 u it).length)(hc:iU ((c7 u it).getD pc g6)){y:z8}(hy:dV u it pc=y):CB 91 [.agg [.vec u.globals.length (g5 u.globals),.vec u.mutexes.length (c9 u.mutexes),.vec u.procs.length (g7 u.procs),.int .i64 u.main],.agg [.int .i64 it.proc,.vec it.j9.length (g5 it.j9)],.int .i64 ((pc:Nat):Int)] h (.tup [.agg [.int .i64 y.proc,.vec y.j9.length (g5 y.j9)],.bool true]):=by subst hy;exact JL hu w hpc hc
theorem DS (hu:WU u)(w:WIt u (L.getD i l5))(hi:L.getD i l5=it)(hpc:pc<(c7 u it).length)(hc:iU ((c7 u it).getD pc g6)){y:z8}(hy:dV u it pc=y):CB 91 [.agg [.vec u.globals.length (g5 u.globals),.vec u.mutexes.length (c9 u.mutexes),.vec u.procs.length (g7 u.procs),.int .i64 u.main],.agg [.int .i64 (L.getD i l5).proc,.vec (L.getD i l5).j9.length (g5 (L.getD i l5).j9)],.int .i64 ((pc:Nat):Int)] h (.tup [.agg [.int .i64 y.proc,.vec y.j9.length (g5 y.j9)],.bool true]):=by subst hi;exact DR hu w hpc hc hy
theorem DT (hu:WU u)(w:WIt u (L.getD i l5))(hi:L.getD i l5=it)(hpc:pc<(c7 u it).length)(hc:¬iU ((c7 u it).getD pc g6)):CB 91 [.agg [.vec u.globals.length (g5 u.globals),.vec u.mutexes.length (c9 u.mutexes),.vec u.procs.length (g7 u.procs),.int .i64 u.main],.agg [.int .i64 (L.getD i l5).proc,.vec (L.getD i l5).j9.length (g5 (L.getD i l5).j9)],.int .i64 ((pc:Nat):Int)] h (.tup [.agg [.int .i64 0,.vec 0 []],.bool false]):=by subst hi;exact JK hu w hpc hc
theorem mx2000:(2000:Nat)≤maxLen:=by decide
theorem B9 {v:List Int}{i:Nat}{x:Int}(h:i<v.length):(v.set i x).getD i 0=x:=by simp[List.getD,h]
theorem SM {v:List Int}{x:Int}(h:i<v.length):List.take 1 (List.drop i (g5 (v.set i x)))=[.int .i64 x]:=by rw[iW (by rw[List.length_set];exact h),B9 h]
theorem JO (h:i≤L.length):kJ u (L++M) i=kJ u L i:=by unfold kJ;rw[List.take_append_of_le_length h]
theorem wit0 (hu:WU u):WIt u ⟨0,[]⟩:=by have:=hu.pl;refine ⟨Int.le_refl _,by show (0:Int)<u.procs.length;omega,?_,fun x hx=>by simp at hx⟩;show 0=(u.procs.getD 0 pU).j9.toNat;rw[hu.zero];rfl
theorem wc_of (hu:WU u)(hL:LI u L)(hR:RI L R)(hc:CS.length=L.length)(hP:PI u L CS L.length):WC u ⟨L,CS,R⟩:=
  ⟨⟨hL.z.1,hL.few hu⟩,hL.z.2,hL.w,hL.nd,hc,fun i hi=>(hP i hi).1,fun i hi pc hpc=>(hP i hi).2 pc hpc,hR.p,hR.r,hR.s⟩
attribute [local go_sem] rd s5 n8 bD cM r8 aS fT dL n6 bA aP l6 bF Int.natCast_nonneg Int.natCast_inj List.length_map wrap64 gA jL jM Y7 J0 Q0 Y8 zY max2 eZ cR bH Nat.reduceMul nA kH iT vP iW nF AM nG bK eH u0 w8 app_its app_cs JN zeros_I bB
section
attribute [local go_sem] SM List.length_set
theorem c_close (hu:WU u):CallA Tryz.prog cfg 55 [.agg [.vec u.globals.length (g5 u.globals),.vec u.mutexes.length (c9 u.mutexes),.vec u.procs.length (g7 u.procs),.int .i64 u.main]] h (fun y' h'=>(∃c,WC u c∧y'=.tup [.agg (YN c),.int .i64 0])∧h'=h):=by
  refine .bz Tryz.f55 109 ?_;refine c210z ?_;refine .c6 [1,2,4] ?_;refine c8.kF (β:=h.length+2) [.int .i64 0,.vec 0 []] t30 ?_ ?_;exact ⟨.inl (by rw[hu.main]),.inr ⟨rfl,rfl⟩,trivial⟩;simp only[List.append_assoc,List.cons_append,List.nil_append,p8,l7,List.set_cons_succ,List.set_cons_zero,List.length_append,List.length_cons,List.length_nil,Nat.reduceAdd,Nat.zero_add];refine c8.mI (β:=h.length+4) (k:=1) t30 rfl ?_;simp only[List.append_assoc,List.cons_append,List.nil_append,p8,l7,List.set_cons_succ,List.set_cons_zero,List.length_append,List.length_cons,List.length_nil,Nat.reduceAdd,Nat.zero_add];refine c8.G9 (γ:=h.length+3) (β:=h.length+4) (k:=2) (off:=0) (len:=1) (cs:=[.int .i64 0]) t30 rfl (by simp) rfl t30 (by omega) rfl ?_;simp only[List.append_assoc,List.cons_append,List.nil_append,p8,l7,List.set_cons_succ,List.set_cons_zero,List.length_append,List.length_cons,List.length_nil,Nat.reduceAdd,Nat.zero_add];generalize dJ _ _=Rb;refine c18z ?_;refine .u6 (fun m st=>∃(i:Nat) (L:List z8) (g:Nat) (R:List Int) (CS:List (List Int)),(m=65-i∧(LI u L∧RI L R∧i≤L.length∧CS.length=i∧PI u L CS i))∧st=⟨mkS 109 [(1,AV.ptr h.length 0 0),(2,AV.ptr (h.length+1) 0 0),(4,AV.ptr (h.length+4) 0 0),(5,AV.int .i64 ((kJ u L i:Nat):Int)),(6,AV.int .i64 ((i:Nat):Int))],h++[⟨0,false,30,4,[.vec u.globals.length (g5 u.globals),.vec u.mutexes.length (c9 u.mutexes),.vec u.procs.length (g7 u.procs),.int .i64 u.main],0⟩,⟨0,false,34,3,[.nils,.nils,.nils],0⟩,⟨g,false,46,2,j0 L,0⟩,Rb,⟨0,false,34,3,[.own (h.length+2) g 0 L.length,.own (h.length+5) i 0 i,.vec R.length (g5 R)],0⟩,o9 22 1 i (j8 CS)]⟩) (.v ⟨0,([⟨0,[]⟩]:List z8),0,([0]:List Int),([]:List (List Int)),⟨rfl,⟨⟨fun it hit=>by replace hit:=s9z hit;subst hit;exact wit0 hu,by simp,by simp⟩,⟨by simp,by simp,by simp⟩,by omega,rfl,fun j hj=>by omega⟩⟩,rfl⟩ (hs:=t97)) ?_;rintro m sl h' ⟨i,L,g,R,CS,⟨hm,⟨hL,hR,hi,hCS,hP⟩⟩,hst⟩;obtain ⟨rfl,rfl⟩:=St.mk.inj hst;clear hst;have hfew:=hL.few hu;have hrl:=hR.len hu hL;refine c0z ?_;refine u2z ?_ ?_
  ·intro e1 qe1;refine c2z ?_;have hw:WIt u (L.getD i l5):=hL.w _ (g8 (by omega));have hw1:=hw.lo;have hw2:=hw.hi;have hcd:=eL hu hw;have hs0:=hL.sites hu i;have hs1:kJ u L (i+1)=kJ u L i+(c7 u (L.getD i l5)).length:=by rw[DQ (by omega)]
   have hs2:=hL.sites hu (i+1);refine .ss v9 (mkP 12 [0,1,0,4,0,28,60,124,255,511,1023,2047] []) ?_;refine c44z ?_;refine .c6 [1,2,4,5,6,7,34] ?_;refine c13z ?_;refine c14z ?_;refine .spl 42 rfl rfl (fun e2=>by exfalso;have q:=fact e2;omega) (fun e2=>?_);try simp only[e2]
   have qe2:=fact e2;refine .m [(2,42)] ?_;refine uFbz ?_;intro e3 qe3;refine .sk ?_;refine .c6 [1,2,4,5,6,7,34] ?_;have hcl1:=hcd.1;have hclm:(c7 u (L.getD i l5)).length≤2000:=by omega
   have hmx:((c7 u (L.getD i l5)).length:Int)≤(maxLen:Int):=Int.ofNat_le.2 (Nat.le_trans hclm mx2000);refine c18z ?_;refine .u6 (fun m st=>∃(pc:Nat) (L1:List z8) (g1:Nat) (R1:List Int) (v:List Int),(m=(c7 u (L.getD i l5)).length-pc∧(LI u L1∧RI L1 R1∧(∃M,L1=L++M)∧pc≤(c7 u (L.getD i l5)).length∧v.length=(c7 u (L.getD i l5)).length∧qH u L1 (L.getD i l5) v pc))∧st=⟨mkS 109 [(1,AV.ptr h.length 0 0),(2,AV.ptr (h.length+1) 0 0),(4,AV.ptr (h.length+4) 0 0),(5,AV.int .i64 ((kJ u L (i+1):Nat):Int)),(6,AV.int .i64 ((i:Nat):Int)),(7,AV.vec (c7 u (L.getD i l5)).length (o6 (c7 u (L.getD i l5)))),(8,AV.own (h.length+6) 0 0 (c7 u (L.getD i l5)).length),(9,AV.int .i64 ((pc:Nat):Int))],h++[⟨0,false,30,4,[.vec u.globals.length (g5 u.globals),.vec u.mutexes.length (c9 u.mutexes),.vec u.procs.length (g7 u.procs),.int .i64 u.main],0⟩,⟨0,false,34,3,[.nils,.nils,.nils],0⟩,⟨g1,false,46,2,j0 L1,0⟩,Rb,⟨0,false,34,3,[.own (h.length+2) g1 0 L1.length,.own (h.length+5) i 0 i,.vec R1.length (g5 R1)],0⟩,o9 22 1 i (j8 CS),⟨0,false,3,1,g5 v,0⟩]⟩) (.v ⟨0,L,g,R,(List.replicate (c7 u (L.getD i l5)).length 0),⟨rfl,⟨hL,hR,⟨[],by simp⟩,by omega,by simp,fun j hj=>by omega⟩⟩,rfl⟩) ?_;rintro m sl h' ⟨pc,L1,g1,R1,v,⟨hm,⟨hL1,hR1,⟨M,hM⟩,hpc,hv,hok⟩⟩,hst⟩;obtain ⟨rfl,rfl⟩:=St.mk.inj hst;clear hst;have hfew1:=hL1.few hu;have hrl1:=hR1.len hu hL1;have hit1:L1.getD i l5=L.getD i l5:=by rw[hM,nH (by omega)]
   have hw1:WIt u (L1.getD i l5):=by rw[hit1];exact hw
   have hil1:i<L1.length:=by rw[hM,List.length_append];omega
   refine c0z ?_;refine u2z ?_ ?_
   ·intro e4 qe4;refine c2z ?_;by_cases hcl:iU ((c7 u (L.getD i l5)).getD pc g6)
    ·generalize hy:dV u (L.getD i l5) pc=y;have hwy:WIt u y:=by rw[←hy];exact xQ hu hw (by omega) hcl
     refine .sg v9 (mkH 14 [0,0,2,0,14,30,0,127,255,511,511,0,3071,8191] [11,12] [] [0,2048,6144] [0,1,2,3,4,5,6,7,8,9,10]) 0 ?_;refine c112z ?_;refine .p 2 ?_;refine c141z ?_;refine .cl rfl rfl (fun _=>DS hu hw1 hit1 (by omega) hcl hy) ?_;refine .p 3 ?_;refine .en [true] [2048,0] [_] ?_;refine .en [true,false] [6144,2048,0] [_] ?_;refine .p 1 ?_;refine c37z ?_;refine c175z ?_;refine .seq ?_;refine .c6 [1,2,4,5,6,7,8,9,10,11] ?_;refine c9z ?_;refine c197z ?_;refine c15z ?_;refine .ca rfl rfl (S4 t30 t30 rfl hCS (by omega) (fun y hy=>Nat.lt_of_le_of_lt (LI.j9 hu hL1 y hy) (by omega))) ?_;refine .n ?_;refine u2z ?_ ?_
     ·intro e5 qe5;refine c1z ?_;refine .c6 [1,2,4,5,6,7,8,9,10] ?_;have hny:y∉L1:=fun hm=>by have:=AL hm;omega
      have hL2:=hL1.snoc hwy hny;have hfew2:=hL2.few hu;have hmy:y∈L1++[y]:=by simp
      have hR2:=hR1.app (M:=[y]);have hok2:=hok.app (M:=[y]);obtain ⟨hf1,hf2,hf3⟩:=AL hmy;have hsg:=@B9 v pc (fI (L1++[y]) y) (by omega);refine c25z ?_;refine .ca rfl rfl (S4 (L:=(L1++[y])) t30 t30 (by rw[List.length_append];rfl) hCS (by rw[List.length_append,List.length_singleton];omega) (fun y hy=>Nat.lt_of_le_of_lt (LI.j9 hu hL2 y hy) (by omega))) ?_;refine .n ?_;refine .z ?_;refine u2z ?_ ?_
      ·intro e6 qe6;refine .c6 [1,2,4,5,6,7,8,9] ?_;refine .og v9 (mkH 9 [0,1,0,0,12,28,63,127,255] [8] [] [0,256] []) 0 ?_;refine .p 1 ?_;refine c233z ?_;refine .cl rfl rfl (fun _=>JH _ _ (by omega)) ?_;refine .p 1 ?_;refine .en [true] [256,0] [_] ?_;refine z5.nil rfl ?_;change c8 ..;refine c247z ?_;exact ⟨_,by omega,.v ⟨(pc+1),(L1++[y]),(g1+1),(jY R1 (fI (L1++[y]) y)),(v.set pc (fI (L1++[y]) y)),⟨rfl,⟨hL2,hR2.with ⟨hf1,hf2⟩,⟨M++[y],by rw[hM,List.append_assoc]⟩,by omega,t146,hok2.set (by omega) ⟨fun _=>⟨hf1,hf2,hf3.trans hy.symm⟩,fun hc=>absurd hcl hc⟩⟩⟩,rfl⟩ (he:=t38) (hk:=t33)⟩
      intro e6 qe6;refine c4z ?_;refine c247z ?_;exact ⟨_,by omega,.v ⟨(pc+1),(L1++[y]),(g1+1),R1,(v.set pc (fI (L1++[y]) y)),⟨rfl,⟨hL2,hR2,⟨M++[y],by rw[hM,List.append_assoc]⟩,by omega,t146,hok2.set (by omega) ⟨fun _=>⟨hf1,hf2,hf3.trans hy.symm⟩,fun hc=>absurd hcl hc⟩⟩⟩,rfl⟩ (he:=t38) (hk:=t33)⟩
     intro e5 qe5;refine .sk ?_;have hmy:y∈L1:=Classical.byContradiction fun hm=>by have:=fI_not hm;omega
     have hL2:=hL1;have hR2:=hR1;have hok2:=hok;obtain ⟨hf1,hf2,hf3⟩:=AL hmy;have hsg:=@B9 v pc (fI L1 y) (by omega);refine c25z ?_;refine .ca rfl rfl (S4 (L:=L1) t30 t30 rfl hCS (by omega) (fun y hy=>Nat.lt_of_le_of_lt (LI.j9 hu hL1 y hy) (by omega))) ?_;refine .n ?_;refine .c6 [1,2,4,5,6,7,8,9] ?_;refine .z ?_;refine u2z ?_ ?_
     ·intro e7 qe7;refine .og v9 (mkH 9 [0,1,0,0,12,28,63,127,255] [8] [] [0,256] []) 0 ?_;refine .p 1 ?_;refine c233z ?_;refine .cl rfl rfl (fun _=>JH _ _ (by omega)) ?_;refine .p 1 ?_;refine .en [true] [256,0] [_] ?_;refine z5.nil rfl ?_;change c8 ..;refine c247z ?_;exact ⟨_,by omega,.v ⟨(pc+1),L1,g1,(jY R1 (fI L1 y)),(v.set pc (fI L1 y)),⟨rfl,⟨hL2,hR2.with ⟨hf1,hf2⟩,⟨M,by rw[hM]⟩,by omega,t146,hok2.set (by omega) ⟨fun _=>⟨hf1,hf2,hf3.trans hy.symm⟩,fun hc=>absurd hcl hc⟩⟩⟩,rfl⟩ (he:=t38) (hk:=t33)⟩
     intro e7 qe7;refine c4z ?_;refine .rz ?_;exact ⟨_,by omega,.v ⟨(pc+1),L1,g1,R1,(v.set pc (fI L1 y)),⟨rfl,⟨hL2,hR2,⟨M,by rw[hM]⟩,by omega,t146,hok2.set (by omega) ⟨fun _=>⟨hf1,hf2,hf3.trans hy.symm⟩,fun hc=>absurd hcl hc⟩⟩⟩,rfl⟩ (he:=t38) (hk:=t33)⟩
    ·skip;refine .sg v9 (mkH 14 [0,0,2,0,14,30,0,127,255,511,511,0,3071,8191] [11,12] [] [0,2048,6144] [0,1,2,3,4,5,6,7,8,9,10]) 0 ?_;refine c112z ?_;refine .p 2 ?_;refine c141z ?_;refine .cl rfl rfl (fun _=>DT hu hw1 hit1 (by omega) hcl) ?_;refine .p 3 ?_;refine .en [true] [2048,0] [_] ?_;refine .en [true,false] [6144,2048,0] [_] ?_;refine .p 1 ?_;refine c37z ?_;refine c175z ?_;refine .seq ?_;refine .c6 [1,2,4,5,6,7,8,9,10,11] ?_;refine c106z ?_;refine .z ?_;refine c6z ?_;refine .rz ?_;exact ⟨_,by omega,.v ⟨(pc+1),L1,g1,R1,(v.set pc (-1)),⟨rfl,⟨hL1,hR1,⟨M,hM⟩,by omega,t146,hok.set (by omega) ⟨fun hc=>absurd hc hcl,fun _=>rfl⟩⟩⟩,rfl⟩ (he:=t38) (hk:=t33)⟩
   intro e4 qe4;refine .exit ?_;obtain rfl:pc=(c7 u (L.getD i l5)).length:=by omega
   refine c8.pS (t:=8) (γ:=h.length+6) (len:=(c7 u (L.getD i l5)).length) (by rw[p8];exact congrArg some (dA (by intro h0;have:=congrArg List.length h0;rw[l6]at this;replace this:=s7z this;omega)).symm) (by rw[l6,hv,Nat.mul_one]) (by omega) (xB _) (iS (by decide) rfl) ?_;rw[aW];simp only[l7,List.set_cons_succ,List.set_cons_zero];generalize dY _ _ _ _ _=Vb;change c8 ..;refine c1z ?_;refine .c6 [1,2,4,5,6] ?_;refine .rz ?_;have hP1:PI u L1 (CS++[v]) (i+1):=by rw[hM];exact hP.step hCS (by omega) hv (by rw[←hM];exact hok)
   have hs3:kJ u L1 (i+1)=kJ u L (i+1):=by rw[hM,JO (by omega)]
   exact ⟨_,by omega,.v ⟨(i+1),L1,g1,R1,(CS++[v]),⟨rfl,⟨hL1,hR1,by omega,by simp[hCS],hP1⟩⟩,rfl⟩ (he:=by (simp only[List.append_assoc,List.cons_append,List.nil_append,List.length_append,List.length_cons,List.length_nil,hCS];rfl)) (hk:=by exact (y0.refl _).app rfl ⟨.inl rfl,.inl rfl,.inr ((SL _).refs _),.inl rfl,.inr (gN.get ⟨.own _ _ _ _ (by simp),.own _ _ _ _ (by simp),.vec _ _,trivial⟩),.inr (by rw[o2];exact (SK _).refs _),trivial⟩) (hs:=t97)⟩
  intro e1 qe1;refine .exit ?_;obtain rfl:i=L.length:=by omega
  refine c8.G9 (γ:=h.length+2) (β:=h.length+4) (k:=0) (off:=0) (len:=L.length) (cs:=j0 L) t30 rfl (by simp only[u0];omega) (by rw[List.drop_zero,List.take_of_length_le (by simp only[u0];omega)];exact (SL _).UW) t30 (by omega) rfl ?_;simp only[List.append_assoc,List.cons_append,List.nil_append,p8,l7,List.set_cons_succ,List.set_cons_zero,List.length_append,List.length_cons,List.length_nil,Nat.reduceAdd,Nat.zero_add];refine c8.nU (γ:=h.length+5) (β:=h.length+4) (k:=1) (len:=L.length) t30 (by rw[bB,hCS,Nat.mul_one]) (by omega) (SK _) t30 (by omega) rfl ?_;refine c22z ?_;refine .c6 [2,4] ?_;refine .z ?_;exact .ret (.ex (hq:=by exact ⟨⟨L,CS,R⟩,wc_of hu hL hR hCS hP,by simp only[YN,hCS]⟩))
end
end Go.Proofs.YtonbocmibeikmaaGreat
end
section
namespace Go.Un
open Go.Ab
def shV (k:Nat)(n:Int)(d:Nat):Int:=if 0≤(d:Int)+n∧(d:Int)+n≤k then 2^((d:Int)+n).toNat else 0
def shI (k:Nat)(n:Int):List Int:=(List.range (k+1)).map (shV k n)
theorem JP {k:Nat}{n:Int}:(shI k n).length=k+1:=by simp[shI]
def chI (it:z8)(x:Ins)(m:Int):Int:=if x.op=4∧xP it x.pl=m then 1 else if x.op=5∧xP it x.pl=m then -1 else 0
variable {it:z8}{x:Ins}{m:Int}
theorem chI_1 (h:x.op=4)(h2:xP it x.pl=m):chI it x m=1:=by rw[chI,if_pos ⟨h,h2⟩]
theorem chI_2 (h:x.op=5)(h2:xP it x.pl=m):chI it x m = -1:=by rw[chI,if_neg (by omega),if_pos ⟨h,h2⟩]
theorem chI_0 (h:¬(x.op=4∧xP it x.pl=m))(h2:¬(x.op=5∧xP it x.pl=m)):chI it x m=0:=by rw[chI,if_neg h,if_neg h2]
theorem JQ:chI it x m=1∨chI it x m = -1∨chI it x m=0:=by
 unfold chI;split
 ·exact .inl rfl
 ·split
  ·exact .inr (.inl rfl)
  ·exact .inr (.inr rfl)
def lY (m:Mx):Nat:=if m.size=0∧m.re=false then 1 else 8
theorem C0 {m:Mx}:lY m≤8:=by unfold lY;split<;>omega
variable {pc:Nat}
theorem JR {u:Un}(hu:WU u)(w:WIt u it)(hpc:pc<(c7 u it).length)(ho:((c7 u it).getD pc g6).op=4∨((c7 u it).getD pc g6).op=5):((c7 u it).getD pc g6).pl.param=true→0≤((c7 u it).getD pc g6).pl.index∧((c7 u it).getD pc g6).pl.index.toNat<it.j9.length:=by
 obtain ⟨_,_,h3,_⟩:=(eL hu w).2.2 pc hpc;intro hp;obtain ⟨h0,⟨_,h2⟩ | ⟨h1,_⟩⟩:=h3 ho
 ·refine ⟨h0,?_⟩;rw[w.len];simp only at h2;omega
 ·rw[hp]at h1;cases h1
def w6 (x:Ins)(pc:Nat):List Int:=if x.op=8 then [] else if x.op=7 then [x.target] else if x.op=6 then (if x.target=(pc:Int)+1 then [x.target] else [min x.target ((pc:Int)+1),max x.target ((pc:Int)+1)]) else [(pc:Int)+1]
def lZ (x:Ins)(pc:Nat):AV:=.vec (w6 x pc).length (g5 (w6 x pc))
theorem JS (h:x.op=8):lZ x pc=.vec 0 []:=by simp[lZ,w6,h,g5]
theorem JT (h:x.op=7):lZ x pc=.vec 1 [.int .i64 x.target]:=by simp[lZ,w6,h,g5]
theorem AN (h:x.op=6)(h2:x.target=(pc:Int)+1):lZ x pc=.vec 1 [.int .i64 x.target]:=by simp[lZ,w6,h,h2,g5]
theorem JU (h:x.op=6)(h2:¬x.target=(pc:Int)+1):lZ x pc=.vec 2 [.int .i64 (min x.target ((pc:Int)+1)),.int .i64 (max x.target ((pc:Int)+1))]:=by simp[lZ,w6,h,h2,g5]
theorem JV (h8:¬x.op=8)(h7:¬x.op=7)(h6:¬x.op=6):lZ x pc=.vec 1 [.int .i64 ((pc:Int)+1)]:=by simp[lZ,w6,h8,h7,h6,g5]
theorem qI:(w6 x pc).length≤2:=by
 unfold w6;split
 ·simp
 ·split
  ·simp
  ·split
   ·split<;>simp
   ·simp
theorem next_in {u:Un}(hu:WU u)(w:WIt u it)(hpc:pc<(c7 u it).length):∀d,d<(w6 ((c7 u it).getD pc g6) pc).length→0≤(w6 ((c7 u it).getD pc g6) pc).getD d 0∧(w6 ((c7 u it).getD pc g6) pc).getD d 0<(c7 u it).length:=by
 obtain ⟨h1,h2,h3⟩:=eL hu w;obtain ⟨_,h4,_⟩:=h3 pc hpc;have h5:¬((c7 u it).getD pc g6).op=8→pc+1<(c7 u it).length:=fun h8=>by
  by_cases e:pc=(c7 u it).length-1
  ·rw[←e]at h2;exact absurd h2 h8
  ·omega
 intro d hd;have key:∀x∈w6 ((c7 u it).getD pc g6) pc,0≤x∧x<(c7 u it).length:=by
  intro x hx;unfold w6 at hx;split at hx
  ·simp at hx
  ·rename_i h8;have h6:=h5 h8;split at hx
   ·rename_i h7;have:=h4 (.inr h7);replace hx:=s9z hx;omega
   ·split at hx
    ·rename_i h7;have:=h4 (.inl h7);split at hx
     ·replace hx:=s9z hx;omega
     ·replace hx:=s8z hx;omega
    ·replace hx:=s9z hx;omega
 exact key _ (g8 hd)
theorem nextL_pos (h:¬x.op=8):0<(w6 x pc).length:=by
 unfold w6;rw[if_neg h];split
 ·simp
 ·split
  ·split<;>simp
  ·simp
end Go.Un
end
section
namespace Go.Proofs.YtonbocmibeikmaaGreat
open Go.Ab Go.Un
variable {i:Nat}
theorem fF {l:List Ins}(h:i<l.length):List.take 12 (List.drop (i*12) (o6 l))=[.int .i64 (l.getD i g6).op,.int .i64 (l.getD i g6).target,.bool (l.getD i g6).global,.int .i64 (l.getD i g6).e.op,.int .i64 (l.getD i g6).e.num,.str (l.getD i g6).e.name,.vec (l.getD i g6).e.args.length (n4 (l.getD i g6).e.args),.bool (l.getD i g6).pl.param,.int .i64 (l.getD i g6).pl.index,.vec (l.getD i g6).pl.at'.length (n4 (l.getD i g6).pl.at'),.vec (l.getD i g6).ints.length (n4 (l.getD i g6).ints),.vec (l.getD i g6).places.length (dQ (l.getD i g6).places)]:=by rw[read_in h,lH]
theorem fG {l:List Mx}(h:i<l.length):List.take 3 (List.drop (i*3) (c9 l))=[.str (l.getD i v8).name,.bool (l.getD i v8).re,.int .i64 (l.getD i v8).size]:=zP h
theorem flat_I (n:Nat):(List.replicate n [AV.int .i64 0]).flatten=g5 (List.replicate n 0):=by
  induction n with
  | zero=>rfl
  | succ n ih=>simp only[List.replicate_succ,List.flatten_cons,ih];rfl
theorem shl1N {e:Int}(h0:0≤e)(h1:e≤9):IntKind.wrap .i64 (1*2^(min e.toNat 64))=2^e.toNat:=by
  obtain ⟨m,rfl⟩:=Int.eq_ofNat_of_zero_le h0;have:m=0∨m=1∨m=2∨m=3∨m=4∨m=5∨m=6∨m=7∨m=8∨m=9:=by omega
  rcases this with rfl | rfl | rfl | rfl | rfl | rfl | rfl | rfl | rfl | rfl<;>decide
variable {m:Nat}
theorem shl1M (h1:m≤9):IntKind.wrap .i64 (1*2^(min m 64))=2^m:=by have:=shl1N (e:=(m:Int)) (by omega) (by omega);simpa using this
def xZ (v:Nat→Int)(i:Nat)(zs:List Int):Prop:=(∀d,d<i→zs.getD d 0=v d)∧(∀d,i≤d→zs.getD d 0=0)
theorem xZ.zero (v:Nat→Int)(n:Nat):xZ v 0 (List.replicate n 0):=by refine ⟨fun d hd=>by omega,fun d _=>?_⟩;rw[List.getD_eq_getElem?_getD,List.getElem?_replicate];split<;>rfl
variable {v:Nat→Int}{zs:List Int}
theorem xZ.set {x:Int}(hi:i<zs.length)(h:xZ v i zs)(hx:x=v i):xZ v (i+1) (zs.set i x):=by
  refine ⟨fun d hd=>?_,fun d hd=>?_⟩
  · by_cases e:d=i
    · subst e;simp[List.getD,hi,hx]
    · have:=h.1 d (by omega)
      simp only[List.getD_eq_getElem?_getD,List.getElem?_set_ne (Ne.symm e)]at this ⊢;exact this
  · have:=h.2 d (by omega)
    simp only[List.getD_eq_getElem?_getD,List.getElem?_set_ne (show i≠d from by omega)]at this ⊢;exact this
theorem xZ.skip (h:xZ v i zs)(hv:v i=0):xZ v (i+1) zs:=by
  refine ⟨fun d hd=>?_,fun d hd=>h.2 d (by omega)⟩;by_cases e:d=i
  · subst e;rw[h.2 d (Nat.le_refl _),hv]
  · exact h.1 d (by omega)
theorem xZ.all {n:Nat}(h:xZ v i zs)(hl:zs.length=n)(hi:n≤i):zs=(List.range n).map v:=by refine List.ext_getElem (by simp[hl]) fun d k1 k2=>?_;have:=h.1 d (by omega);simp;simpa [List.getD,k1] using this
variable {h l:c5}{b0:Blk}{g:Nat}{a:Int}
theorem SN:iQ h.length (h++(b0::⟨g,false,3,1,[.int .i64 a],0⟩::l)) 6 (.own (h.length+1) g 0 1)=some (.vec 1 [.int .i64 a]):=K7 (a:=[a]) t30 (by omega) rfl
theorem frz_2 {b:Int}:iQ h.length (h++(b0::⟨g,false,3,1,[.int .i64 a,.int .i64 b],0⟩::l)) 6 (.own (h.length+1) g 0 2)=some (.vec 2 [.int .i64 a,.int .i64 b]):=K7 (a:=[a,b]) t30 (by omega) rfl
theorem vec2 {b c d:Int}(h1:a=c)(h2:b=d):AV.vec 2 [.int .i64 a,.int .i64 b]=AV.vec 2 [.int .i64 c,.int .i64 d]:=by rw[h1,h2]
theorem frz_13 {b1 b2:Blk}:iQ h.length (h++(b0::b1::b2::⟨g,false,3,1,[.int .i64 a],0⟩::l)) 6 (.own (h.length+3) g 0 1)=some (.vec 1 [.int .i64 a]):=K7 (a:=[a]) t30 (by omega) rfl
theorem kK {C:Cfg}{ρ:Operand→AV}{c:Call}{r:Operand}{name:String}{t:TypeId}{v:AV}{f:FuncId}(hc:c.callee=.invoke r name)(hr:ρ r=.iface t v)(hm:C.meth t name=some f):z4 C ρ c=some (f,v::c.args.toList.map ρ):=by simp only[z4,hc,hr,hm]
theorem DU:cfg.meth 245 "lockorder/flow.next" = some 206:=by kernel_rfl
theorem JW:cfg.meth 247 "lockorder/flow.next" = some 207:=by kernel_rfl
theorem vV:cfg.meth 248 "lockorder/flow.next" = some 208:=by kernel_rfl
theorem K8:cfg.meth 249 "lockorder/flow.next" = some 209:=by kernel_rfl
attribute [local go_sem] rd u0 w8 r8 n6 l6 Int.natCast_nonneg Int.natCast_inj nF bK nG fF fG iW JN flat_I shl1N shl1M List.length_set List.length_replicate Int.toNat_natCast_add_one gY wrap64 zY max2
theorem Cg (m:Mx):CB 30 [.agg [.str m.name,.bool m.re,.int .i64 m.size]] h (.int .i64 ((lY m:Nat):Int)):=by
  refine .bz Tryz.f30 11 ?_;refine c13z ?_;refine c25z ?_;refine .spl 6 rfl rfl (fun e1=>?_) (fun e1=>?_)
  ·try simp only[e1]
   have qe1:=fact e1;refine .m [(3,6)] ?_;refine u2z ?_ ?_
   ·intro e2 qe2;refine c10z ?_;exact .ret (.ex (hq:=t152))
   intro e2 qe2;refine .sk ?_;refine c10z ?_;exact .ret (.ex (hq:=t152))
  try simp only[e1]
  have qe1:=fact e1;refine .m [(3,6)] ?_;refine c17z ?_;refine c10z ?_;exact .ret (.ex (hq:=t152))
theorem WH (m:Mx):CB 43 [.agg [.str m.name,.bool m.re,.int .i64 m.size]] h (.int .i64 ((lY m:Nat):Int)):=by
  refine .bz Tryz.f43 11 ?_;refine c13z ?_;refine c25z ?_;refine .spl 6 rfl rfl (fun e1=>?_) (fun e1=>?_)
  ·try simp only[e1]
   have qe1:=fact e1;refine .m [(3,6)] ?_;refine u2z ?_ ?_
   ·intro e2 qe2;refine c10z ?_;exact .ret (.ex (hq:=t152))
   intro e2 qe2;refine .sk ?_;refine c10z ?_;exact .ret (.ex (hq:=t152))
  try simp only[e1]
  have qe1:=fact e1;refine .m [(3,6)] ?_;refine c17z ?_;refine c10z ?_;exact .ret (.ex (hq:=t152))
theorem vW (k:Nat)(n:Int)(hk:k≤8)(h1:-1≤n)(h2:n≤1):CB 108 [.int .i64 ((k:Nat):Int),.int .i64 n] h (.vec (shI k n).length (g5 (shI k n))):=by
  refine .bz Tryz.f108 35 ?_;refine c59z ?_;refine .bX (fun m st=>∃(i:Nat) (zs:List Int),(m=(k+1)-i∧(xZ (shV k n) i zs∧zs.length=(k+1)∧i≤(k+1)))∧st=⟨mkS 35 [(0,AV.int .i64 ((k:Nat):Int)),(1,AV.int .i64 n),(5,AV.own h.length 0 0 (k+1)),(11,AV.int .i64 ((k+1:Nat):Int)),(12,AV.int .i64 ((i:Nat):Int))],h++[⟨0,false,3,1,g5 zs,0⟩]⟩) _ (.v ⟨0,(List.replicate (k+1) 0),⟨rfl,⟨xZ.zero _ _,by simp,by omega⟩⟩,rfl⟩) ?_;rintro m sl h' ⟨i,zs,⟨hm,⟨hI,hz,hi⟩⟩,hst⟩;obtain ⟨rfl,rfl⟩:=St.mk.inj hst;refine c13z ?_;refine u2z ?_ ?_
  ·intro e1 qe1;refine c58z ?_;refine c24z ?_;refine .spl 19 rfl rfl (fun e2=>?_) (fun e2=>?_)
   ·try simp only[e2]
    have qe2:=fact e2;refine .m [(4,19)] ?_;refine u2z ?_ ?_
    ·intro e3 qe3;refine .c6 [0,1,5,6,11,12] ?_;refine c1z ?_;refine c213z ?_;exact ⟨_,by omega,.v ⟨(i+1),(zs.set i _),⟨rfl,⟨xZ.set (by omega) hI (by rw[shV,if_pos (by omega)]),t117,by omega⟩⟩,rfl⟩⟩
    intro e3 qe3;refine c4z ?_;refine c213z ?_;exact ⟨_,by omega,.v ⟨(i+1),zs,⟨rfl,⟨xZ.skip hI t184,hz,by omega⟩⟩,rfl⟩⟩
   try simp only[e2]
   have qe2:=fact e2;refine .m [(4,19)] ?_;refine c34z ?_;refine c213z ?_;exact ⟨_,by omega,.v ⟨(i+1),zs,⟨rfl,⟨xZ.skip hI t184,hz,by omega⟩⟩,rfl⟩⟩
  intro e1 qe1;refine c63z ?_;exact ⟨_,_,rfl,K7 t141 (Nat.le_refl _) hz,by (rw[hI.all hz (by omega),JP];rfl)⟩
theorem JX (k:Nat)(n:Int)(hk:k≤8)(h1:-1≤n)(h2:n≤1):CB 79 [.int .i64 ((k:Nat):Int),.int .i64 n] h (.vec (shI k n).length (g5 (shI k n))):=by
  refine .bz Tryz.f79 32 ?_;refine c59z ?_;refine .bX (fun m st=>∃(i:Nat) (zs:List Int),(m=(k+1)-i∧(xZ (shV k n) i zs∧zs.length=(k+1)∧i≤(k+1)))∧st=⟨mkS 32 [(0,AV.int .i64 ((k:Nat):Int)),(1,AV.int .i64 n),(5,AV.own h.length 0 0 (k+1)),(6,AV.int .i64 ((i:Nat):Int))],h++[⟨0,false,3,1,g5 zs,0⟩]⟩) _ (.v ⟨0,(List.replicate (k+1) 0),⟨rfl,⟨xZ.zero _ _,by simp,by omega⟩⟩,rfl⟩) ?_;rintro m sl h' ⟨i,zs,⟨hm,⟨hI,hz,hi⟩⟩,hst⟩;obtain ⟨rfl,rfl⟩:=St.mk.inj hst;refine c0z ?_;refine u2z ?_ ?_
  ·intro e1 qe1;refine c58z ?_;refine c14z ?_;refine .spl 21 rfl rfl (fun e2=>?_) (fun e2=>?_)
   ·try simp only[e2]
    have qe2:=fact e2;refine .m [(2,21)] ?_;refine u2z ?_ ?_
    ·intro e3 qe3;refine .c6 [0,1,5,6,7] ?_;refine c48z ?_;exact ⟨_,by omega,.v ⟨(i+1),(zs.set i _),⟨rfl,⟨xZ.set (by omega) hI (by rw[shV,if_pos (by omega)]),t117,by omega⟩⟩,rfl⟩⟩
    intro e3 qe3;refine c4z ?_;refine c146z ?_;exact ⟨_,by omega,.v ⟨(i+1),zs,⟨rfl,⟨xZ.skip hI t184,hz,by omega⟩⟩,rfl⟩⟩
   try simp only[e2]
   have qe2:=fact e2;refine .m [(2,21)] ?_;refine c34z ?_;refine c146z ?_;exact ⟨_,by omega,.v ⟨(i+1),zs,⟨rfl,⟨xZ.skip hI t184,hz,by omega⟩⟩,rfl⟩⟩
  intro e1 qe1;refine c63z ?_;exact ⟨_,_,rfl,K7 t141 (Nat.le_refl _) hz,by (rw[hI.all hz (by omega),JP];rfl)⟩
theorem c_up (k:Nat)(hk:k≤8):CB 65 [.int .i64 ((k:Nat):Int)] h (.vec (shI k 1).length (g5 (shI k 1))):=by refine .bz Tryz.f65 5 ?_;refine c164z ?_;refine .ca rfl rfl (vW k 1 hk (by omega) (by omega)) ?_;refine c102z ?_;exact ⟨[],_,(List.append_nil _).symm,t40,by rfl⟩
theorem c_down (k:Nat)(hk:k≤8):CB 66 [.int .i64 ((k:Nat):Int)] h (.vec (shI k (-1)).length (g5 (shI k (-1)))):=by refine .bz Tryz.f66 5 ?_;refine c164z ?_;refine .ca rfl rfl (vW k (-1) hk (by omega) (by omega)) ?_;refine c102z ?_;exact ⟨[],_,(List.append_nil _).symm,t40,by rfl⟩
theorem c_id (k:Nat)(hk:k≤8):CB 67 [.int .i64 ((k:Nat):Int)] h (.vec (shI k 0).length (g5 (shI k 0))):=by refine .bz Tryz.f67 5 ?_;refine c164z ?_;refine .ca rfl rfl (vW k 0 hk (by omega) (by omega)) ?_;refine c102z ?_;exact ⟨[],_,(List.append_nil _).symm,t40,by rfl⟩
variable {u:Un}{it:z8}{pc:Nat}
theorem c_fcode (hu:WU u)(w:WIt u it)(hpc:pc<(c7 u it).length):CB 106 [.agg [.vec u.globals.length (g5 u.globals),.vec u.mutexes.length (c9 u.mutexes),.vec u.procs.length (g7 u.procs),.int .i64 u.main],.agg [.int .i64 it.proc,.vec it.j9.length (g5 it.j9)],.int .i64 ((pc:Nat):Int)] h (.agg [.int .i64 ((c7 u it).getD pc g6).op,.int .i64 ((c7 u it).getD pc g6).target,.bool ((c7 u it).getD pc g6).global,.int .i64 ((c7 u it).getD pc g6).e.op,.int .i64 ((c7 u it).getD pc g6).e.num,.str ((c7 u it).getD pc g6).e.name,.vec ((c7 u it).getD pc g6).e.args.length (n4 ((c7 u it).getD pc g6).e.args),.bool ((c7 u it).getD pc g6).pl.param,.int .i64 ((c7 u it).getD pc g6).pl.index,.vec ((c7 u it).getD pc g6).pl.at'.length (n4 ((c7 u it).getD pc g6).pl.at'),.vec ((c7 u it).getD pc g6).ints.length (n4 ((c7 u it).getD pc g6).ints),.vec ((c7 u it).getD pc g6).places.length (dQ ((c7 u it).getD pc g6).places)]):=by refine .bz Tryz.f106 17 ?_;have w1:=w.lo;have w2:=w.hi;have hsz:(c7 u it).length≤1664:=n7 hu w;refine .z ?_;refine c124z ?_;exact .ret (.ex (hq:=by rfl))
theorem WJ (it:z8)(p:Pl)(hp:p.param=true→0≤p.index∧p.index.toNat<it.j9.length):CB 107 [.agg [.int .i64 it.proc,.vec it.j9.length (g5 it.j9)],.agg [.bool p.param,.int .i64 p.index,.vec p.at'.length (n4 p.at')]] h (.int .i64 (xP it p)):=by
  refine .bz Tryz.f107 28 ?_;refine c13z ?_;refine c14z ?_;refine .spl 7 rfl rfl (fun e1=>?_) (fun e1=>?_)
  ·try simp only[e1]
   have qe1:=fact e1;refine .k 5 [(2,7)] ?_;refine .spl 12 rfl rfl (fun e2=>?_) (fun e2=>?_)
   ·try simp only[e2]
    have qe2:=fact e2;refine .m [(7,12)] ?_;refine u2z ?_ ?_
    ·intro e3 qe3;refine .c6 [2,3] ?_;refine .z ?_;exact .ret (.ex (hq:=t96))
    intro e3 qe3;refine .sk ?_;refine c178z ?_;exact .ret (.ex (hq:=t96))
   try simp only[e2]
   have qe2:=fact e2;refine .m [(7,12)] ?_;refine c17z ?_;refine c178z ?_;exact .ret (.ex (hq:=t96))
  try simp only[e1]
  have qe1:=fact e1;refine .k 8 [(2,7),(7,12)] ?_;refine .m [(7,12)] ?_;refine c17z ?_;refine c178z ?_;exact .ret (.ex (hq:=t96))
theorem SO (hu:WU u)(w:WIt u it)(hpc:pc<(c7 u it).length)(m:Int):CB 64 [.agg [.vec u.globals.length (g5 u.globals),.vec u.mutexes.length (c9 u.mutexes),.vec u.procs.length (g7 u.procs),.int .i64 u.main],.agg [.int .i64 it.proc,.vec it.j9.length (g5 it.j9)],.int .i64 ((pc:Nat):Int),.int .i64 m] h (.int .i64 (chI it ((c7 u it).getD pc g6) m)):=by
  refine .bz Tryz.f64 33 ?_;have w1:=w.lo;have w2:=w.hi;have hsz:(c7 u it).length≤1664:=n7 hu w;refine c108z ?_;refine c35z ?_;refine c245z ?_;refine .spl 17 rfl rfl (fun e1=>?_) (fun e1=>?_)
  ·try simp only[e1]
   have qe1:=fact e1;refine .k 5 [(3,17)] ?_;refine .spl 22 rfl rfl (fun e2=>?_) (fun e2=>?_)
   ·try simp only[e2]
    have qe2:=fact e2;refine .m [(8,22)] ?_;refine c72z ?_;exact .ret (.ex (hq:=t16))
   try simp only[e2]
   have qe2:=fact e2;refine .k 3 [(8,22)] ?_;refine .ca rfl rfl (WJ it ((c7 u it).getD pc g6).pl (JR hu w hpc (by omega))) ?_;refine .m [(8,22)] ?_;refine u2z ?_ ?_
   ·intro e3 qe3;refine c10z ?_;exact .ret (.ex (hq:=t16))
   intro e3 qe3;refine c197z ?_;refine .c6 [9] ?_;refine .z ?_;refine u2z ?_ ?_
   ·intro e4 qe4;refine .z ?_;exact .ret (.ex (hq:=t16))
   intro e4 qe4;refine .sk ?_;refine .z ?_;exact .ret (.ex (hq:=t16))
  try simp only[e1]
  have qe1:=fact e1;refine .k 8 [(3,17),(8,22)] ?_;refine .ca rfl rfl (WJ it ((c7 u it).getD pc g6).pl (JR hu w hpc (by omega))) ?_;refine .m [(8,22)] ?_;refine u2z ?_ ?_
  ·intro e5 qe5;refine c10z ?_;exact .ret (.ex (hq:=t16))
  intro e5 qe5;refine c197z ?_;refine .c6 [9] ?_;refine .z ?_;refine u2z ?_ ?_
  ·intro e6 qe6;refine .z ?_;exact .ret (.ex (hq:=t16))
  intro e6 qe6;refine .sk ?_;refine .z ?_;exact .ret (.ex (hq:=t16))
theorem JY (hu:WU u)(w:WIt u it)(hpc:pc<(c7 u it).length)(m:Int):CB 123 [.agg [.vec u.globals.length (g5 u.globals),.vec u.mutexes.length (c9 u.mutexes),.vec u.procs.length (g7 u.procs),.int .i64 u.main],.agg [.int .i64 it.proc,.vec it.j9.length (g5 it.j9)],.int .i64 ((pc:Nat):Int),.int .i64 m] h (.int .i64 (chI it ((c7 u it).getD pc g6) m)):=by
  refine .bz Tryz.f123 44 ?_;have w1:=w.lo;have w2:=w.hi;have hsz:(c7 u it).length≤1664:=n7 hu w;refine .z ?_;refine c124z ?_;refine .sb ?_;refine c245z ?_;refine .spl 24 rfl rfl (fun e1=>?_) (fun e1=>?_)
  ·try simp only[e1]
   have qe1:=fact e1;refine .k 3 [(3,24)] ?_;refine .ca rfl rfl (JI it ((c7 u it).getD pc g6).pl (JR hu w hpc (by omega))) ?_;refine .m [(3,24)] ?_;refine u2z ?_ ?_
   ·intro e2 qe2;refine c10z ?_;exact .ret (.ex (hq:=t16))
   intro e2 qe2;refine c245z ?_;refine .spl 36 rfl rfl (fun e3=>?_) (fun e3=>?_)
   ·try simp only[e3]
    have qe3:=fact e3;refine .k 3 [(3,36)] ?_;refine .ca rfl rfl (JI it ((c7 u it).getD pc g6).pl (JR hu w hpc (by omega))) ?_;refine .m [(3,36)] ?_;refine u2z ?_ ?_
    ·intro e4 qe4;refine c10z ?_;exact .ret (.ex (hq:=t16))
    intro e4 qe4;refine c4z ?_;refine c10z ?_;exact .ret (.ex (hq:=t16))
   try simp only[e3]
   have qe3:=fact e3;refine .m [(3,36)] ?_;refine c34z ?_;refine c10z ?_;exact .ret (.ex (hq:=t16))
  try simp only[e1]
  have qe1:=fact e1;refine .m [(3,24)] ?_;refine .F ?_;refine c245z ?_;refine .spl 36 rfl rfl (fun e5=>?_) (fun e5=>?_)
  ·try simp only[e5]
   have qe5:=fact e5;refine .k 3 [(3,36)] ?_;refine .ca rfl rfl (JI it ((c7 u it).getD pc g6).pl (JR hu w hpc (by omega))) ?_;refine .m [(3,36)] ?_;refine u2z ?_ ?_
   ·intro e6 qe6;refine c10z ?_;exact .ret (.ex (hq:=t16))
   intro e6 qe6;refine c4z ?_;refine c10z ?_;exact .ret (.ex (hq:=t16))
  try simp only[e5]
  have qe5:=fact e5;refine .m [(3,36)] ?_;refine c34z ?_;refine c10z ?_;exact .ret (.ex (hq:=t16))
theorem c_rel (hu:WU u)(w:WIt u it)(hpc:pc<(c7 u it).length)(hm:m<u.mutexes.length):CB 24 [.agg [.vec u.globals.length (g5 u.globals),.vec u.mutexes.length (c9 u.mutexes),.vec u.procs.length (g7 u.procs),.int .i64 u.main],.agg [.int .i64 it.proc,.vec it.j9.length (g5 it.j9)],.int .i64 ((pc:Nat):Int),.int .i64 ((m:Nat):Int)] h (.vec (shI (lY (u.mutexes.getD m v8)) (chI it ((c7 u it).getD pc g6) ((m:Nat):Int))).length (g5 (shI (lY (u.mutexes.getD m v8)) (chI it ((c7 u it).getD pc g6) ((m:Nat):Int))))):=by
  refine .bz Tryz.f24 31 ?_;have w1:=w.lo;have w2:=w.hi;have hsz:(c7 u it).length≤1664:=n7 hu w;have hcp:=C0 (m:=(u.mutexes.getD m v8));have hml:=hu.ml;have hch:=JQ (it:=it) (x:=((c7 u it).getD pc g6)) (m:=(m:Int));refine .z ?_;refine c24z ?_;refine .ca rfl rfl (Cg (u.mutexes.getD m v8)) ?_;refine c35z ?_;refine .c6 [2,3,4,5,9] ?_;refine c25z ?_;refine .ca rfl rfl (SO hu w hpc _) ?_;refine .nil ?_;refine .block ?_;refine .c6 [9,20] ?_;refine .z ?_;refine u2z ?_ ?_
  ·intro e1 qe1;refine c147z ?_;refine .ca rfl rfl (c_up _ hcp) ?_;refine .n ?_;exact .ret (.ex (hq:=t64))
  intro e1 qe1;refine .z ?_;refine u2z ?_ ?_
  ·intro e2 qe2;refine c147z ?_;refine .ca rfl rfl (c_down _ hcp) ?_;refine .n ?_;exact .ret (.ex (hq:=t64))
  intro e2 qe2;refine c4z ?_;refine c147z ?_;refine .ca rfl rfl (c_id _ hcp) ?_;refine .n ?_;exact .ret (.ex (hq:=t64))
theorem c_relR (hu:WU u)(w:WIt u it)(hpc:pc<(c7 u it).length)(hm:m<u.mutexes.length):CB 80 [.agg [.vec u.globals.length (g5 u.globals),.vec u.mutexes.length (c9 u.mutexes),.vec u.procs.length (g7 u.procs),.int .i64 u.main],.agg [.int .i64 it.proc,.vec it.j9.length (g5 it.j9)],.int .i64 ((pc:Nat):Int),.int .i64 ((m:Nat):Int)] h (.vec (shI (lY (u.mutexes.getD m v8)) (chI it ((c7 u it).getD pc g6) ((m:Nat):Int))).length (g5 (shI (lY (u.mutexes.getD m v8)) (chI it ((c7 u it).getD pc g6) ((m:Nat):Int))))):=by refine .bz Tryz.f80 21 ?_;have w1:=w.lo;have w2:=w.hi;have hsz:(c7 u it).length≤1664:=n7 hu w;have hcp:=C0 (m:=(u.mutexes.getD m v8));have hml:=hu.ml;have hch:=JQ (it:=it) (x:=((c7 u it).getD pc g6)) (m:=(m:Int));refine .z ?_;refine .ss v9 (mkP 13 [0,1,0,7,15,31,0,0,0,0,1023,2047,4095] []) ?_;refine .k 5 [] ?_;refine .ca rfl rfl (WH (u.mutexes.getD m v8)) ?_;refine .k 4 [] ?_;refine .ca rfl rfl (JY hu w hpc _) ?_;refine .ca rfl rfl (JX _ _ hcp (by omega) (by omega)) ?_;refine .n [] ?_;exact .ret (.ex (hq:=by rfl))
theorem c_ended (pc:Nat):CB 206 [.agg [],.int .i64 ((pc:Nat):Int)] h (.vec 0 []):=by refine .bz Tryz.f206 5 ?_;refine c210z ?_;exact .ret (.ex (hq:=by rfl))
theorem c_jump (pc:Nat)(t:Int):CB 207 [.agg [.int .i64 t],.int .i64 ((pc:Nat):Int)] h (.vec 1 [.int .i64 t]):=by refine .bz Tryz.f207 8 ?_;refine c210z ?_;exact .ret (.ex (hf:=by first | rfl | exact SN) (hq:=by rfl))
theorem JZ (pc:Nat)(hp:pc<100000):CB 209 [.agg [],.int .i64 ((pc:Nat):Int)] h (.vec 1 [.int .i64 ((pc:Int)+1)]):=by refine .bz Tryz.f209 8 ?_;refine c210z ?_;exact .ret (.ex (hf:=by first | rfl | exact SN) (hq:=by rfl))
theorem AO (pc:Nat)(t:Int)(hp:pc<100000):CB 208 [.agg [.int .i64 t],.int .i64 ((pc:Nat):Int)] h (if t=(pc:Int)+1 then AV.vec 1 [AV.int .i64 t] else AV.vec 2 [AV.int .i64 (min t ((pc:Int)+1)),AV.int .i64 (max t ((pc:Int)+1))]):=by
  refine .bz Tryz.f208 24 ?_;refine c69z ?_;refine u2z ?_ ?_
  ·intro e1 qe1;refine .c6 [2] ?_;refine .z ?_;exact .ret (.ex (hf:=by first | rfl | first | exact SN | exact frz_2) (hq:=t91))
  intro e1 qe1;refine .sk ?_;refine c124z ?_;exact .ret (.ex (hf:=by first | rfl | first | exact SN | exact frz_2) (hq:=t91))
def WK (x:Ins):AV:=if x.op=8 then .iface 245 (.agg []) else if x.op=7 then .iface 247 (.agg [.int .i64 x.target]) else if x.op=6 then .iface 248 (.agg [.int .i64 x.target]) else .iface 249 (.agg [])
variable {x:Ins}
theorem WL (h:x.op=8):WK x=.iface 245 (.agg []):=if_pos h
theorem WM (h:x.op=7):WK x=.iface 247 (.agg [.int .i64 x.target]):=by rw[WK,if_neg (by omega),if_pos h]
theorem KA (h:x.op=6):WK x=.iface 248 (.agg [.int .i64 x.target]):=by rw[WK,if_neg (by omega),if_neg (by omega),if_pos h]
theorem WN (h8:¬x.op=8)(h7:¬x.op=7)(h6:¬x.op=6):WK x=.iface 249 (.agg []):=by rw[WK,if_neg h8,if_neg h7,if_neg h6]
theorem KB (x:Ins):CB 174 [.agg [.int .i64 x.op,.int .i64 x.target,.bool x.global,.int .i64 x.e.op,.int .i64 x.e.num,.str x.e.name,.vec x.e.args.length (n4 x.e.args),.bool x.pl.param,.int .i64 x.pl.index,.vec x.pl.at'.length (n4 x.pl.at'),.vec x.ints.length (n4 x.ints),.vec x.places.length (dQ x.places)]] h (WK x):=by
  refine .bz Tryz.f174 23 ?_;refine c18z ?_;refine .z ?_;refine u2z ?_ ?_
  ·intro e1 qe1;refine .z ?_;exact .ret (.ex (hq:=t65))
  intro e1 qe1;refine .z ?_;refine u2z ?_ ?_
  ·intro e2 qe2;refine c246z ?_;exact .ret (.ex (hq:=t65))
  intro e2 qe2;refine .z ?_;refine u2z ?_ ?_
  ·intro e3 qe3;refine c246z ?_;exact .ret (.ex (hq:=t65))
  intro e3 qe3;refine c4z ?_;refine c10z ?_;exact .ret (.ex (hq:=t65))
theorem c_next8 (hu:WU u)(w:WIt u it)(hpc:pc<(c7 u it).length)(ho:((c7 u it).getD pc g6).op=8):CB 146 [.agg [.vec u.globals.length (g5 u.globals),.vec u.mutexes.length (c9 u.mutexes),.vec u.procs.length (g7 u.procs),.int .i64 u.main],.agg [.int .i64 it.proc,.vec it.j9.length (g5 it.j9)],.int .i64 ((pc:Nat):Int)] h (lZ ((c7 u it).getD pc g6) pc):=by refine .bz Tryz.f146 16 ?_;have w1:=w.lo;have w2:=w.hi;have hsz:(c7 u it).length≤1664:=n7 hu w;refine c108z ?_;refine .ca rfl rfl ((KB ((c7 u it).getD pc g6)).mono fun y k hq=>⟨hq.1.trans (WL ho),hq.2⟩) ?_;refine .n ?_;refine c217z ?_;refine n5.cq rfl (kK rfl rfl DU) hb206 (c_ended pc) ?_;refine .n ?_;exact .ret (.ex (hq:=by (exact (JS ho).symm)))
theorem c_next7 (hu:WU u)(w:WIt u it)(hpc:pc<(c7 u it).length)(ho:((c7 u it).getD pc g6).op=7):CB 146 [.agg [.vec u.globals.length (g5 u.globals),.vec u.mutexes.length (c9 u.mutexes),.vec u.procs.length (g7 u.procs),.int .i64 u.main],.agg [.int .i64 it.proc,.vec it.j9.length (g5 it.j9)],.int .i64 ((pc:Nat):Int)] h (lZ ((c7 u it).getD pc g6) pc):=by refine .bz Tryz.f146 16 ?_;have w1:=w.lo;have w2:=w.hi;have hsz:(c7 u it).length≤1664:=n7 hu w;refine c108z ?_;refine .ca rfl rfl ((KB ((c7 u it).getD pc g6)).mono fun y k hq=>⟨hq.1.trans (WM ho),hq.2⟩) ?_;refine .n ?_;refine c217z ?_;refine n5.cq rfl (kK rfl rfl JW) hb207 (c_jump pc _) ?_;refine .n ?_;exact .ret (.ex (hq:=by (exact (JT ho).symm)))
theorem SP (hu:WU u)(w:WIt u it)(hpc:pc<(c7 u it).length)(ho:((c7 u it).getD pc g6).op=6)(ht:((c7 u it).getD pc g6).target=(pc:Int)+1):CB 146 [.agg [.vec u.globals.length (g5 u.globals),.vec u.mutexes.length (c9 u.mutexes),.vec u.procs.length (g7 u.procs),.int .i64 u.main],.agg [.int .i64 it.proc,.vec it.j9.length (g5 it.j9)],.int .i64 ((pc:Nat):Int)] h (lZ ((c7 u it).getD pc g6) pc):=by refine .bz Tryz.f146 16 ?_;have w1:=w.lo;have w2:=w.hi;have hsz:(c7 u it).length≤1664:=n7 hu w;refine c108z ?_;refine .ca rfl rfl ((KB ((c7 u it).getD pc g6)).mono fun y k hq=>⟨hq.1.trans (KA ho),hq.2⟩) ?_;refine .n ?_;refine c217z ?_;refine n5.cq rfl (kK rfl rfl vV) hb208 ((AO pc _ (by omega)).mono fun y k hq=>⟨hq.1.trans (if_pos ht),hq.2⟩) ?_;refine .n ?_;exact .ret (.ex (hq:=by (exact (AN ho ht).symm)))
theorem c_next6 (hu:WU u)(w:WIt u it)(hpc:pc<(c7 u it).length)(ho:((c7 u it).getD pc g6).op=6)(ht:¬((c7 u it).getD pc g6).target=(pc:Int)+1):CB 146 [.agg [.vec u.globals.length (g5 u.globals),.vec u.mutexes.length (c9 u.mutexes),.vec u.procs.length (g7 u.procs),.int .i64 u.main],.agg [.int .i64 it.proc,.vec it.j9.length (g5 it.j9)],.int .i64 ((pc:Nat):Int)] h (lZ ((c7 u it).getD pc g6) pc):=by refine .bz Tryz.f146 16 ?_;have w1:=w.lo;have w2:=w.hi;have hsz:(c7 u it).length≤1664:=n7 hu w;refine c108z ?_;refine .ca rfl rfl ((KB ((c7 u it).getD pc g6)).mono fun y k hq=>⟨hq.1.trans (KA ho),hq.2⟩) ?_;refine .n ?_;refine c217z ?_;refine n5.cq rfl (kK rfl rfl vV) hb208 ((AO pc _ (by omega)).mono fun y k hq=>⟨hq.1.trans (if_neg ht),hq.2⟩) ?_;refine .n ?_;exact .ret (.ex (hq:=by (exact (JU ho ht).symm)))
theorem c_nextn (hu:WU u)(w:WIt u it)(hpc:pc<(c7 u it).length)(h8:¬((c7 u it).getD pc g6).op=8)(h7:¬((c7 u it).getD pc g6).op=7)(h6:¬((c7 u it).getD pc g6).op=6):CB 146 [.agg [.vec u.globals.length (g5 u.globals),.vec u.mutexes.length (c9 u.mutexes),.vec u.procs.length (g7 u.procs),.int .i64 u.main],.agg [.int .i64 it.proc,.vec it.j9.length (g5 it.j9)],.int .i64 ((pc:Nat):Int)] h (lZ ((c7 u it).getD pc g6) pc):=by refine .bz Tryz.f146 16 ?_;have w1:=w.lo;have w2:=w.hi;have hsz:(c7 u it).length≤1664:=n7 hu w;refine c108z ?_;refine .ca rfl rfl ((KB ((c7 u it).getD pc g6)).mono fun y k hq=>⟨hq.1.trans (WN h8 h7 h6),hq.2⟩) ?_;refine .n ?_;refine c217z ?_;refine n5.cq rfl (kK rfl rfl K8) hb209 (JZ pc (by omega)) ?_;refine .n ?_;exact .ret (.ex (hq:=by (exact (JV h8 h7 h6).symm)))
theorem c_nextF (hu:WU u)(w:WIt u it)(hpc:pc<(c7 u it).length):CB 146 [.agg [.vec u.globals.length (g5 u.globals),.vec u.mutexes.length (c9 u.mutexes),.vec u.procs.length (g7 u.procs),.int .i64 u.main],.agg [.int .i64 it.proc,.vec it.j9.length (g5 it.j9)],.int .i64 ((pc:Nat):Int)] h (lZ ((c7 u it).getD pc g6) pc):=by
  by_cases h8:((c7 u it).getD pc g6).op=8
  · exact c_next8 hu w hpc h8
  by_cases h7:((c7 u it).getD pc g6).op=7
  · exact c_next7 hu w hpc h7
  by_cases h6:((c7 u it).getD pc g6).op=6
  · by_cases ht:((c7 u it).getD pc g6).target=(pc:Int)+1
    · exact SP hu w hpc h6 ht
    · exact c_next6 hu w hpc h6 ht
  exact c_nextn hu w hpc h8 h7 h6
variable {t:Int}
theorem kW_1 (h:a<t):kW [a] t=1:=by simp[kW,List.takeWhile,h]
theorem kW_0 (h:¬a<t):kW [a] t=0:=by simp[kW,List.takeWhile,h]
theorem KC (h:x.op=6):AV.vec (jY [(pc:Int)+1] x.target).length (g5 (jY [(pc:Int)+1] x.target))=lZ x pc:=by
  by_cases h2:x.target=(pc:Int)+1
  · rw[AN h h2,jY,if_pos (by simp[h2])];rw[h2];rfl
  · rw[JU h h2,jY,if_neg t103]
    by_cases h3:(pc:Int)+1<x.target
    · rw[kW_1 h3,show min x.target ((pc:Int)+1)=(pc:Int)+1 from by omega,show max x.target ((pc:Int)+1)=x.target from by omega];rfl
    · rw[kW_0 h3,show min x.target ((pc:Int)+1)=x.target from by omega,show max x.target ((pc:Int)+1)=(pc:Int)+1 from by omega];rfl
theorem c_with1 {b1 b2:Blk}:CH 69 [.own (h.length+3) g 0 1,.int .i64 t] (h++[b0,b1,b2,⟨g,false,3,1,[.int .i64 a],0⟩]) (.vec (jY [a] t).length (g5 (jY [a] t))) (h++[b0,b1,b2,⟨g,false,3,1,[.int .i64 a],1⟩]):=by refine CallA.FP (β:=h.length+3) (off:=0) (len:=1) (b:=⟨g,false,3,1,[.int .i64 a],0⟩) (cs:=g5 [a]) (args':=[.vec 1 (g5 [a]),.int .i64 t]) t30 rfl (by simp) rfl ⟨.inr ⟨rfl,rfl⟩,.inl rfl,trivial⟩ ?_;rw[l7];exact JH (h:=h++[b0,b1,b2,⟨g,false,3,1,[.int .i64 a],1⟩]) [a] t (by simp)
theorem c_nextR (hu:WU u)(w:WIt u it)(hpc:pc<(c7 u it).length):CB 26 [.agg [.vec u.globals.length (g5 u.globals),.vec u.mutexes.length (c9 u.mutexes),.vec u.procs.length (g7 u.procs),.int .i64 u.main],.agg [.int .i64 it.proc,.vec it.j9.length (g5 it.j9)],.int .i64 ((pc:Nat):Int)] h (lZ ((c7 u it).getD pc g6) pc):=by
  refine .bz Tryz.f26 38 ?_;have w1:=w.lo;have w2:=w.hi;have hsz:(c7 u it).length≤1664:=n7 hu w;refine .z ?_;refine c216z ?_;refine .c6 [2,7] ?_;refine c19z ?_;refine .z ?_;refine u2z ?_ ?_
  ·intro e1 qe1;refine .z ?_;exact .ret (.ex (hf:=t186) (hq:=t66))
  intro e1 qe1;refine .z ?_;refine u2z ?_ ?_
  ·intro e2 qe2;refine .z ?_;exact .ret (.ex (hf:=t186) (hq:=t66))
  intro e2 qe2;refine .z ?_;refine u2z ?_ ?_
  ·intro e3 qe3;refine .c6 [2,7] ?_;refine c24z ?_;refine .ch rfl rfl (c_with1) ?_;refine .n ?_;exact .ret (.ex (hf:=t186) (hq:=t66))
  intro e3 qe3;refine c4z ?_;refine .c6 [2] ?_;refine .z ?_;exact .ret (.ex (hf:=t186) (hq:=t66))
end Go.Proofs.YtonbocmibeikmaaGreat
end
section
namespace Go.Un
open Go.Ab
def j4 (n:Nat):AV:=.int .i64 (n:Int)
def bL (l:List Nat):AV:=.vec l.length (l.map j4)
variable {i:Nat}
theorem mP {l:List Nat}(h:i<l.length):List.take 1 (List.drop i (l.map j4))=[AV.int .i64 ((l.getD i 0:Nat):Int)]:=by rw[←List.map_drop,←List.map_take,List.drop_eq_getElem_cons h,List.take_succ_cons,List.take_zero];simp[List.getD,h,j4]
theorem oB {l:List Nat}{v:Nat}(h:i<l.length):List.take i (l.map j4)++AV.int .i64 (v:Int)::List.drop (i+1) (l.map j4)=(l.set i v).map j4:=by rw[←List.map_drop,←List.map_take,List.set_eq_take_append_cons_drop,if_pos h];simp[j4]
theorem mQ (n:Nat):(List.replicate n [AV.int .i64 0]).flatten=(List.replicate n (0:Nat)).map j4:=by
 induction n with
 | zero=>rfl
 | succ n ih=>simp[List.replicate_succ,ih,j4]
theorem i64_63 (n:Int)(h0:0≤n)(h1:n<2^63):IntKind.wrap .i64 n=n:=wrap64 (by omega) (by omega)
variable {a b:Nat}
theorem orN (ha:a<512)(hb:b<512):bits .or .i64 (a:Int) (b:Int)=((a|||b:Nat):Int):=(bits_nat .i64 63 (by decide) i64_63 a b (by omega) (by omega)).2
def dhV (k:Nat)(n:Int)(d:Nat):Nat:=if 0≤(d:Int)+n∧(d:Int)+n≤k then 2^((d:Int)+n).toNat else 0
def dhN (k:Nat)(n:Int):List Nat:=(List.range (k+1)).map (dhV k n)
def hasD (s:Nat)(d:Int):Bool:=decide (0≤d∧d≤8)&&s.testBit d.toNat
theorem testAll:((List.range 9).all fun m=>(List.range 512).all fun s=>(bits .and .i64 ((s:Int).fdiv (2^(min m 64))) 1==1)==s.testBit m)=true:=by kernel_rfl
variable {s:Nat}
theorem testN {m:Nat}(hm:m≤8)(hs:s<512):(bits .and .i64 ((s:Int).fdiv (2^(min m 64))) 1==1)=s.testBit m:=by have h1:=List.all_eq_true.1 testAll m (List.mem_range.2 (by omega));have h2:=List.all_eq_true.1 h1 s (List.mem_range.2 hs);simpa using h2
theorem hasN (hi:i≤8):hasD s (i:Int)=s.testBit i:=by
 have:0≤(i:Int)∧(i:Int)≤8:=by omega
 simp[hasD,this]
def cB (r:List Nat)(s:Nat):Nat→Nat
 | 0=>0
 | i+1=>if s.testBit i then cB r s i|||r.getD i 0 else cB r s i
def applyN (r:List Nat)(s:Nat):Nat:=cB r s r.length
def p7 (a b:List Nat):List Nat:=(List.range a.length).map fun d=>applyN b (a.getD d 0)
def dD (a b:List Nat):List Nat:=(List.range a.length).map fun d=>a.getD d 0|||b.getD d 0
def lJ (a b:List Nat):Prop:=∀d,d<a.length→bits .andNot .i64 ((a.getD d 0:Nat):Int) ((b.getD d 0:Nat):Int)=0
instance (a b:List Nat):Decidable (lJ a b):=by unfold lJ;exact inferInstance
variable {r:List Nat}
theorem gD (hr:∀x∈r,x<512)(i:Nat):r.getD i 0<512:=by
 rw[List.getD_eq_getElem?_getD];cases h:r[i]? with
 | none=>simp
 | some x=>exact hr x (List.mem_of_getElem? h)
theorem or_lt (ha:a<512)(hb:b<512):a|||b<512:=Nat.or_lt_two_pow (n:=9) ha hb
theorem nI {r:List Nat}(hr:∀x∈r,x<512)(s:Nat):∀i,cB r s i<512
 | 0=>by simp[cB]
 | i+1=>by
  unfold cB;split
  ·exact or_lt (nI hr s i) (gD hr i)
  ·exact nI hr s i
theorem WO (h:s.testBit i=true):cB r s (i+1)=cB r s i|||r.getD i 0:=by rw[cB,if_pos h]
theorem KD (h:s.testBit i=false):cB r s (i+1)=cB r s i:=by rw[cB,if_neg (by simp[h])]
def withinN (x m:Int):Nat:=(within x m).toNat
theorem oC {k:Nat}(hk:k≤8):0<2^(k+1)∧2^(k+1)≤512:=by
 have:k=0∨k=1∨k=2∨k=3∨k=4∨k=5∨k=6∨k=7∨k=8:=by omega
 rcases this with rfl | rfl | rfl | rfl | rfl | rfl | rfl | rfl | rfl<;>decide
def relV (l:List Int)(k d:Nat):Nat:=if d<l.length then withinN (l.getD d 0) ((2^(k+1):Nat):Int) else 0
def Eu (l:List Int)(k:Nat):List Nat:=(List.range (k+1)).map (relV l k)
theorem vX {r:List Nat}{s j:Nat}:∀{i:Nat},(cB r s i).testBit j=true↔∃d,d<i∧s.testBit d=true∧(r.getD d 0).testBit j=true
 | 0=>by simp[cB]
 | i+1=>by
  have ih:=vX (r:=r) (s:=s) (j:=j) (i:=i);by_cases h:s.testBit i=true
  ·rw[WO h,Nat.testBit_or,Bool.or_eq_true,ih];constructor
   ·rintro (⟨d,h1,h2⟩ | h1)
    ·exact ⟨d,by omega,h2⟩
    ·exact ⟨i,by omega,h,h1⟩
   ·rintro ⟨d,h1,h2,h3⟩;by_cases e:d=i
    ·subst e;exact .inr h3
    ·exact .inl ⟨d,by omega,h2,h3⟩
  ·rw[KD t188,ih];constructor
   ·rintro ⟨d,h1,h2⟩;exact ⟨d,by omega,h2⟩
   ·rintro ⟨d,h1,h2,h3⟩;by_cases e:d=i
    ·subst e;exact absurd h2 h
    ·exact ⟨d,by omega,h2,h3⟩
theorem yA {j:Nat}:(applyN r s).testBit j=true↔∃d,d<r.length∧s.testBit d=true∧(r.getD d 0).testBit j=true:=vX
theorem rR (h:∀j,a.testBit j=true↔b.testBit j=true):a=b:=Nat.eq_of_testBit_eq fun j=>Bool.eq_iff_iff.2 (h j)
variable {n d:Nat}
theorem nJ {f:Nat→Nat}(hd:d<n):((List.range n).map f).getD d 0=f d:=by simp[List.getD,hd]
theorem vY (a b:List Nat):(p7 a b).length=a.length:=by simp[p7]
theorem qJ (a b:List Nat):(dD a b).length=a.length:=by simp[dD]
theorem rel_len (l:List Int)(k:Nat):(Eu l k).length=k+1:=by simp[Eu]
theorem WQ (k:Nat)(n:Int):(dhN k n).length=k+1:=by simp[dhN]
theorem S5 {a b:List Nat}(hd:d<a.length):(p7 a b).getD d 0=applyN b (a.getD d 0):=nJ hd
theorem KE {a b:List Nat}(hd:d<a.length):(dD a b).getD d 0=a.getD d 0|||b.getD d 0:=nJ hd
theorem map_ext {f g:Nat→Nat}(h:∀d,d<n→f d=g d):(List.range n).map f=(List.range n).map g:=eN fun d hd=>h d (List.mem_range.1 hd)
theorem yB {x j:Nat}(h:x<2^n)(hj:x.testBit j=true):j<n:=by
 rcases Nat.lt_or_ge j n with h' | h'
 ·exact h'
 ·rw[Nat.testBit_lt_two_pow (Nat.lt_of_lt_of_le h (Nat.pow_le_pow_right (by decide) h'))]at hj;cases hj
theorem sV (l:List Int)(k:Nat):Eu l k=(List.range (Eu l k).length).map fun d=>(Eu l k).getD d 0:=by rw[rel_len];exact map_ext fun d hd=>by rw[Eu,nJ hd]
theorem vZ (ha:a<512)(hb:b<512):bits .andNot .i64 (a:Int) (b:Int)=0↔∀j,a.testBit j=true→b.testBit j=true:=by
 have e1:∀n:Nat,BitVec.ofInt 64 (n:Int)=BitVec.ofNat 64 n:=fun n=>BitVec.ofInt_natCast _ _;have e2:bits .andNot .i64 (a:Int) (b:Int)=IntKind.wrap .i64 (((BitVec.ofNat 64 a&&&~~~ BitVec.ofNat 64 b).toNat:Nat):Int):=by show IntKind.wrap .i64 (((BitVec.ofInt 64 (a:Int)&&&~~~ BitVec.ofInt 64 (b:Int)).toNat:Nat):Int)=_;rw[e1,e1]
 have hn:(BitVec.ofNat 64 a&&&~~~ BitVec.ofNat 64 b).toNat≤a:=by rw[BitVec.toNat_and];refine Nat.le_trans Nat.and_le_left ?_;rw[BitVec.toNat_ofNat];exact Nat.mod_le _ _
 have ht:∀j,(BitVec.ofNat 64 a&&&~~~ BitVec.ofNat 64 b).toNat.testBit j=(a.testBit j&&! b.testBit j):=fun j=>by
  rw[BitVec.testBit_toNat,BitVec.getLsbD_and,BitVec.getLsbD_not,BitVec.getLsbD_ofNat,BitVec.getLsbD_ofNat];by_cases hj:j<64
  ·simp[hj]
  ·rw[Nat.testBit_lt_two_pow (x:=a) (Nat.lt_of_lt_of_le ha (Nat.le_trans (show 512≤2^9 from by decide) (Nat.pow_le_pow_right (by decide) (by omega))))];simp
 rw[e2,wrap64 (by omega) (by omega)];constructor
 ·intro h j hj;have h0:(BitVec.ofNat 64 a&&&~~~ BitVec.ofNat 64 b).toNat=0:=by omega
  have:=ht j;rw[h0,Nat.zero_testBit,hj]at this;simpa using this.symm
 ·intro h;have:(BitVec.ofNat 64 a&&&~~~ BitVec.ofNat 64 b).toNat=0:=by
   refine Nat.eq_of_testBit_eq fun j=>?_;rw[ht,Nat.zero_testBit];cases hj:a.testBit j with
   | false=>rfl
   | true=>rw[h j hj];rfl
  omega
theorem within_iff {x y:List Nat}(hx:∀v∈x,v<512)(hy:∀v∈y,v<512):lJ x y↔∀d,d<x.length→∀j,(x.getD d 0).testBit j=true→(y.getD d 0).testBit j=true:=
 ⟨fun h d hd=>(vZ (gD hx d) (gD hy d)).1 (h d hd),fun h d hd=>(vZ (gD hx d) (gD hy d)).2 (h d hd)⟩
def Rl (k:Nat)(r:List Nat):Prop:=r.length=k+1∧∀x∈r,x<2^(k+1)
variable {k:Nat}{r:List Nat}
theorem Rl.lt (hk:k≤8)(h:Rl k r):∀x∈r,x<512:=fun x hx=>Nat.lt_of_lt_of_le (h.2 x hx) (oC hk).2
variable {n:Nat}
theorem nK (hr:∀x∈r,x<2^n)(i:Nat):r.getD i 0<2^n:=by
 rw[List.getD_eq_getElem?_getD];cases h:r[i]? with
 | none=>simp;exact Nat.two_pow_pos n
 | some x=>exact hr x (List.mem_of_getElem? h)
def bt (r:List Nat)(d e:Nat):Bool:=(r.getD d 0).testBit e
variable {d e:Nat}
theorem DV (h:Rl k r)(hb:bt r d e=true):d≤k∧e≤k:=by
 unfold bt at hb;refine ⟨?_,?_⟩
 ·by_cases hd:d<r.length
  ·have:=h.1;omega
  ·rw[List.getD_eq_getElem?_getD,List.getElem?_eq_none (by omega)]at hb;simp at hb
 ·have:=yB (nK h.2 d) hb;omega
def Sub (a b:List Nat):Prop:=∀d e,bt a d e=true→bt b d e=true
theorem Sub.refl (a:List Nat):Sub a a:=fun _ _ h=>h
variable {a b:List Nat}
theorem Sub.trans {c:List Nat}(h1:Sub a b)(h2:Sub b c):Sub a c:=fun d e h=>h2 d e (h1 d e h)
theorem KF (ha:Rl k a)(hb:Rl k b)(h:∀d e,bt a d e=true↔bt b d e=true):a=b:=by refine List.ext_getElem (by rw[ha.1,hb.1]) fun d k1 k2=>?_;have:=rR (a:=a.getD d 0) (b:=b.getD d 0) fun j=>h d j;simpa [List.getD,k1,k2] using this
theorem Sub.Cv (ha:Rl k a)(hb:Rl k b)(h1:Sub a b)(h2:Sub b a):a=b:=KF ha hb fun d e=>⟨h1 d e,h2 d e⟩
theorem C1 (hk:k≤8)(ha:Rl k a)(hb:Rl k b):lJ a b↔Sub a b:=by rw[within_iff (ha.lt hk) (hb.lt hk)];exact ⟨fun h d e hd=>h d (by have:=(DV ha hd).1;have:=ha.1;omega) e hd,fun h d _ e he=>h d e he⟩
theorem tV (ha:Rl k a)(hb:Rl k b):bt (dD a b) d e=true↔bt a d e=true∨bt b d e=true:=by
 by_cases hd:d<a.length
 ·unfold bt;rw[KE hd,Nat.testBit_or,Bool.or_eq_true]
 ·have h1:=ha.1;have h2:=hb.1;unfold bt;simp only[List.getD_eq_getElem?_getD];rw[List.getElem?_eq_none (l:=dD a b) (by rw[qJ];omega),List.getElem?_eq_none (l:=a) (by omega),List.getElem?_eq_none (l:=b) (by omega)];simp
theorem iM (ha:Rl k a)(hb:Rl k b):bt (p7 a b) d e=true↔∃f,bt a d f=true∧bt b f e=true:=by
 by_cases hd:d<a.length
 ·unfold bt;rw[S5 hd,yA];constructor
  ·rintro ⟨f,_,h1,h2⟩;exact ⟨f,h1,h2⟩
  ·rintro ⟨f,h1,h2⟩;exact ⟨f,by have:=(DV hb h2).1;have:=hb.1;omega,h1,h2⟩
 ·have h0:bt (p7 a b) d e=false:=by unfold bt;rw[List.getD_eq_getElem?_getD,List.getElem?_eq_none (by rw[vY];omega)];simp
  rw[h0];constructor
  ·intro h;cases h
  ·rintro ⟨f,h1,_⟩;have:=(DV ha h1).1;have:=ha.1;omega
theorem qK (ha:Rl k a)(hb:Rl k b):Rl k (dD a b):=by refine ⟨by rw[qJ];exact ha.1,fun x hx=>?_⟩;obtain ⟨d,_,rfl⟩:=List.mem_map.1 hx;exact Nat.or_lt_two_pow (nK ha.2 d) (nK hb.2 d)
theorem qL {r:List Nat}{n:Nat}(hr:∀x∈r,x<2^n)(s:Nat):∀i,cB r s i<2^n
 | 0=>by simp[cB];exact Nat.two_pow_pos n
 | i+1=>by
  unfold cB;split
  ·exact Nat.or_lt_two_pow (qL hr s i) (nK hr i)
  ·exact qL hr s i
theorem nL (ha:Rl k a)(hb:Rl k b):Rl k (p7 a b):=by refine ⟨by rw[vY];exact ha.1,fun x hx=>?_⟩;obtain ⟨d,_,rfl⟩:=List.mem_map.1 hx;exact qL hb.2 _ _
theorem wB:bt (List.replicate n 0) d e=false:=by unfold bt;rw[List.getD_eq_getElem?_getD,List.getElem?_replicate];split<;>simp
theorem S6 (k:Nat):Rl k (List.replicate (k+1) 0):=⟨by simp,fun x hx=>by rw[List.eq_of_mem_replicate hx];exact Nat.two_pow_pos _⟩
theorem Cw (k:Nat)(n:Int):Rl k (dhN k n):=by
 refine ⟨by simp[dhN],fun x hx=>?_⟩;obtain ⟨d,_,rfl⟩:=List.mem_map.1 hx;unfold dhV;split
 ·exact Nat.pow_lt_pow_right (by decide) (by omega)
 ·exact Nat.two_pow_pos _
theorem SQ {n:Int}:bt (dhN k n) d e=true↔d≤k∧e≤k∧(d:Int)+n=e:=by
 unfold bt;by_cases hd:d<k+1
 ·rw[dhN,nJ hd,dhV];split
  ·rw[Nat.testBit_two_pow];simp only[decide_eq_true_eq];omega
  ·simp only[Nat.zero_testBit,Bool.false_eq_true,false_iff];omega
 ·rw[List.getD_eq_getElem?_getD,List.getElem?_eq_none (by simp[dhN];omega)];simp;omega
noncomputable def oD (p:Nat→Prop):Nat→Nat
 | 0=>0
 | j+1=>@ite _ (p j) (Classical.propDecidable _) (oD p j|||2^j) (oD p j)
theorem rS {p:Nat→Prop}{j:Nat}:∀{n:Nat},(oD p n).testBit j=true↔j<n∧p j
 | 0=>by simp[oD]
 | n+1=>by
  have ih:=rS (p:=p) (j:=j) (n:=n);rw[oD];split
  ·rename_i h;rw[Nat.testBit_or,Bool.or_eq_true,ih,Nat.testBit_two_pow];simp only[decide_eq_true_eq];constructor
   ·rintro (⟨h1,h2⟩ | rfl)
    ·exact ⟨by omega,h2⟩
    ·exact ⟨by omega,h⟩
   ·rintro ⟨h1,h2⟩;by_cases e:n=j
    ·exact .inr e
    ·exact .inl ⟨by omega,h2⟩
  ·rename_i h;rw[ih];constructor
   ·rintro ⟨h1,h2⟩;exact ⟨by omega,h2⟩
   ·rintro ⟨h1,h2⟩;refine ⟨?_,h2⟩;by_cases e:j=n
    ·subst e;exact absurd h2 h
    ·omega
theorem wC {p:Nat→Prop}:∀n:Nat,oD p n<2^n
 | 0=>by simp[oD]
 | n+1=>by
  have ih:=wC (p:=p) n;have h2:2^n<2^(n+1):=Nat.pow_lt_pow_right (by decide) (by omega);rw[oD];split
  ·exact Nat.or_lt_two_pow (by omega) h2
  ·omega
noncomputable def wD (k:Nat)(p:Nat→Nat→Prop):List Nat:=(List.range (k+1)).map fun d=>oD (p d) (k+1)
theorem qM (k:Nat)(p:Nat→Nat→Prop):Rl k (wD k p):=by refine ⟨by simp[wD],fun x hx=>?_⟩;obtain ⟨d,_,rfl⟩:=List.mem_map.1 hx;exact wC _
theorem tW {p:Nat→Nat→Prop}:bt (wD k p) d e=true↔d≤k∧e≤k∧p d e:=by
 unfold bt;by_cases hd:d<k+1
 ·rw[wD,nJ hd,rS];constructor
  ·rintro ⟨h1,h2⟩;exact ⟨by omega,by omega,h2⟩
  ·rintro ⟨_,h1,h2⟩;exact ⟨by omega,h2⟩
 ·rw[List.getD_eq_getElem?_getD,List.getElem?_eq_none (by simp[wD];omega)];simp;omega
def Tb (k n:Nat)(T:List (List Nat)):Prop:=T.length=n∧∀r∈T,Rl k r
variable {T:List (List Nat)}{i:Nat}
theorem Tb.get (h:Tb k n T)(hi:i<n):Rl k (T.getD i []):=by rw[List.getD_eq_getElem?_getD,List.getElem?_eq_getElem (by rw[h.1];exact hi)];exact h.2 _ (List.getElem_mem _)
theorem Tb.set (h:Tb k n T)(hr:Rl k r):Tb k n (T.set i r):=by
 refine ⟨by rw[List.length_set];exact h.1,fun x hx=>?_⟩;rcases List.mem_or_eq_of_mem_set hx with hx | rfl
 ·exact h.2 x hx
 ·exact hr
theorem eI {j:Nat}(hi:i<T.length):(T.set i r).getD j []=if j=i then r else T.getD j []:=by
 simp only[List.getD_eq_getElem?_getD];by_cases h:j=i
 ·subst h;simp[hi]
 ·rw[List.getElem?_set_ne (Ne.symm h),if_neg h]
def nX (A B:List (List Nat)):Prop:=∀i,Sub (A.getD i []) (B.getD i [])
theorem nX.refl (A:List (List Nat)):nX A A:=fun _=>Sub.refl _
variable {A B:List (List Nat)}
theorem nX.trans {C:List (List Nat)}(h1:nX A B)(h2:nX B C):nX A C:=fun i=>(h1 i).trans (h2 i)
theorem nX.Cv (ha:Tb k n A)(hb:Tb k n B)(h1:nX A B)(h2:nX B A):A=B:=by refine List.ext_getElem (by rw[ha.1,hb.1]) fun d k1 k2=>?_;have e1:=h1 d;have e2:=h2 d;have:=Sub.Cv (ha.get (i:=d) (by rw[←ha.1];exact k1)) (hb.get (i:=d) (by rw[←hb.1];exact k2)) e1 e2;simpa [List.getD,k1,k2] using this
theorem sub_nil (b:List Nat):Sub [] b:=fun d e h=>by simp[bt]at h
theorem wF (ha:Tb k n A)(h:∀i,i<n→Sub (A.getD i []) (B.getD i [])):nX A B:=fun i=>by
 by_cases hi:i<n
 ·exact h i hi
 ·rw[List.getD_eq_getElem?_getD,List.getElem?_eq_none (by rw[ha.1];omega)];exact sub_nil _
def tot (T:List (List Nat)):Nat:=(T.map List.sum).sum
theorem nM {c:Nat}:∀{l:List Nat},(∀x∈l,x≤c)→l.sum≤c*l.length
 | [],_=>by simp
 | x::l,h=>by have h1:=h x (by simp);have h2:=nM (l:=l) fun y hy=>h y (by simp[hy]);simp only[List.sum_cons,List.length_cons,Nat.mul_succ];omega
theorem rl_sum (hk:k≤8)(h:Rl k r):r.sum≤512*9:=by refine Nat.le_trans (nM (c:=512) fun x hx=>Nat.le_of_lt (h.lt hk x hx)) ?_;rw[h.1];exact Nat.mul_le_mul_left _ (by omega)
theorem K9 (hk:k≤8)(h:Tb k n T):tot T≤4608*n:=by
 unfold tot;refine Nat.le_trans (nM (c:=4608) fun x hx=>?_) ?_
 ·obtain ⟨r,hr,rfl⟩:=List.mem_map.1 hx;exact rl_sum hk (h.2 r hr)
 ·rw[List.length_map,h.1];exact Nat.le_refl _
theorem oS:∀{l:List Nat} {i x:Nat},i<l.length→(l.set i x).sum+l.getD i 0=l.sum+x
 | y::l,0,x,_=>by simp[List.getD];omega
 | y::l,i+1,x,h=>by have:=oS (l:=l) (i:=i) (x:=x) t188;simp only[List.set_cons_succ,List.sum_cons,List.getD_cons_succ];omega
theorem wG:(T.map List.sum).getD i 0=(T.getD i []).sum:=by simp only[List.getD_eq_getElem?_getD,List.getElem?_map];cases T[i]?<;>simp
theorem tot_set (hi:i<T.length):tot (T.set i r)+(T.getD i []).sum=tot T+r.sum:=by unfold tot;rw[List.map_set,←wG];exact oS (by simpa using hi)
theorem C2:∀{a b:List Nat},a.length=b.length→(∀d,a.getD d 0≤b.getD d 0)→a.sum≤b.sum∧(a≠b→a.sum<b.sum)
 | [],[],_,_=>by simp
 | x::a,y::b,hl,h=>by
  have h0:x≤y:=h 0;obtain ⟨i1,i2⟩:=C2 (a:=a) (b:=b) t170 fun d=>h (d+1);simp only[List.sum_cons];refine ⟨by omega,fun hne=>?_⟩;by_cases e:x=y
  ·have:=i2 fun e2=>hne (by rw[e,e2]);omega
  ·omega
 | [],_::_,hl,_=>by simp at hl
 | _::_,[],hl,_=>by simp at hl
theorem yC {a b:Nat}(h:∀j,a.testBit j=true→b.testBit j=true):a≤b:=by
 have:a|||b=b:=rR fun j=>by rw[Nat.testBit_or,Bool.or_eq_true];exact ⟨fun h1=>h1.elim (h j) id,.inr⟩
 rw[←this];exact Nat.left_le_or
theorem S7 (ha:Rl k a)(hb:Rl k b)(h:Sub a b):a.sum≤b.sum∧(a≠b→a.sum<b.sum):=
 C2 (by rw[ha.1,hb.1]) fun d=>yC fun j=>h d j
theorem C3 (hT:Tb k n T)(hi:i<n)(hr:Rl k r)(hs:Sub (T.getD i []) r)(hne:T.getD i []≠r):tot T<tot (T.set i r):=by have h1:=tot_set (T:=T) (i:=i) (r:=r) (by rw[hT.1];exact hi);have h2:=(S7 (hT.get hi) hr hs).2 hne;omega
inductive Way (k:Nat)(nx:Nat→List Int)(st:Nat→List Nat):Nat→Nat→Nat→Prop
 | start {d:Nat}:d≤k→Way k nx st 0 d d
 | step {pc d e f:Nat} {q:Int}:Way k nx st pc d e→bt (st pc) e f=true→q∈nx pc→Way k nx st q.toNat d f
def SR (nx:Nat→List Int)(st:Nat→List Nat)(T:List (List Nat))(pc:Nat):Prop:=∀q∈nx pc,Sub (p7 (T.getD pc []) (st pc)) (T.getD q.toNat [])
structure ClT (k n:Nat)(nx:Nat→List Int)(st:Nat→List Nat)(T:List (List Nat)):Prop where
 tb:Tb k n T
 id:Sub (dhN k 0) (T.getD 0 [])
 at':∀pc,pc<n→SR nx st T pc
noncomputable def eC (k n:Nat)(nx:Nat→List Int)(st:Nat→List Nat):List (List Nat):=(List.range n).map fun pc=>wD k (Way k nx st pc)
structure Pro (k n:Nat)(nx:Nat→List Int)(st:Nat→List Nat):Prop where
 pos:0<n
 nx:∀pc,pc<n→∀q∈nx pc,0≤q∧q<n
 st:∀pc,pc<n→Rl k (st pc)
variable {nx:Nat→List Int}{st:Nat→List Nat}{pc:Nat}
theorem Way.lt (p:Pro k n nx st)(w:Way k nx st pc d e):pc<n∧d≤k∧e≤k:=by
 induction w with
 | start h=>exact ⟨p.pos,h,h⟩
 | step w hb hq ih=>
  have h1:=p.nx _ ih.1 _ hq;exact ⟨by omega,ih.2.1,(DV (p.st _ ih.1) hb).2⟩
theorem KG (hp:pc<n):(eC k n nx st).getD pc []=wD k (Way k nx st pc):=by simp[eC,List.getD,hp]
theorem qN (k n:Nat)(nx:Nat→List Int)(st:Nat→List Nat):Tb k n (eC k n nx st):=by refine ⟨by simp[eC],fun r hr=>?_⟩;obtain ⟨pc,_,rfl⟩:=List.mem_map.1 hr;exact qM _ _
theorem gI (p:Pro k n nx st)(hp:pc<n):bt ((eC k n nx st).getD pc []) d e=true↔Way k nx st pc d e:=by rw[KG hp,tW];exact ⟨fun h=>h.2.2,fun h=>⟨(h.lt p).2.1,(h.lt p).2.2,h⟩⟩
theorem AP (p:Pro k n nx st):ClT k n nx st (eC k n nx st):=by
 have tb:=qN k n nx st;refine ⟨tb,fun d e h=>?_,fun pc hp q hq d e h=>?_⟩
 ·obtain ⟨h1,h2,h3⟩:=SQ.1 h;have:d=e:=by omega
  subst this;exact (gI p p.pos).2 (.start h1)
 ·obtain ⟨f,h1,h2⟩:=(iM (tb.get hp) (p.st pc hp)).1 h;have h3:=p.nx pc hp q hq;exact (gI p (by omega)).2 (.step ((gI p hp).1 h1) h2 hq)
theorem ClT.way (p:Pro k n nx st)(c:ClT k n nx st T)(w:Way k nx st pc d e):bt (T.getD pc []) d e=true:=by
 induction w with
 | start h=>exact c.id _ _ (SQ.2 ⟨h,h,by omega⟩)
 | step w hb hq ih=>
  have h1:=(w.lt p).1;exact c.at' _ h1 _ hq _ _ ((iM (c.tb.get h1) (p.st _ h1)).2 ⟨_,ih,hb⟩)
theorem ClT.least (p:Pro k n nx st)(c:ClT k n nx st T):nX (eC k n nx st) T:=
 wF (qN k n nx st) fun i hi d e h=>c.way p ((gI p hi).1 h)
theorem ClT.eq (p:Pro k n nx st)(c:ClT k n nx st T)(h:nX T (eC k n nx st)):T=eC k n nx st:=
 nX.Cv c.tb (qN k n nx st) h (c.least p)
theorem Way.mono {st':Nat→List Nat}(h:∀pc,Sub (st pc) (st' pc))(w:Way k nx st pc d e):Way k nx st' pc d e:=by
 induction w with
 | start h=>exact .start h
 | step w hb hq ih=>exact .step ih (h _ _ _ hb) hq
theorem SS {k n:Nat}{A B:List (List Nat)}(ha:Tb k n A)(hb:Tb k n B)(h:nX A B):tot A≤tot B∧(A≠B→tot A<tot B):=by
 have e:∀T:List (List Nat),∀d,(T.map List.sum).getD d 0=(T.getD d []).sum:=fun T d=>wG;have h1:∀d,(A.map List.sum).getD d 0≤(B.map List.sum).getD d 0:=fun d=>by
  rw[e,e];by_cases hd:d<n
  ·exact (S7 (ha.get hd) (hb.get hd) (h d)).1
  ·rw[List.getD_eq_getElem?_getD,List.getElem?_eq_none (by rw[ha.1];omega)];simp
 obtain ⟨h2,h3⟩:=C2 (a:=A.map List.sum) (b:=B.map List.sum) (by simp[ha.1,hb.1]) h1;refine ⟨h2,fun hne=>h3 fun he=>hne ?_⟩;refine nX.Cv ha hb h (wF hb fun i hi=>?_);have h4:=congrArg (fun l=>l.getD i 0) he;simp only[e]at h4;by_cases h5:A.getD i []=B.getD i []
 ·rw[h5];exact Sub.refl _
 ·have:=(S7 (ha.get hi) (hb.get hi) (h i)).2 h5;omega
section
variable (u:Un)(c:Clo)(m:Nat)
def kM:Nat:=lY (u.mutexes.getD m v8)
def itI (i:Nat):z8:=c.insts.getD i l5
def eQ (i pc:Nat):Ins:=(c7 u (itI c i)).getD pc g6
def u7 (i:Nat):Nat:=(c7 u (itI c i)).length
def cW (i pc:Nat):Nat:=((c.calls.getD i []).getD pc 0).toNat
def nxI (i pc:Nat):List Int:=w6 (eQ u c i pc) pc
def stS (S:List (List Nat))(i pc:Nat):List Nat:=if (eQ u c i pc).op=2 then S.getD (cW c i pc) [] else dhN (kM u m) (chI (itI c i) (eQ u c i pc) m)
noncomputable def fR (S:List (List Nat))(i:Nat):List (List Nat):=eC (kM u m) (u7 u c i) (nxI u c i) (stS u c m S i)
noncomputable def S8 (i:Nat)(T:List (List Nat))(j:Nat):List Nat:=wD (kM u m) fun d e=>∃pc,pc<j∧(eQ u c i pc).op=8∧bt (T.getD pc []) d e=true
noncomputable def exT (S:List (List Nat))(i:Nat):List Nat:=S8 u c m i (fR u c m S i) (u7 u c i)
noncomputable def yD (S:List (List Nat)):List (List Nat):=(List.range c.insts.length).map fun i=>exT u c m S i
def wH:List (List Nat):=List.replicate c.insts.length (List.replicate (kM u m+1) 0)
inductive Inn:Nat→Nat→Nat→Nat→Prop
 | start {i d:Nat}:d≤kM u m→Inn i 0 d d
 | step {i pc d e f:Nat} {q:Int}:Inn i pc d e→(eQ u c i pc).op≠2→bt (dhN (kM u m) (chI (itI c i) (eQ u c i pc) m)) e f=true→q∈nxI u c i pc→Inn i q.toNat d f
 | call {i pc d e f p:Nat} {q:Int}:Inn i pc d e→(eQ u c i pc).op=2→Inn (cW c i pc) p e f→(eQ u c (cW c i pc) p).op=8→q∈nxI u c i pc→Inn i q.toNat d f
noncomputable def w9:List (List Nat):=(List.range c.insts.length).map fun i=>wD (kM u m) fun d e=>∃pc,pc<u7 u c i∧(eQ u c i pc).op=8∧Inn u c m i pc d e
end
section
variable {u:Un}{c:Clo}{m:Nat}
theorem dN:kM u m≤8:=C0
variable {i:Nat}
theorem dE (wc:WC u c)(hi:i<c.insts.length):WIt u (itI c i):=wc.wi _ (g8 hi)
variable {pc:Nat}
theorem jN (hu:WU u)(wc:WC u c)(hi:i<c.insts.length)(hp:pc<u7 u c i)(ho:(eQ u c i pc).op=2):cW c i pc<c.insts.length:=by have h1:=((wc.call i hi pc hp).1 (.inl ho));unfold cW;omega
variable {S:List (List Nat)}
theorem KH (hu:WU u)(wc:WC u c)(hS:Tb (kM u m) c.insts.length S)(hi:i<c.insts.length):Pro (kM u m) (u7 u c i) (nxI u c i) (stS u c m S i):=by
 have w:=dE wc hi;refine ⟨(eL hu w).1,fun pc hp q hq=>?_,fun pc hp=>?_⟩
 ·obtain ⟨d,hd,rfl⟩:=List.getElem_of_mem hq;have h:=next_in hu w hp d hd;have e:(w6 ((c7 u (itI c i)).getD pc g6) pc).getD d 0=(nxI u c i pc)[d]:=by show (nxI u c i pc).getD d 0=_;simp[List.getD,hd]
  rw[←e];exact h
 ·unfold stS;split
  ·rename_i ho;exact hS.get (jN hu wc hi hp ho)
  ·exact Cw _ _
theorem cP (S:List (List Nat))(i:Nat):Tb (kM u m) (u7 u c i) (fR u c m S i):=qN _ _ _ _
variable {T:List (List Nat)}{j d e:Nat}
theorem S9 (hT:Tb (kM u m) (u7 u c i) T)(hj:j≤u7 u c i):bt (S8 u c m i T j) d e=true↔∃pc,pc<j∧(eQ u c i pc).op=8∧bt (T.getD pc []) d e=true:=by rw[S8,tW];refine ⟨fun h=>h.2.2,fun h=>?_⟩;obtain ⟨pc,h1,h2,h3⟩:=h;have:=DV (hT.get (i:=pc) (by omega)) h3;exact ⟨this.1,this.2,pc,h1,h2,h3⟩
theorem rT (i:Nat)(T:List (List Nat))(j:Nat):Rl (kM u m) (S8 u c m i T j):=qM _ _
theorem L0 (i:Nat)(T:List (List Nat)):S8 u c m i T 0=List.replicate (kM u m+1) 0:=
 KF (qM _ _) (S6 _) fun d e=>by
  rw[wB,S8,tW];constructor
  ·rintro ⟨_,_,pc,h,_⟩;omega
  ·intro h;cases h
theorem AQ (hT:Tb (kM u m) (u7 u c i) T)(hj:j<u7 u c i)(ho:(eQ u c i j).op=8):S8 u c m i T (j+1)=dD (S8 u c m i T j) (T.getD j []):=
 KF (rT i T (j+1)) (qK (rT i T j) (hT.get hj)) fun d e=>by
  rw[tV (rT i T j) (hT.get hj),S9 hT hj,S9 hT (Nat.le_of_lt hj)];constructor
  ·rintro ⟨pc,h1,h2,h3⟩;by_cases e:pc=j
   ·subst e;exact .inr h3
   ·exact .inl ⟨pc,by omega,h2,h3⟩
  ·rintro (⟨pc,h1,h2,h3⟩ | h)
   ·exact ⟨pc,by omega,h2,h3⟩
   ·exact ⟨j,by omega,ho,h⟩
theorem KI (ho:¬(eQ u c i j).op=8):S8 u c m i T (j+1)=S8 u c m i T j:=by
 unfold S8;refine congrArg (wD _) (funext fun d=>funext fun e=>propext ?_);constructor
 ·rintro ⟨pc,h1,h2,h3⟩;refine ⟨pc,?_,h2,h3⟩;by_cases e:pc=j
  ·subst e;exact absurd h2 ho
  ·omega
 ·rintro ⟨pc,h1,h2,h3⟩;exact ⟨pc,by omega,h2,h3⟩
theorem L2 (S:List (List Nat))(i:Nat):Rl (kM u m) (exT u c m S i):=qM _ _
theorem wI (hu:WU u)(wc:WC u c)(hS:Tb (kM u m) c.insts.length S)(hi:i<c.insts.length):bt (exT u c m S i) d e=true↔∃pc,pc<u7 u c i∧(eQ u c i pc).op=8∧Way (kM u m) (nxI u c i) (stS u c m S i) pc d e:=by
 rw[exT,S9 (cP S i) (Nat.le_refl _)];constructor
 ·rintro ⟨pc,h1,h2,h3⟩;exact ⟨pc,h1,h2,(gI (KH hu wc hS hi) h1).1 h3⟩
 ·rintro ⟨pc,h1,h2,h3⟩;exact ⟨pc,h1,h2,(gI (KH hu wc hS hi) h1).2 h3⟩
theorem SU {S':List (List Nat)}(h:nX S S')(i pc:Nat):Sub (stS u c m S i pc) (stS u c m S' i pc):=by
 unfold stS;split
 ·exact h _
 ·exact Sub.refl _
theorem C4 (hu:WU u)(wc:WC u c){S':List (List Nat)}(hS:Tb (kM u m) c.insts.length S)(hS':Tb (kM u m) c.insts.length S')(h:nX S S')(hi:i<c.insts.length):Sub (exT u c m S i) (exT u c m S' i):=fun d e hb=>by obtain ⟨pc,h1,h2,h3⟩:=(wI hu wc hS hi).1 hb;exact (wI hu wc hS' hi).2 ⟨pc,h1,h2,h3.mono fun pc=>SU h i pc⟩
theorem jZ (S:List (List Nat)):Tb (kM u m) c.insts.length (yD u c m S):=by refine ⟨by simp[yD],fun r hr=>?_⟩;obtain ⟨i,_,rfl⟩:=List.mem_map.1 hr;exact L2 S i
theorem tX (hi:i<c.insts.length):(yD u c m S).getD i []=exT u c m S i:=by simp[yD,List.getD,hi]
theorem SV:Tb (kM u m) c.insts.length (wH u c m):=⟨by simp[wH],fun r hr=>by rw[List.eq_of_mem_replicate hr];exact S6 _⟩
theorem zero_sub {b:List Nat}:Sub ((wH u c m).getD i []) b:=fun d e h=>by
 have:bt ((wH u c m).getD i []) d e=false:=by
  unfold wH;rw[List.getD_eq_getElem?_getD,List.getElem?_replicate];split
  ·exact wB
  ·simp[bt]
 rw[this]at h;cases h
theorem KJ:nX (wH u c m) S:=fun i=>zero_sub
theorem p9:Tb (kM u m) c.insts.length (w9 u c m):=by refine ⟨by simp[w9],fun r hr=>?_⟩;obtain ⟨i,_,rfl⟩:=List.mem_map.1 hr;exact qM _ _
theorem SW (hi:i<c.insts.length):(w9 u c m).getD i []=wD (kM u m) fun d e=>∃pc,pc<u7 u c i∧(eQ u c i pc).op=8∧Inn u c m i pc d e:=by simp[w9,List.getD,hi]
theorem Inn.lt (hu:WU u)(wc:WC u c)(h:Inn u c m i pc d e):i<c.insts.length→pc<u7 u c i∧d≤kM u m∧e≤kM u m:=by
 induction h with
 | start h=>exact fun hi=>⟨(eL hu (dE wc hi)).1,h,h⟩
 | step h ho hb hq ih=>
  intro hi;have h1:=ih hi;have p:=KH hu wc (S:=w9 u c m) p9 hi;have h2:=p.nx _ h1.1 _ hq;exact ⟨by omega,h1.2.1,(SQ.1 hb).2.1⟩
 | call h ho h2 ho2 hq ih ih2=>
  intro hi;have h1:=ih hi;have p:=KH hu wc (S:=w9 u c m) p9 hi;have h3:=p.nx _ h1.1 _ hq;exact ⟨by omega,h1.2.1,(ih2 (jN hu wc hi h1.1 ho)).2.2⟩
theorem oT (hu:WU u)(wc:WC u c)(hi:i<c.insts.length):bt ((w9 u c m).getD i []) d e=true↔∃pc,pc<u7 u c i∧(eQ u c i pc).op=8∧Inn u c m i pc d e:=by rw[SW hi,tW];refine ⟨fun h=>h.2.2,fun ⟨pc,h1,h2,h3⟩=>?_⟩;have:=h3.lt hu wc hi;exact ⟨this.2.1,this.2.2,pc,h1,h2,h3⟩
theorem T3 (hu:WU u)(wc:WC u c)(hi:i<c.insts.length)(w:Way (kM u m) (nxI u c i) (stS u c m (w9 u c m) i) pc d e):Inn u c m i pc d e:=by
 induction w with
 | start h=>exact .start h
 | step w hb hq ih=>
  have h1:=(ih.lt hu wc hi).1;unfold stS at hb;split at hb
  ·rename_i ho;obtain ⟨p,h2,h3,h4⟩:=(oT hu wc (jN hu wc hi h1 ho)).1 hb;exact .call ih ho h4 h3 hq
  ·rename_i ho;exact .step ih ho hb hq
theorem T4 (hu:WU u)(wc:WC u c)(hS:Tb (kM u m) c.insts.length S)(hc:∀i,i<c.insts.length→Sub (exT u c m S i) (S.getD i []))(h:Inn u c m i pc d e):i<c.insts.length→Way (kM u m) (nxI u c i) (stS u c m S i) pc d e:=by
 induction h with
 | start h=>exact fun _=>.start h
 | step h ho hb hq ih=>
  intro hi;exact .step (ih hi) (by unfold stS;rw[if_neg ho];exact hb) hq
 | call h ho h2 ho2 hq ih ih2=>
  intro hi;have h1:=(h.lt hu wc hi).1;have hj:=jN hu wc hi h1 ho;exact .step (ih hi) (by unfold stS;rw[if_pos ho];exact hc _ hj _ _ ((wI hu wc hS hj).2 ⟨_,(h2.lt hu wc hj).1,ho2,ih2 hj⟩)) hq
theorem T5 (hu:WU u)(wc:WC u c)(hi:i<c.insts.length):exT u c m (w9 u c m) i=(w9 u c m).getD i []:=by
 have h1:Sub (exT u c m (w9 u c m) i) ((w9 u c m).getD i []):=fun d e hb=>by obtain ⟨pc,h1,h2,h3⟩:=(wI hu wc p9 hi).1 hb;exact (oT hu wc hi).2 ⟨pc,h1,h2,T3 hu wc hi h3⟩
 refine Sub.Cv (L2 _ _) (p9.get hi) h1 fun d e hb=>?_;obtain ⟨pc,h2,h3,h4⟩:=(oT hu wc hi).1 hb;refine (wI hu wc p9 hi).2 ⟨pc,h2,h3,T4 hu wc p9 (fun j hj d e hb=>?_) h4 hi⟩;obtain ⟨pc,h1,h2,h3⟩:=(wI hu wc p9 hj).1 hb;exact (oT hu wc hj).2 ⟨pc,h1,h2,T3 hu wc hj h3⟩
theorem KK (hu:WU u)(wc:WC u c)(hS:Tb (kM u m) c.insts.length S)(hc:∀i,i<c.insts.length→Sub (exT u c m S i) (S.getD i [])):nX (w9 u c m) S:=
 wF p9 fun i hi d e hb=>by obtain ⟨pc,h2,h3,h4⟩:=(oT hu wc hi).1 hb;exact hc i hi _ _ ((wI hu wc hS hi).2 ⟨pc,h2,h3,T4 hu wc hS hc h4 hi⟩)
theorem WR (hu:WU u)(wc:WC u c)(hS:Tb (kM u m) c.insts.length S)(hs:nX S (w9 u c m))(hc:∀i,i<c.insts.length→exT u c m S i=S.getD i []):S=w9 u c m:=
 nX.Cv hS p9 hs (KK hu wc hS fun i hi=>by rw[hc i hi];exact Sub.refl _)
theorem wJ (hu:WU u)(wc:WC u c)(hS:Tb (kM u m) c.insts.length S)(hs:nX S (w9 u c m))(hi:i<c.insts.length):Sub (exT u c m S i) ((w9 u c m).getD i []):=by rw[←T5 hu wc hi];exact C4 hu wc hS p9 hs hi
theorem L3 (hu:WU u)(wc:WC u c)(hS:Tb (kM u m) c.insts.length S)(hs:nX S (w9 u c m)):nX (yD u c m S) (w9 u c m):=
 wF (jZ S) fun i hi=>by rw[tX hi];exact wJ hu wc hS hs hi
structure Low (u:Un)(c:Clo)(m:Nat)(S:List (List Nat)):Prop where
 tb:Tb (kM u m) c.insts.length S
 up:∀i,i<c.insts.length→Sub (S.getD i []) (exT u c m S i)
 le:nX S (w9 u c m)
theorem Low.zero:Low u c m (wH u c m):=⟨SV,fun i _=>zero_sub,KJ⟩
theorem Low.set (hu:WU u)(wc:WC u c)(h:Low u c m S)(hi:i<c.insts.length):Low u c m (S.set i (exT u c m S i))∧nX S (S.set i (exT u c m S i)):=by
 have tb':Tb (kM u m) c.insts.length (S.set i (exT u c m S i)):=h.tb.set (L2 _ _);have hl:i<S.length:=by rw[h.tb.1];exact hi
 have hs:nX S (S.set i (exT u c m S i)):=fun j=>by
  rw[eI hl];split
  ·rename_i e;subst e;exact h.up j hi
  ·exact Sub.refl _
 refine ⟨⟨tb',fun j hj=>?_,fun j=>?_⟩,hs⟩
 ·have:=C4 hu wc h.tb tb' hs hj;rw[eI hl];split
  ·rename_i e;subst e;exact this
  ·exact (h.up j hj).trans this
 ·rw[eI hl];split
  ·rename_i e;subst e;exact wJ hu wc h.tb h.le hi
  ·exact h.le j
theorem Low.round (hu:WU u)(wc:WC u c)(h:Low u c m S):Low u c m (yD u c m S)∧nX S (yD u c m S):=by
 have hs:nX S (yD u c m S):=wF h.tb fun i hi=>by rw[tX hi];exact h.up i hi
 exact ⟨⟨jZ S,fun i hi=>by rw[tX hi];exact C4 hu wc h.tb (jZ S) hs hi,L3 hu wc h.tb h.le⟩,hs⟩
theorem Low.done (hu:WU u)(wc:WC u c)(h:Low u c m S)(he:yD u c m S=S):S=w9 u c m:=
 WR hu wc h.tb h.le fun i hi=>by rw[←tX hi,he]
end
theorem L4 {k:Nat}{r:List Nat}(hr:Rl k r){s j:Nat}:(applyN r s).testBit j=true↔∃d,s.testBit d=true∧bt r d j=true:=by
 rw[yA];constructor
 ·rintro ⟨d,_,h1,h2⟩;exact ⟨d,h1,h2⟩
 ·rintro ⟨d,h1,h2⟩;exact ⟨d,by have:=(DV hr h2).1;have:=hr.1;omega,h1,h2⟩
theorem jO {k:Nat}{r:List Nat}(hr:Rl k r)(s:Nat):applyN r s<2^(k+1):=qL hr.2 s _
section
variable (u:Un)(c:Clo)(m:Nat)
inductive MZ:Nat→Nat→Prop
 | root {i:Nat}:(i:Int)∈c.roots→MZ i 0
 | call {i pc d e:Nat}:MZ i d→Inn u c m i pc d e→(eQ u c i pc).op=2→MZ (cW c i pc) e
noncomputable def cN:List Nat:=(List.range c.insts.length).map fun i=>oD (MZ u c m i) (kM u m+1)
noncomputable def inS (i:Nat):List (List Nat):=fR u c m (w9 u c m) i
noncomputable def AR (i:Nat):List Nat:=(inS u c m i).map fun r=>applyN r ((cN u c m).getD i 0)
noncomputable def KL:List (List Nat):=(List.range c.insts.length).map (AR u c m)
noncomputable def Ql:List Nat:=(List.range c.insts.length).map fun i=>applyN ((w9 u c m).getD i []) ((cN u c m).getD i 0)
def Es (E:List Nat):Prop:=E.length=c.insts.length∧∀x∈E,x<2^(kM u m+1)
def ClE (E:List Nat)(i pc:Nat):Prop:=(eQ u c i pc).op=2→∀j,(applyN ((inS u c m i).getD pc []) (E.getD i 0)).testBit j=true→bt E (cW c i pc) j=true
end
section
variable {u:Un}{c:Clo}{m:Nat}
variable {E:List Nat}
theorem Es.lt (h:Es u c m E):∀x∈E,x<512:=fun x hx=>Nat.lt_of_lt_of_le (h.2 x hx) (oC dN).2
theorem Es.get (h:Es u c m E)(i:Nat):E.getD i 0<2^(kM u m+1):=nK h.2 i
variable {i x:Nat}
theorem Es.set (h:Es u c m E)(hx:x<2^(kM u m+1)):Es u c m (E.set i x):=by
 refine ⟨by rw[List.length_set];exact h.1,fun y hy=>?_⟩;rcases List.mem_or_eq_of_mem_set hy with hy | rfl
 ·exact h.2 y hy
 ·exact hx
theorem Es.zero:Es u c m (List.replicate c.insts.length 0):=⟨by simp,fun x hx=>by rw[List.eq_of_mem_replicate hx];exact Nat.two_pow_pos _⟩
theorem oU:Es u c m (cN u c m):=by refine ⟨by simp[cN],fun r hr=>?_⟩;obtain ⟨i,_,rfl⟩:=List.mem_map.1 hr;exact wC _
variable {d:Nat}
theorem MZ.lt (hu:WU u)(wc:WC u c)(h:MZ u c m i d):i<c.insts.length∧d≤kM u m:=by
 induction h with
 | root h=>have:=wc.rr _ h;exact ⟨by omega,Nat.zero_le _⟩
 | call h h2 ho ih=>have h3:=h2.lt hu wc ih.1;exact ⟨jN hu wc ih.1 h3.1 ho,h3.2.2⟩
theorem hC (hu:WU u)(wc:WC u c):bt (cN u c m) i d=true↔MZ u c m i d:=by
 unfold bt;by_cases hi:i<c.insts.length
 ·rw[cN,nJ hi,rS];exact ⟨fun h=>h.2,fun h=>⟨by have:=(h.lt hu wc).2;omega,h⟩⟩
 ·rw[List.getD_eq_getElem?_getD,List.getElem?_eq_none (by simp[cN];omega)];constructor
  ·intro h;simp at h
  ·intro h;exact absurd (h.lt hu wc).1 hi
theorem wK (i:Nat):Tb (kM u m) (u7 u c i) (inS u c m i):=cP _ _
variable {pc e:Nat}
theorem WS (hu:WU u)(wc:WC u c)(hi:i<c.insts.length)(hp:pc<u7 u c i):bt ((inS u c m i).getD pc []) d e=true↔Inn u c m i pc d e:=by unfold inS fR;rw[gI (KH hu wc p9 hi) hp];refine ⟨T3 hu wc hi,fun h=>T4 hu wc p9 (fun j hj=>?_) h hi⟩;rw[T5 hu wc hj];exact Sub.refl _
theorem C5 (hu:WU u)(wc:WC u c)(hi:i<c.insts.length)(hp:pc<u7 u c i):(applyN ((inS u c m i).getD pc []) (E.getD i 0)).testBit e=true↔∃d,bt E i d=true∧Inn u c m i pc d e:=by
 rw[L4 ((wK i).get hp)];constructor
 ·rintro ⟨d,h1,h2⟩;exact ⟨d,h1,(WS hu wc hi hp).1 h2⟩
 ·rintro ⟨d,h1,h2⟩;exact ⟨d,h1,(WS hu wc hi hp).2 h2⟩
theorem AS (hp:pc<u7 u c i):(AR u c m i).getD pc 0=applyN ((inS u c m i).getD pc []) ((cN u c m).getD i 0):=by have:=(wK (u:=u) (c:=c) (m:=m) i).1;simp[AR,List.getD,this,hp]
theorem C6:(AR u c m i).length=u7 u c i:=by rw[AR,List.length_map];exact (wK i).1
theorem AT (hu:WU u)(wc:WC u c)(hi:i<c.insts.length)(hp:pc<u7 u c i):((AR u c m i).getD pc 0).testBit e=true↔∃d,MZ u c m i d∧Inn u c m i pc d e:=by
 rw[AS hp,C5 hu wc hi hp];constructor
 ·rintro ⟨d,h1,h2⟩;exact ⟨d,(hC hu wc).1 h1,h2⟩
 ·rintro ⟨d,h1,h2⟩;exact ⟨d,(hC hu wc).2 h1,h2⟩
theorem KM (hp:pc<u7 u c i):(AR u c m i).getD pc 0<2^(kM u m+1):=by rw[AS hp];exact jO ((wK i).get hp) _
theorem entT_cl (hu:WU u)(wc:WC u c)(hi:i<c.insts.length)(hp:pc<u7 u c i):ClE u c m (cN u c m) i pc:=fun ho j hj=>by obtain ⟨d,h1,h2⟩:=(C5 hu wc hi hp).1 hj;exact (hC hu wc).2 (.call ((hC hu wc).1 h1) h2 ho)
theorem KN (hu:WU u)(wc:WC u c)(hr:∀i:Nat,(i:Int)∈c.roots→bt E i 0=true)(hc:∀i pc,i<c.insts.length→pc<u7 u c i→ClE u c m E i pc):Sub (cN u c m) E:=fun i d h=>by
 have h1:=(hC hu wc).1 h;clear h;induction h1 with
 | root h=>exact hr _ h
 | call h h2 ho ih=>
  have hi:=(h.lt hu wc).1;have hp:=(h2.lt hu wc hi).1;exact hc _ _ hi hp ho _ ((C5 hu wc hi hp).2 ⟨_,ih,h2⟩)
theorem es_anti {F:List Nat}(he:Es u c m E)(hf:Es u c m F)(h1:Sub E F)(h2:Sub F E):E=F:=by refine List.ext_getElem (by rw[he.1,hf.1]) fun d k1 k2=>?_;have:=rR (a:=E.getD d 0) (b:=F.getD d 0) fun j=>⟨h1 d j,h2 d j⟩;simpa [List.getD,k1,k2] using this
theorem ent_eq (hu:WU u)(wc:WC u c)(he:Es u c m E)(hs:Sub E (cN u c m))(hr:∀i:Nat,(i:Int)∈c.roots→bt E i 0=true)(hc:∀i pc,i<c.insts.length→pc<u7 u c i→ClE u c m E i pc):E=cN u c m:=
 es_anti he oU hs (KN hu wc hr hc)
theorem yE {j:Nat}(hi:i<E.length):bt (E.set i x) j e=if j=i then x.testBit e else bt E j e:=by
 unfold bt;simp only[List.getD_eq_getElem?_getD];by_cases h:j=i
 ·subst h;simp[hi]
 ·rw[List.getElem?_set_ne (Ne.symm h),if_neg h]
theorem WT (h:Es u c m E):E.sum≤512*c.insts.length:=by rw[←h.1];exact nM fun x hx=>Nat.le_of_lt (h.lt x hx)
theorem SX (hi:i<E.length)(hs:∀j,bt E i j=true→x.testBit j=true)(hne:E.getD i 0≠x):E.sum<(E.set i x).sum:=by have h1:=oS (l:=E) (i:=i) (x:=x) hi;have h2:E.getD i 0≤x:=yC hs;omega
end
end Go.Un
end
section
namespace Go.Proofs.YtonbocmibeikmaaGreat
open Go.Ab Go.Un
theorem KO (l:List Nat):l.map j4=g5 (l.map fun n:Nat=>(n:Int)):=by simp[g5,j4,Function.comp_def]
theorem KP (l:List Nat):bL l=.vec (l.map fun n:Nat=>(n:Int)).length (g5 (l.map fun n:Nat=>(n:Int))):=by simp[bL,KO]
variable {n len:Nat}{a:List Nat}
theorem AU {β g:Nat}{H:c5}(hb:H[β]?=some ⟨g,false,3,1,a.map j4,0⟩)(hn:n≤β)(hl:a.length=len):iQ n H 6 (.own β g 0 len)=some (.vec len (a.map j4)):=by rw[KO]at hb ⊢;exact K7 hb hn t170
def UpN (v:Nat→Nat)(i:Nat)(zs:List Nat):Prop:=(∀d,d<i→zs.getD d 0=v d)∧(∀d,i≤d→zs.getD d 0=0)
theorem UpN.zero (v:Nat→Nat)(n:Nat):UpN v 0 (List.replicate n 0):=by refine ⟨fun d hd=>by omega,fun d _=>?_⟩;rw[List.getD_eq_getElem?_getD,List.getElem?_replicate];split<;>rfl
variable {v:Nat→Nat}{zs:List Nat}{i:Nat}
theorem UpN.set {x:Nat}(hi:i<zs.length)(h:UpN v i zs)(hx:x=v i):UpN v (i+1) (zs.set i x):=by
  refine ⟨fun d hd=>?_,fun d hd=>?_⟩
  · by_cases e:d=i
    · subst e;simp[List.getD,hi,hx]
    · have:=h.1 d (by omega)
      simp only[List.getD_eq_getElem?_getD,List.getElem?_set_ne (Ne.symm e)]at this ⊢;exact this
  · have:=h.2 d (by omega)
    simp only[List.getD_eq_getElem?_getD,List.getElem?_set_ne (show i≠d from by omega)]at this ⊢;exact this
theorem UpN.skip (h:UpN v i zs)(hv:v i=0):UpN v (i+1) zs:=by
  refine ⟨fun d hd=>?_,fun d hd=>h.2 d (by omega)⟩;by_cases e:d=i
  · subst e;rw[h.2 d (Nat.le_refl _),hv]
  · exact h.1 d (by omega)
theorem UpN.all2 (h:UpN v i zs)(hl:zs.length=n)(hi:∀d,i≤d→d<n→v d=0):zs=(List.range n).map v:=by
  refine List.ext_getElem (by simp[hl]) fun d k1 k2=>?_;by_cases hd:d<i
  · have:=h.1 d hd
    simp;simpa [List.getD,k1] using this
  · have:=h.2 d (by omega)
    have e:=hi d (by omega) (by omega);simp[e];simpa [List.getD,k1] using this
theorem UpN.all (h:UpN v i zs)(hl:zs.length=n)(hi:n≤i):zs=(List.range n).map v:=h.all2 hl fun d h1 h2=>by omega
theorem AW (k:Nat)(n:Int):AV.vec (shI k n).length (g5 (shI k n))=bL (dhN k n):=by
  have:shI k n=(dhN k n).map fun n:Nat=>(n:Int):=by unfold shI dhN;rw[List.map_map];refine List.map_congr_left fun d _=>?_;unfold shV dhV;simp only[Function.comp_apply];split<;>simp
  rw[KP,this]
def s7 (T:List (List Nat)):List AV:=T.map bL
variable {T:List (List Nat)}
theorem s3:(s7 T).length=T.length:=List.length_map _
theorem qO (h:i<T.length):List.take 1 (List.drop i (s7 T))=[bL (T.getD i [])]:=by unfold s7;rw[←List.map_drop,←List.map_take,List.drop_eq_getElem_cons h,List.take_succ_cons,List.take_zero];simp[List.getD,h]
theorem overT {r:List Nat}(h:i<T.length):List.take i (s7 T)++bL r::List.drop (i+1) (s7 T)=s7 (T.set i r):=by unfold s7;rw[←List.map_drop,←List.map_take,List.set_eq_take_append_cons_drop,if_pos h];simp
theorem ext_T {a b:List (List Nat)}(hl:a.length=b.length)(h:∀d,d<a.length→a.getD d []=b.getD d []):a=b:=by refine List.ext_getElem hl fun d k1 k2=>?_;have:=h d k1;simpa [List.getD,k1,k2] using this
theorem ext_N {b:List Nat}(hl:a.length=b.length)(h:∀d,d<a.length→a.getD d 0=b.getD d 0):a=b:=by refine List.ext_getElem hl fun d k1 k2=>?_;have:=h d k1;simpa [List.getD,k1,k2] using this
theorem AX (l:List Nat):aC (l.map j4):=aC.map fun _=>.int
theorem Db (T:List (List Nat)):aC (s7 T):=aC.map fun _=>.vec
theorem SY {β g:Nat}{H:c5}{a:List (List Nat)}(hb:H[β]?=some ⟨g,false,22,1,s7 a,0⟩)(hn:n≤β)(hl:a.length=len):iQ n H 6 (.own β g 0 len)=some (.vec len (s7 a)):=by subst hl;rw[dK,if_neg (by omega),gH,hb];simp only[hn,and_self,if_true,Bool.false_eq_true,if_false,Nat.zero_add,Nat.mul_one,s3,Nat.le_refl,List.drop_zero];rw[List.take_of_length_le (by rw[s3];exact Nat.le_refl _),(Db a).frz]
theorem SZ {b:List Nat}:(a.map (fun n:Nat=>(n:Int))=b.map (fun n:Nat=>(n:Int)))↔a=b:=List.map_inj_right (fun x y h=>by exact_mod_cast h)
variable {h:c5}
theorem C7 (a b:List Nat)(hl:a.length<1000000):CB 31 [bL a,bL b] h (.bool (decide (a=b))):=by rw[KP,KP];refine (WE _ _ t170).mono fun r h' ⟨h1,h2⟩=>⟨h1.trans ?_,h2⟩;exact congrArg AV.bool (decide_eq_decide.2 SZ)
theorem KQ {k:Nat}(h:k≤8):IntKind.wrap .i64 (1*2^(min (k+1) 64))=((2^(k+1):Nat):Int):=by rw[shl1M (by omega)];simp
attribute [local go_sem] rd bL l6 Int.natCast_nonneg Int.natCast_inj mP oB mQ testN hasN orN KQ List.length_set List.length_replicate Int.toNat_natCast_add_one gY List.length_map wrap64 zY max2 iW qO s3
theorem c_in8 (s:Nat)(d:Int)(hs:s<512):CB 52 [.int .i64 ((s:Nat):Int),.int .i64 d] h (.bool (hasD s d)):=by
  refine .bz Tryz.f52 18 ?_;refine c91z ?_;refine .spl 7 rfl rfl (fun e1=>?_) (fun e1=>?_)
  ·try simp only[e1]
   have qe1:=fact e1;refine .k 4 [(2,7)] ?_;refine .spl 11 rfl rfl (fun e2=>?_) (fun e2=>?_)
   ·try simp only[e2]
    have qe2:=fact e2;refine .m [(6,11)] ?_;refine c3z ?_;exact ⟨[],_,(List.append_nil _).symm,t40,t75⟩
   try simp only[e2]
   have qe2:=fact e2;refine .m [(6,11)] ?_;refine c3z ?_;exact ⟨[],_,(List.append_nil _).symm,t40,t75⟩
  try simp only[e1]
  have qe1:=fact e1;refine .k 8 [(2,7),(6,11)] ?_;refine .m [(6,11)] ?_;refine c3z ?_;exact ⟨[],_,(List.append_nil _).symm,t40,t75⟩
theorem c_inN (s i:Nat)(hs:s<512)(hi:i≤8):CB 52 [.int .i64 ((s:Nat):Int),.int .i64 ((i:Nat):Int)] h (.bool (s.testBit i)):=by rw[←hasN hi];exact c_in8 s _ hs
theorem c_appM (r:List Nat)(s:Nat)(hr:∀x∈r,x<512)(hs:s<512)(hl:r.length≤9):CB 68 [bL r,.int .i64 ((s:Nat):Int)] h (.int .i64 ((applyN r s:Nat):Int)):=by
  refine .bz Tryz.f68 25 ?_;refine c59z ?_;refine .bX (fun m st=>∃(i:Nat),(m=r.length-i∧i≤r.length)∧st=⟨mkS 25 [(1,AV.int .i64 ((s:Nat):Int)),(5,AV.int .i64 ((cB r s i:Nat):Int)),(8,bL r),(9,AV.int .i64 ((r.length:Nat):Int)),(10,AV.int .i64 ((i:Nat):Int))],h⟩) _ (.v ⟨0,⟨rfl,by omega⟩,rfl⟩ (hs:=t43)) ?_;rintro m sl h' ⟨i,⟨hm,hi⟩,hst⟩;obtain ⟨rfl,rfl⟩:=St.mk.inj hst;have hacc:=nI hr s i;have hgi:=gD hr i;refine c13z ?_;refine u2z ?_ ?_
  ·intro e1 qe1;refine c58z ?_;refine .z ?_;refine u2z ?_ ?_
   ·intro e2 qe2;refine .c6 [1,5,7,8,9,10] ?_;refine c48z ?_;exact ⟨_,by omega,.v ⟨(i+1),⟨rfl,by omega⟩,rfl⟩ (hs:=t43)⟩
   intro e2 qe2;refine c4z ?_;refine .c6 [1,5,8,9,10] ?_;refine .rz ?_;exact ⟨_,by omega,.v ⟨(i+1),⟨rfl,by omega⟩,rfl⟩ (hs:=t43)⟩
  intro e1 qe1;refine c63z ?_;exact ⟨[],_,(List.append_nil _).symm,t40,t193⟩
theorem AY (r:List Nat)(s:Nat)(hr:∀x∈r,x<512)(hs:s<512)(hl:r.length≤9):CB 58 [bL r,.int .i64 ((s:Nat):Int)] h (.int .i64 ((applyN r s:Nat):Int)):=by
  refine .bz Tryz.f58 23 ?_;refine c59z ?_;refine .bX (fun m st=>∃(i:Nat),(m=r.length-i∧i≤r.length)∧st=⟨mkS 23 [(0,bL r),(1,AV.int .i64 ((s:Nat):Int)),(5,AV.int .i64 ((cB r s i:Nat):Int)),(6,AV.int .i64 ((i:Nat):Int))],h⟩) _ (.v ⟨0,⟨rfl,by omega⟩,rfl⟩ (hs:=t43)) ?_;rintro m sl h' ⟨i,⟨hm,hi⟩,hst⟩;obtain ⟨rfl,rfl⟩:=St.mk.inj hst;have hacc:=nI hr s i;have hgi:=gD hr i;refine c0z ?_;refine u2z ?_ ?_
  ·intro e1 qe1;refine c2z ?_;refine c15z ?_;refine .ca rfl rfl (c_inN _ _ hs (by omega)) ?_;refine .nil ?_;refine u2z ?_ ?_
   ·intro e2 qe2;refine c1z ?_;refine c146z ?_;exact ⟨_,by omega,.v ⟨(i+1),⟨rfl,by omega⟩,rfl⟩ (hs:=t43)⟩
   intro e2 qe2;refine c4z ?_;refine .rz ?_;exact ⟨_,by omega,.v ⟨(i+1),⟨rfl,by omega⟩,rfl⟩ (hs:=t43)⟩
  intro e1 qe1;refine c63z ?_;exact ⟨[],_,(List.append_nil _).symm,t40,t193⟩
theorem tY (r:List Nat)(s:Nat)(hr:∀x∈r,x<512)(hs:s<512)(hl:r.length≤9):CB 25 [bL r,.int .i64 ((s:Nat):Int)] h (.int .i64 ((applyN r s:Nat):Int)):=by refine .bz Tryz.f25 8 ?_;refine c181z ?_;refine .ca rfl rfl (c_appM _ _ hr hs hl) ?_;refine c102z ?_;exact ⟨[],_,(List.append_nil _).symm,t40,by rfl⟩
theorem KR (a b:List Nat)(hb:∀x∈b,x<512)(hl:b.length≤9)(ha:∀x∈a,x<512)(hla:a.length≤9):CB 145 [bL a,bL b] h (bL (p7 a b)):=by
  refine .bz Tryz.f145 26 ?_;refine c59z ?_;refine .bX (fun m st=>∃(i:Nat) (zs:List Nat),(m=(a.length)-i∧(UpN (fun d=>applyN b (a.getD d 0)) i zs∧zs.length=(a.length)∧i≤(a.length)))∧st=⟨mkS 26 [(1,bL b),(5,AV.own h.length 0 0 (a.length)),(11,bL a),(12,AV.int .i64 ((a.length:Nat):Int)),(13,AV.int .i64 ((i:Nat):Int))],h++[⟨0,false,3,1,zs.map j4,0⟩]⟩) _ (.v ⟨0,(List.replicate (a.length) 0),⟨rfl,⟨UpN.zero _ _,by simp,by omega⟩⟩,rfl⟩) ?_;rintro m sl h' ⟨i,zs,⟨hm,⟨hI,hz,hi⟩⟩,hst⟩;obtain ⟨rfl,rfl⟩:=St.mk.inj hst;have hga:=gD ha i;refine c13z ?_;refine u2z ?_ ?_
  ·intro e1 qe1;refine c58z ?_;refine c145z ?_;refine .ca rfl rfl (tY _ _ hb hga hl) ?_;refine c28z ?_;refine .c6 [1,5,11,12,13] ?_;refine .rz ?_;exact ⟨_,by omega,.v ⟨(i+1),(zs.set i _),⟨rfl,⟨UpN.set (by omega) hI rfl,t117,by omega⟩⟩,rfl⟩⟩
  intro e1 qe1;refine c63z ?_;exact ⟨_,_,rfl,AU t141 (Nat.le_refl _) hz,t183⟩
theorem KS (a b:List Nat)(hb:∀x∈b,x<512)(hl:b.length≤9)(ha:∀x∈a,x<512)(hla:a.length≤9):CB 81 [bL a,bL b] h (bL (p7 a b)):=by
  refine .bz Tryz.f81 26 ?_;refine c59z ?_;refine .bX (fun m st=>∃(i:Nat) (zs:List Nat),(m=(a.length)-i∧(UpN (fun d=>applyN b (a.getD d 0)) i zs∧zs.length=(a.length)∧i≤(a.length)))∧st=⟨mkS 26 [(0,bL a),(1,bL b),(5,AV.own h.length 0 0 (a.length)),(6,AV.int .i64 ((i:Nat):Int))],h++[⟨0,false,3,1,zs.map j4,0⟩]⟩) _ (.v ⟨0,(List.replicate (a.length) 0),⟨rfl,⟨UpN.zero _ _,by simp,by omega⟩⟩,rfl⟩) ?_;rintro m sl h' ⟨i,zs,⟨hm,⟨hI,hz,hi⟩⟩,hst⟩;obtain ⟨rfl,rfl⟩:=St.mk.inj hst;have hga:=gD ha i;refine c0z ?_;refine u2z ?_ ?_
  ·intro e1 qe1;refine c2z ?_;refine .r ?_;refine .e 7 ?_;refine .ca rfl rfl (AY _ _ hb hga hl) ?_;refine c28z ?_;refine c146z ?_;exact ⟨_,by omega,.v ⟨(i+1),(zs.set i _),⟨rfl,⟨UpN.set (by omega) hI rfl,t117,by omega⟩⟩,rfl⟩⟩
  intro e1 qe1;refine c63z ?_;exact ⟨_,_,rfl,AU t141 (Nat.le_refl _) hz,t183⟩
theorem T6 (a b:List Nat)(hb:∀x∈b,x<512)(ha:∀x∈a,x<512)(hla:a.length≤9)(hab:b.length=a.length):CB 105 [bL a,bL b] h (bL (dD a b)):=by
  refine .bz Tryz.f105 29 ?_;refine c59z ?_;refine .bX (fun m st=>∃(i:Nat) (zs:List Nat),(m=(a.length)-i∧(UpN (fun d=>a.getD d 0|||b.getD d 0) i zs∧zs.length=(a.length)∧i≤(a.length)))∧st=⟨mkS 29 [(0,bL a),(1,bL b),(5,AV.own h.length 0 0 (a.length)),(11,AV.int .i64 ((a.length:Nat):Int)),(12,AV.int .i64 ((i:Nat):Int))],h++[⟨0,false,3,1,zs.map j4,0⟩]⟩) _ (.v ⟨0,(List.replicate (a.length) 0),⟨rfl,⟨UpN.zero _ _,by simp,by omega⟩⟩,rfl⟩) ?_;rintro m sl h' ⟨i,zs,⟨hm,⟨hI,hz,hi⟩⟩,hst⟩;obtain ⟨rfl,rfl⟩:=St.mk.inj hst;have hga:=gD ha i;have hgb:=gD hb i;refine c13z ?_;refine u2z ?_ ?_
  ·intro e1 qe1;refine c58z ?_;refine .so v9 (mkP 13 [0,0,0,0,12,28,0,0,192,448,1020,2047,4095] [12]) ?_;refine c44z ?_;change c8 ..;refine c213z ?_;exact ⟨_,by omega,.v ⟨(i+1),(zs.set i _),⟨rfl,⟨UpN.set (by omega) hI rfl,t117,by omega⟩⟩,rfl⟩⟩
  intro e1 qe1;refine c63z ?_;exact ⟨_,_,rfl,AU t141 (Nat.le_refl _) hz,t187⟩
theorem C8 (a b:List Nat)(hb:∀x∈b,x<512)(ha:∀x∈a,x<512)(hla:a.length≤9)(hab:b.length=a.length):CB 78 [bL a,bL b] h (bL (dD a b)):=by
  refine .bz Tryz.f78 29 ?_;refine c59z ?_;refine .bX (fun m st=>∃(i:Nat) (zs:List Nat),(m=(a.length)-i∧(UpN (fun d=>a.getD d 0|||b.getD d 0) i zs∧zs.length=(a.length)∧i≤(a.length)))∧st=⟨mkS 29 [(0,bL a),(1,bL b),(5,AV.own h.length 0 0 (a.length)),(6,AV.int .i64 ((i:Nat):Int))],h++[⟨0,false,3,1,zs.map j4,0⟩]⟩) _ (.v ⟨0,(List.replicate (a.length) 0),⟨rfl,⟨UpN.zero _ _,by simp,by omega⟩⟩,rfl⟩) ?_;rintro m sl h' ⟨i,zs,⟨hm,⟨hI,hz,hi⟩⟩,hst⟩;obtain ⟨rfl,rfl⟩:=St.mk.inj hst;have hga:=gD ha i;have hgb:=gD hb i;refine c0z ?_;refine u2z ?_ ?_
  ·intro e1 qe1;refine c2z ?_;refine .so v9 (mkP 13 [0,0,0,0,12,28,0,0,192,448,1020,2047,4095] [12]) ?_;refine c44z ?_;change c8 ..;refine c146z ?_;exact ⟨_,by omega,.v ⟨(i+1),(zs.set i _),⟨rfl,⟨UpN.set (by omega) hI rfl,t117,by omega⟩⟩,rfl⟩⟩
  intro e1 qe1;refine c63z ?_;exact ⟨_,_,rfl,AU t141 (Nat.le_refl _) hz,t187⟩
theorem L5 (a b:List Nat)(hla:a.length≤9)(hab:b.length=a.length):CB 117 [bL a,bL b] h (.bool (decide (lJ a b))):=by
  refine .bz Tryz.f117 22 ?_;refine c18z ?_;refine .bX (fun m st=>∃(i:Nat),(m=a.length-i∧((∀d,d<i→bits .andNot .i64 ((a.getD d 0:Nat):Int) ((b.getD d 0:Nat):Int)=0)∧i≤a.length))∧st=⟨mkS 22 [(0,bL a),(1,bL b),(7,AV.int .i64 ((a.length:Nat):Int)),(8,AV.int .i64 ((i:Nat):Int))],h⟩) _ (.v ⟨0,⟨rfl,⟨t105,by omega⟩⟩,rfl⟩) ?_;rintro m sl h' ⟨i,⟨hm,⟨hI,hi⟩⟩,hst⟩;obtain ⟨rfl,rfl⟩:=St.mk.inj hst;refine c13z ?_;refine u2z ?_ ?_
  ·intro e1 qe1;refine c58z ?_;refine .ss v9 (mkP 10 [0,0,3,7,0,0,48,112,255,511] []) ?_;refine c44z ?_;refine u2z ?_ ?_
   ·intro e2 qe2;refine c154z ?_;exact ⟨[],_,(List.append_nil _).symm,t40,t118⟩
   intro e2 qe2;refine c4z ?_;refine c186z ?_;exact ⟨_,by omega,.v ⟨(i+1),⟨rfl,⟨(fun d hd=>if e:d=i then by rw[e];assumption else hI d (by omega)),by omega⟩⟩,rfl⟩⟩
  intro e1 qe1;refine c63z ?_;exact ⟨[],_,(List.append_nil _).symm,t40,t118⟩
theorem c_sameT {n:Nat}(a b:List (List Nat))(hl:a.length<1000000)(ha:∀r∈a,r.length<100000):CB 33 [.vec a.length (s7 a),.vec b.length (s7 b)] h (.bool (decide (a=b))):=by
  refine .bz Tryz.f33 27 ?_;refine c69z ?_;refine u2z ?_ ?_
  ·intro e1 qe1;refine c154z ?_;exact ⟨[],_,(List.append_nil _).symm,t40,t81⟩
  intro e1 qe1;refine .sk ?_;refine c5z ?_;refine .bX (fun m st=>∃(i:Nat),(m=a.length-i∧((∀d,d<i→a.getD d []=b.getD d [])∧i≤a.length))∧st=⟨mkS 27 [(0,AV.vec a.length (s7 a)),(1,AV.vec b.length (s7 b)),(5,AV.int .i64 ((i:Nat):Int))],h⟩) _ (.v ⟨0,⟨rfl,⟨t105,by omega⟩⟩,rfl⟩) ?_;rintro m sl h' ⟨i,⟨hm,⟨hI,hi⟩⟩,hst⟩;obtain ⟨rfl,rfl⟩:=St.mk.inj hst;refine c0z ?_;refine u2z ?_ ?_
  ·intro e2 qe2;refine c2z ?_;refine .ss v9 (mkP 10 [0,0,3,7,0,0,48,112,255,511] []) ?_;refine .k 8 [] ?_;refine .ca rfl rfl (C7 _ _ (by have:=ha _ (g8 (i:=i) (d:=[]) (by omega));omega)) ?_;refine .n [] ?_;refine u2z ?_ ?_
   ·intro e3 qe3;refine c154z ?_;exact ⟨[],_,(List.append_nil _).symm,t40,t81⟩
   intro e3 qe3;refine c4z ?_;refine c163z ?_;exact ⟨_,by omega,.v ⟨(i+1),⟨rfl,⟨(fun d hd=>if e:d=i then by rw[e];assumption else hI d (by omega)),by omega⟩⟩,rfl⟩⟩
  intro e2 qe2;refine c63z ?_;exact ⟨[],_,(List.append_nil _).symm,t40,t81⟩
end Go.Proofs.YtonbocmibeikmaaGreat
end
