/- My own texts, put together by a program of mine. -/
import Derived.Laws.BitsLemmas
import Derived.Test.YtonbocmibeikmaaGreatRS5
set_option linter.unusedSimpArgs false
set_option linter.unusedVariables false
set_option maxRecDepth 100000
set_option maxHeartbeats 4000000
section
namespace Go.Proofs.YtonbocmibeikmaaGreat
open Go.Ab Go.Un
variable {p:Go.Un.Pg}{f:Fu}
theorem JQ (h:GH p)(hf:f∈p.funcs):∀x∈f.params,tG x.name=false:=by
  obtain ⟨i,hi,rfl⟩:=bX (d:=j0) hf;intro x hx;have hm:x.name∈(p.funcs.getD i j0).params.map (·.name):=List.mem_map.2 ⟨x,hx,rfl⟩;rcases (h.fn i hi).2.2 with e | e | e<;>rw[e]at hm<;>simp at hm
  · rw[hm];exact S2 1 (by omega)
  · rcases hm with e | e<;>rw[e]
    · exact S2 2 (by omega)
    · exact S2 1 (by omega)
variable {i:Nat}
theorem nC {α:Type}(f:α→List AV)(K j:Nat)(hK:∀a,(f a).length=K)(hj:j<K)(d:α){l:List α}(h:i<l.length):List.take 1 (List.drop (i*K+j) (l.flatMap f))=List.take 1 (List.drop j (f (l.getD i d))):=by rw[←cL f K hK d h,List.drop_take,List.take_take,List.drop_drop,Nat.min_eq_left (by omega)]
theorem SF {l:List Gl}(h:i<l.length):List.take 1 (List.drop (i*2) (p4 l))=[.str (l.getD i lM).name]:=nC DB 2 0 (fun _=>rfl) (by omega) lM h
theorem SG {l:List Gl}(h:i<l.length):List.take 1 (List.drop (i*2+1) (p4 l))=[.int .i64 (l.getD i lM).init]:=nC DB 2 1 (fun _=>rfl) (by omega) lM h
variable {l:List Pm}
theorem SH (h:i<l.length):List.take 1 (List.drop (i*2) (v9 l))=[.str (l.getD i iA).name]:=nC DA 2 0 (fun _=>rfl) (by omega) iA h
theorem SI (h:i<l.length):List.take 1 (List.drop (i*2+1) (v9 l))=[.bool (l.getD i iA).mu]:=nC DA 2 1 (fun _=>rfl) (by omega) iA h
theorem txtGl_0 {l:List Gl}(h:(l.getD i lM).init=0):kS l (i+1)=kS l i++J0++(l.getD i lM).name++qX:=by rw[kS,if_pos h]
theorem txtGl_1 {l:List Gl}(h:¬(l.getD i lM).init=0):kS l (i+1)=kS l i++J0++(l.getD i lM).name++PU++DE (l.getD i lM).init++qX:=by rw[kS,if_neg h]
variable {out:BA}
theorem SJ {l:List Mx}(h1:(l.getD i w5).re=false)(h:¬0<(l.getD i w5).size):eB l out (i+1)=eB l out i++bO++(l.getD i w5).name++qX:=by rw[eB,if_neg h,if_neg (by rw[h1];decide)]
theorem SK {l:List Mx}(h1:(l.getD i w5).re=true)(h:¬0<(l.getD i w5).size):eB l out (i+1)=eB l out i++t_r++bO++(l.getD i w5).name++qX:=by rw[eB,if_neg h,if_pos h1]
theorem SL {l:List Mx}(h1:(l.getD i w5).re=false)(h:0<(l.getD i w5).size):eB l out (i+1)=eB l out i++bO++(l.getD i w5).name++NQ++DE (l.getD i w5).size++NR++qX:=by rw[eB,if_pos h,if_neg (by rw[h1];decide)]
theorem SM {l:List Mx}(h1:(l.getD i w5).re=true)(h:0<(l.getD i w5).size):eB l out (i+1)=eB l out i++t_r++bO++(l.getD i w5).name++NQ++DE (l.getD i w5).size++NR++qX:=by rw[eB,if_pos h,if_pos h1]
theorem SN (h1:(l.getD i iA).mu=false)(h:¬0<i):fO l out (i+1)=fO l out i++(l.getD i iA).name:=by rw[fO,if_neg h,if_neg (by rw[h1];decide)]
theorem SO (h1:(l.getD i iA).mu=true)(h:¬0<i):fO l out (i+1)=fO l out i++bO++(l.getD i iA).name:=by rw[fO,if_neg h,if_pos h1]
theorem SP (h1:(l.getD i iA).mu=false)(h:0<i):fO l out (i+1)=fO l out i++lS++(l.getD i iA).name:=by rw[fO,if_pos h,if_neg (by rw[h1];decide)]
theorem SQ (h1:(l.getD i iA).mu=true)(h:0<i):fO l out (i+1)=fO l out i++lS++bO++(l.getD i iA).name:=by rw[fO,if_pos h,if_pos h1]
theorem GHgres (h:GH p)(hf:f∈p.funcs):rG (PZ p f):=by
  refine ⟨⟨fun m hm=>?_,fun x hx=>?_⟩,fun x hx=>?_⟩
  · obtain ⟨i,hi,rfl⟩:=bX (d:=w5) hm
    show tG (p.mutexes.getD i w5).name=false;rw[(h.mn i hi).1];exact IZ i (by have:=h.ml;have hi2:i<p.mutexes.length:=hi;omega)
  · exact JQ h hf x hx
  · obtain ⟨g,hg,rfl⟩:=List.mem_map.1 hx
    obtain ⟨i,hi,rfl⟩:=bX (d:=j0) hg;show tG (p.funcs.getD i j0).name=false;rw[(h.fn i hi).1];exact JA i (by have:=h.fl;omega)
theorem JR (h:GH p)(hf:f∈p.funcs):z7 (QA p f):=by
  intro x hx;refine ⟨h.ZH hf x hx,?_⟩;rcases List.mem_append.1 hx with hx | hx
  · obtain ⟨g,hg,rfl⟩:=List.mem_map.1 hx
    obtain ⟨i,hi,rfl⟩:=bX (d:=lM) hg;rw[(h.gn i hi).1];exact IY i (by have:=h.gl;omega)
  · obtain ⟨g,hg,rfl⟩:=List.mem_map.1 hx
    exact JQ h hf g (List.mem_filter.1 hg).1
theorem T4 {l:List Fu}(h:i<l.length):(l.getD i j0).body.wt≤sD l l.length:=by
  have key:∀n,i<n→(l.getD i j0).body.wt≤sD l n:=by
    intro n hn;induction n with
    | zero=>omega
    | succ n ih=>
      rw[sD];by_cases e:i=n
      · rw[e];omega
      · have:=ih (by omega);omega
  exact key _ h
variable {h:c7}
theorem c_lexF {L:Bs}(hx:LX L 4000)(hl:L.length≤262144):CB 95 [.vec L.length (tF L)] h (.tup [.any,.int .i64 L.length,.int .i64 0]):=
  J9 rfl ((c_lex0 L 4000 hx (Nat.le_refl _) hl).mono fun _ _ h=>h.1) h
theorem encB_8 {b:BA}:b.toList.map (fun c=>AV.int .u8 ((c.toNat:Nat):Int))=tF (L8 b):=by rw[ByteArray.toList_eq];rfl
theorem c_lexB {b:BA}(hx:LX (L8 b) 4000)(hl:b.size≤262144):CB 95 [.vec b.size (b.toList.map fun c=>AV.int .u8 ((c.toNat:Nat):Int))] h (.tup [.any,.int .i64 b.size,.int .i64 0]):=by rw[encB_8,kR];exact c_lexF hx (by rw[←kR];exact hl)
attribute [local go_sem] nA aF o2 bD cM bF l8 dI p8 bA aM Int.natCast_nonneg Int.natCast_inj List.length_map wrap64 DN lW A5 aE mJ eq_mk mK Nat.reduceMul SF SG SH SI zQ uT eA
theorem AX {l:List Pm}(hn:∀x∈l,isName (L8 x.name))(out:BA):∀i,i≤l.length→(fO l out i).size≤out.size+30*i
  | 0,_=>Nat.le_refl _
  | i+1,hi=>by
    have ih:=AX hn out i (by omega);have hs:=z1 (hn _ (j7 (d:=iA) (show i<l.length from by omega)));have e1:bO.size=6:=rfl;have e2:lS.size=2:=rfl;unfold fO;repeat' split
    all_goals simp only[aE]
    all_goals omega
theorem JS {l:List Fu}:∀{a b:Nat},a≤b→sD l a≤sD l b:=by
  intro a b h;induction h with
  | refl=>exact Nat.le_refl _
  | step _ ih=>rw[sD];omega
theorem c_progT (hp:GP p):CB 132 [.agg [.vec p.globals.length (p4 p.globals),.vec p.mutexes.length (c9 p.mutexes),.vec p.funcs.length (n8 p.funcs)]] h (.str (txtP p)):=by
  refine .bz Tryz.f132 131 ?_;have hgl:=tB hp.toGH p.globals.length (Nat.le_refl _);have hmx:=tC hp.toGH hgl.1 p.mutexes.length (Nat.le_refl _);have hgl0:=hp.gl;have hml0:=hp.ml;have hfl0:=hp.fl;have htot:=hp.wt;have hwm:∀i,i≤p.funcs.length→sD p.funcs i≤48:=fun i hi=>Nat.le_trans (JS hi) htot;refine c60z ?_;refine .cA (fun m st=>∃(i:Nat),(m=p.globals.length-i∧i≤p.globals.length)∧st=⟨mkS 131 [(1,AV.ptr h.length 0 0),(3,AV.str (kS p.globals i)),(4,AV.int .i64 ((i:Nat):Int))],h++[⟨0,false,27,3,[.vec p.globals.length (p4 p.globals),.vec p.mutexes.length (c9 p.mutexes),.vec p.funcs.length (n8 p.funcs)],0⟩]⟩) _ (.v ⟨0,⟨rfl,by omega⟩,rfl⟩ (hs:=t59)) ?_;rintro m sl h' ⟨i,⟨hm,hi⟩,hst⟩;obtain ⟨rfl,rfl⟩:=St.mk.inj hst;have hsz:=(tB hp.toGH i hi).2;refine c0z ?_;refine u2z ?_ ?_
  ·intro e1 qe1;refine c2z ?_;have hgn:=eR (hp.toGH.HP (j7 (d:=lM) (l:=p.globals) (i:=i) (by omega)));have hgi:=(hp.gn i (by omega)).2;refine c259z ?_;refine .c5 [1,3,4] ?_;refine .z ?_;refine u2z ?_ ?_
   ·intro e2 qe2;have hns:=(uW hgi.1 hgi.2).2;refine c70z ?_;refine c211z ?_;refine .c5 [1,3,4] ?_;refine c47z ?_;exact ⟨_,by omega,.v ⟨(i+1),⟨rfl,by omega⟩,rfl⟩ (hs:=t59)⟩
   intro e2 qe2;refine .sk ?_;refine c100z ?_;exact ⟨_,by omega,.v ⟨(i+1),⟨rfl,by omega⟩,rfl⟩ (hs:=t59)⟩
  intro e1 qe1;refine .exit ?_;obtain rfl:i=p.globals.length:=by omega
  change c8 ..;refine c5z ?_;refine .u0 (fun m st=>∃(i:Nat),(m=p.mutexes.length-i∧i≤p.mutexes.length)∧st=⟨mkS 131 [(1,AV.ptr h.length 0 0),(3,AV.str (eB p.mutexes (kS p.globals p.globals.length) i)),(5,AV.int .i64 ((i:Nat):Int))],h++[⟨0,false,27,3,[.vec p.globals.length (p4 p.globals),.vec p.mutexes.length (c9 p.mutexes),.vec p.funcs.length (n8 p.funcs)],0⟩]⟩) (.v ⟨0,⟨rfl,by omega⟩,rfl⟩ (hs:=t22)) ?_;rintro m sl h' ⟨i,⟨hm,hi⟩,hst⟩;obtain ⟨rfl,rfl⟩:=St.mk.inj hst;clear hst;have hsz:=(tC hp.toGH hgl.1 i hi).2;refine c0z ?_;refine u2z ?_ ?_
  ·intro e3 qe3;refine c2z ?_;have hmn:=eR (hp.toGH.QE (j7 (d:=w5) (l:=p.mutexes) (i:=i) (by omega)));have hmi:=(hp.mn i (by omega)).2;refine c19z ?_;refine .c5 [1,3,5,6] ?_;refine .z ?_;refine u2z ?_ ?_
   ·intro e4 qe4;refine c1z ?_;refine c19z ?_;refine .c5 [1,3,5,6] ?_;refine .z ?_;refine u2z ?_ ?_
    ·intro e5 qe5;have hns:=(uW (n:=(p.mutexes.getD i w5).size) (by omega) (by omega)).2;refine c166z ?_;refine c211z ?_;refine .c5 [1,3,5] ?_;refine c47z ?_;exact ⟨_,by omega,.v ⟨(i+1),⟨rfl,by omega⟩,rfl⟩ (he:=t45) (hs:=t22)⟩
    intro e5 qe5;refine .sk ?_;refine c47z ?_;exact ⟨_,by omega,.v ⟨(i+1),⟨rfl,by omega⟩,rfl⟩ (he:=t45) (hs:=t22)⟩
   intro e4 qe4;refine .sk ?_;refine c89z ?_;refine u2z ?_ ?_
   ·intro e6 qe6;refine .c5 [1,3,5,6] ?_;have hns:=(uW (n:=(p.mutexes.getD i w5).size) (by omega) (by omega)).2;refine c166z ?_;refine c211z ?_;refine .c5 [1,3,5] ?_;refine c47z ?_;exact ⟨_,by omega,.v ⟨(i+1),⟨rfl,by omega⟩,rfl⟩ (he:=t45) (hs:=t22)⟩
   intro e6 qe6;refine .sk ?_;refine .c5 [1,3,5] ?_;refine c47z ?_;exact ⟨_,by omega,.v ⟨(i+1),⟨rfl,by omega⟩,rfl⟩ (he:=t45) (hs:=t22)⟩
  intro e3 qe3;refine .exit ?_;obtain rfl:i=p.mutexes.length:=by omega
  change c8 ..;refine c5z ?_;refine .u0 (fun m st=>∃(i:Nat),(m=p.funcs.length-i∧i≤p.funcs.length)∧st=⟨mkS 131 [(1,AV.ptr h.length 0 0),(3,AV.str (sC p.funcs (eB p.mutexes (kS p.globals p.globals.length) p.mutexes.length) i)),(7,AV.int .i64 ((i:Nat):Int))],h++[⟨0,false,27,3,[.vec p.globals.length (p4 p.globals),.vec p.mutexes.length (c9 p.mutexes),.vec p.funcs.length (n8 p.funcs)],0⟩]⟩) (.v ⟨0,⟨rfl,by omega⟩,rfl⟩) ?_;rintro m sl h' ⟨i,⟨hm,hi⟩,hst⟩;obtain ⟨rfl,rfl⟩:=St.mk.inj hst;clear hst;have hsz:=(zX hp hmx.1 i hi).2;have hwi:=hwm i hi;refine c0z ?_;refine u2z ?_ ?_
  ·intro e7 qe7;refine c2z ?_;have hfm:=j7 (d:=j0) (l:=p.funcs) (i:=i) (by omega);have hfn:=eR (hp.toGH.HQ hfm);have hpn:=hp.toGH.pL hfm;have hbd:=hp.body i (by omega);have hwt:=T4 (l:=p.funcs) (i:=i) (by omega);have hww:=hp.wt;have hlw:=dD (p.funcs.getD i j0).body;refine .z ?_;refine .c5 [1,3,7,8] ?_;refine c17z ?_;refine .cA (fun m st=>∃(j:Nat),(m=(p.funcs.getD i j0).params.length-j∧j≤(p.funcs.getD i j0).params.length)∧st=⟨mkS 131 [(1,AV.ptr h.length 0 0),(3,AV.str (fO (p.funcs.getD i j0).params (sC p.funcs (eB p.mutexes (kS p.globals p.globals.length) p.mutexes.length) i++rR++(p.funcs.getD i j0).name++xD) j)),(7,AV.int .i64 ((i:Nat):Int)),(8,AV.ptr (h.length+1) 0 0),(9,AV.int .i64 ((j:Nat):Int))],h++[⟨0,false,27,3,[.vec p.globals.length (p4 p.globals),.vec p.mutexes.length (c9 p.mutexes),.vec p.funcs.length (n8 p.funcs)],0⟩,⟨0,false,136,3,[.str (p.funcs.getD i j0).name,.vec (p.funcs.getD i j0).params.length (v9 (p.funcs.getD i j0).params),.vec (p.funcs.getD i j0).body.len (o9 (p.funcs.getD i j0).body)],0⟩]⟩) _ (.v ⟨0,⟨rfl,by omega⟩,rfl⟩ (hs:=t30)) ?_;rintro m sl h' ⟨j,⟨hm,hj⟩,hst⟩;obtain ⟨rfl,rfl⟩:=St.mk.inj hst;have hsp:=AX (l:=(p.funcs.getD i j0).params) hpn.2 (sC p.funcs (eB p.mutexes (kS p.globals p.globals.length) p.mutexes.length) i++rR++(p.funcs.getD i j0).name++xD) j hj;have hs0:(sC p.funcs (eB p.mutexes (kS p.globals p.globals.length) p.mutexes.length) i++rR++(p.funcs.getD i j0).name++xD).size≤(sC p.funcs (eB p.mutexes (kS p.globals p.globals.length) p.mutexes.length) i).size+30:=by simp only[aE];have e1:rR.size=5:=rfl;have e2:xD.size=1:=rfl;omega
   refine c0z ?_;refine u2z ?_ ?_
   ·intro e8 qe8;refine c2z ?_;refine c0z ?_;refine u2z ?_ ?_
    ·intro e9 qe9;refine c1z ?_;refine .seq ?_;refine .c5 [1,3,7,8,9] ?_;have hpj:=eR (hpn.2 _ (j7 (d:=iA) (l:=(p.funcs.getD i j0).params) (i:=j) (by omega)));refine .z ?_;refine u2z ?_ ?_
     ·intro e10 qe10;refine c1z ?_;refine .c5 [1,3,7,8,9] ?_;refine c221z ?_;refine .rz ?_;exact ⟨_,by omega,.v ⟨(j+1),⟨rfl,by omega⟩,rfl⟩ (hs:=t30)⟩
     intro e10 qe10;refine .sk ?_;refine c221z ?_;refine .rz ?_;exact ⟨_,by omega,.v ⟨(j+1),⟨rfl,by omega⟩,rfl⟩ (hs:=t30)⟩
    intro e9 qe9;refine c204z ?_;have hpj:=eR (hpn.2 _ (j7 (d:=iA) (l:=(p.funcs.getD i j0).params) (i:=j) (by omega)));refine .z ?_;refine u2z ?_ ?_
    ·intro e11 qe11;refine .c5 [1,3,7,8,9] ?_;refine c1z ?_;refine c221z ?_;refine .rz ?_;exact ⟨_,by omega,.v ⟨(j+1),⟨rfl,by omega⟩,rfl⟩ (hs:=t30)⟩
    intro e11 qe11;refine .sk ?_;refine .c5 [1,3,7,8,9] ?_;refine c221z ?_;refine .rz ?_;exact ⟨_,by omega,.v ⟨(j+1),⟨rfl,by omega⟩,rfl⟩ (hs:=t30)⟩
   intro e8 qe8;refine .exit ?_;obtain rfl:j=(p.funcs.getD i j0).params.length:=by omega
   change c8 ..;have htab:gR.size=1:=rfl;have hbs:=(jO (hp.toGH.genv hfm) (p.funcs.getD i j0).body _ gR ByteArray.empty 0 (hp.toGH.ZH hfm) hbd.1 (by omega) J1 Cl.nil).2;have he0:ByteArray.empty.size=0:=rfl;refine c166z ?_;refine .ca rfl rfl (JB (hp.toGH.genv hfm) 1000 _ (by omega) (Nat.le_refl _) _ gR (JR hp.toGH hfm) hbd.1 (by omega) J1 _) ?_;refine c25z ?_;refine .c5 [1,3,7] ?_;refine .rz ?_;exact ⟨_,by omega,.v ⟨(i+1),⟨rfl,by omega⟩,rfl⟩ (he:=t45)⟩
  intro e7 qe7;refine .exit ?_;obtain rfl:i=p.funcs.length:=by omega
  refine c216z ?_;exact .ret (.ex (hq:=by rfl))
theorem c_valid (hp:GP p):CB 87 [.agg [.vec p.globals.length (p4 p.globals),.vec p.mutexes.length (c9 p.mutexes),.vec p.funcs.length (n8 p.funcs)]] h (.bool true):=by
  refine .bz Tryz.f87 140 ?_;have hgl0:=hp.gl;have hml0:=hp.ml;have hfl0:=hp.fl;refine c19z ?_;refine c22z ?_;refine .spl 16 rfl rfl (fun e1=>by exfalso;have q:=fact e1;omega) (fun e1=>?_);try simp only[e1]
  have qe1:=fact e1;refine .k 6 [(4,16)] ?_;refine .spl 22 rfl rfl (fun e2=>by exfalso;have q:=fact e2;omega) (fun e2=>?_);try simp only[e2]
  have qe2:=fact e2;refine .m [(10,22)] ?_;refine uFbz ?_;intro e3 qe3;refine c204z ?_;refine .c5 [1] ?_;refine c14z ?_;refine .cA (fun m st=>∃(i:Nat),(m=p.globals.length-i∧i≤p.globals.length)∧st=⟨mkS 140 [(1,AV.ptr h.length 0 0),(3,AV.int .i64 ((i:Nat):Int))],h++[⟨0,false,27,3,[.vec p.globals.length (p4 p.globals),.vec p.mutexes.length (c9 p.mutexes),.vec p.funcs.length (n8 p.funcs)],0⟩]⟩) _ (.v ⟨0,⟨rfl,by omega⟩,rfl⟩) ?_;rintro m sl h' ⟨i,⟨hm,hi⟩,hst⟩;obtain ⟨rfl,rfl⟩:=St.mk.inj hst;refine c0z ?_;refine u2z ?_ ?_
  ·intro e4 qe4;refine c2z ?_;have hgi:=(hp.gn i (by omega)).2;have hgr:tG (p.globals.getD i lM).name=false:=by rw[(hp.gn i (by omega)).1];exact IY i (by omega)
   refine c139z ?_;refine .ca rfl rfl (mI _ (hp.toGH.HP (j7 (d:=lM) (l:=p.globals) (i:=i) (by omega))) hgr) ?_;refine .k 8 [(8,43)] ?_;refine .m [(8,43)] ?_;refine uFbz ?_;intro e5 qe5;refine c4z ?_;refine .c5 [1,3] ?_;refine .rz ?_;exact ⟨_,by omega,.v ⟨(i+1),⟨rfl,by omega⟩,rfl⟩⟩
  intro e4 qe4;refine c8z ?_;refine c5z ?_;refine .u0 (fun m st=>∃(i:Nat),(m=p.mutexes.length-i∧i≤p.mutexes.length)∧st=⟨mkS 140 [(1,AV.ptr h.length 0 0),(4,AV.int .i64 ((i:Nat):Int))],h++[⟨0,false,27,3,[.vec p.globals.length (p4 p.globals),.vec p.mutexes.length (c9 p.mutexes),.vec p.funcs.length (n8 p.funcs)],0⟩]⟩) (.v ⟨0,⟨rfl,by omega⟩,rfl⟩) ?_;rintro m sl h' ⟨i,⟨hm,hi⟩,hst⟩;obtain ⟨rfl,rfl⟩:=St.mk.inj hst;clear hst;refine c0z ?_;refine u2z ?_ ?_
  ·intro e6 qe6;refine c2z ?_;have hmi:=(hp.mn i (by omega)).2;have hmr:tG (p.mutexes.getD i w5).name=false:=by rw[(hp.mn i (by omega)).1];exact IZ i (by omega)
   refine .z ?_;refine .c5 [1,4,5] ?_;refine c31z ?_;refine .ca rfl rfl (mI _ (hp.toGH.QE (j7 (d:=w5) (l:=p.mutexes) (i:=i) (by omega))) hmr) ?_;refine .k 7 [(4,68)] ?_;refine .spl 73 rfl rfl (fun e7=>by exfalso;have q:=fact e7;omega) (fun e7=>?_);try simp only[e7]
   have qe7:=fact e7;refine .k 5 [(9,73)] ?_;refine .spl 78 rfl rfl (fun e8=>by exfalso;have q:=fact e8;omega) (fun e8=>?_);try simp only[e8]
   have qe8:=fact e8;refine .k 3 [(14,78)] ?_;refine .spl 81 rfl rfl (fun e9=>?_) (fun e9=>?_)
   ·try simp only[e9]
    have qe9:=fact e9;refine .m [(14,78),(17,81)] ?_;refine .spl 86 rfl rfl (fun e10=>by exfalso;have q:=fact e10;have:=hmi.2.2 (by assumption);omega) (fun e10=>?_);try simp only[e10]
    have qe10:=fact e10;refine c46z ?_;refine .c5 [1,4] ?_;refine .rz ?_;exact ⟨_,by omega,.v ⟨(i+1),⟨rfl,by omega⟩,rfl⟩ (he:=t45)⟩
   try simp only[e9]
   have qe9:=fact e9;refine .m [(14,78),(17,81)] ?_;refine c46z ?_;refine .c5 [1,4] ?_;refine .rz ?_;exact ⟨_,by omega,.v ⟨(i+1),⟨rfl,by omega⟩,rfl⟩ (he:=t45)⟩
  intro e6 qe6;refine c8z ?_;refine c5z ?_;refine .u0 (fun m st=>∃(i:Nat),(m=p.funcs.length-i∧i≤p.funcs.length)∧st=⟨mkS 140 [(1,AV.ptr h.length 0 0),(6,AV.int .i64 ((i:Nat):Int))],h++[⟨0,false,27,3,[.vec p.globals.length (p4 p.globals),.vec p.mutexes.length (c9 p.mutexes),.vec p.funcs.length (n8 p.funcs)],0⟩]⟩) (.v ⟨0,⟨rfl,by omega⟩,rfl⟩) ?_;rintro m sl h' ⟨i,⟨hm,hi⟩,hst⟩;obtain ⟨rfl,rfl⟩:=St.mk.inj hst;clear hst;refine c0z ?_;refine u2z ?_ ?_
  ·intro e11 qe11;refine c2z ?_;have hfm:=j7 (d:=j0) (l:=p.funcs) (i:=i) (by omega);have hfn:=eR (hp.toGH.HQ hfm);have hpn:=hp.toGH.pL hfm;have hbd:=hp.body i (by omega);have hwt:=T4 (l:=p.funcs) (i:=i) (by omega);have hww:=hp.wt;have hlw:=dD (p.funcs.getD i j0).body;have hfr:tG (p.funcs.getD i j0).name=false:=by rw[(hp.fn i (by omega)).1];exact JA i (by omega)
   refine c19z ?_;refine .c5 [1,6,7] ?_;refine c31z ?_;refine .ca rfl rfl (mI _ (hp.toGH.HQ hfm) hfr) ?_;refine .k 8 [(4,103)] ?_;refine .spl 109 rfl rfl (fun e12=>by exfalso;have q:=fact e12;omega) (fun e12=>?_);try simp only[e12]
   have qe12:=fact e12;refine .k 2 [(10,109)] ?_;refine .ca rfl rfl (c_okS (hp.toGH.genv hfm) (GHgres hp.toGH hfm) 1000 _ (by omega) (Nat.le_refl _) _ 0 (JR hp.toGH hfm) hbd.1 (by omega) (by omega) _) ?_;refine .m [(10,109)] ?_;refine c20z ?_;refine .c5 [1,6,7] ?_;refine c14z ?_;refine .cA (fun m st=>∃(j:Nat),(m=(p.funcs.getD i j0).params.length-j∧j≤(p.funcs.getD i j0).params.length)∧st=⟨mkS 140 [(1,AV.ptr h.length 0 0),(6,AV.int .i64 ((i:Nat):Int)),(7,AV.ptr (h.length+1) 0 0),(8,AV.int .i64 ((j:Nat):Int))],h++[⟨0,false,27,3,[.vec p.globals.length (p4 p.globals),.vec p.mutexes.length (c9 p.mutexes),.vec p.funcs.length (n8 p.funcs)],0⟩,⟨0,false,136,3,[.str (p.funcs.getD i j0).name,.vec (p.funcs.getD i j0).params.length (v9 (p.funcs.getD i j0).params),.vec (p.funcs.getD i j0).body.len (o9 (p.funcs.getD i j0).body)],0⟩]⟩) _ (.v ⟨0,⟨rfl,by omega⟩,rfl⟩) ?_;rintro m sl h' ⟨j,⟨hm,hj⟩,hst⟩;obtain ⟨rfl,rfl⟩:=St.mk.inj hst;refine c0z ?_;refine u2z ?_ ?_
   ·intro e13 qe13;refine c2z ?_;refine c139z ?_;refine .ca rfl rfl (mI _ (hpn.2 _ (j7 (d:=iA) (l:=(p.funcs.getD i j0).params) (i:=j) (by omega))) (JQ hp.toGH hfm _ (j7 (d:=iA) (l:=(p.funcs.getD i j0).params) (i:=j) (by omega)))) ?_;refine .n ?_;refine c46z ?_;refine .c5 [1,6,7,8] ?_;refine .rz ?_;exact ⟨_,by omega,.v ⟨(j+1),⟨rfl,by omega⟩,rfl⟩⟩
   intro e13 qe13;refine c8z ?_;refine .rz ?_;exact ⟨_,by omega,.v ⟨(i+1),⟨rfl,by omega⟩,rfl⟩ (he:=t45)⟩
  intro e11 qe11;refine c8z ?_;have htx:=txtP_ok hp;refine c63z ?_;refine .ca rfl rfl (c_progT hp) ?_;refine .e 1 ?_;refine .ca rfl rfl (c_lexB htx.1 htx.2) ?_;refine .n ?_;refine .c5 [11] ?_;refine .z ?_;exact .ret (.ex (hq:=by rfl))
end Go.Proofs.YtonbocmibeikmaaGreat
end
section
namespace Go.Proofs.YtonbocmibeikmaaGreat
open Go.Ab Go.Un
def sc1:AV→AV
  | .bool b=>.bool b
  | .int k n=>.int k n
  | .str s=>.str s
  | _=>.any
def sc2:AV→AV
  | .agg cs=>.agg (cs.map sc1)
  | x=>sc1 x
def Bv:AV→AV
  | .tup xs=>.tup (xs.map sc2)
  | x=>sc2 x
section
variable {h1 h2:c7}{φ1 φ2:Map}{w:World}{v:Value}{x:AV}
theorem JT (r:Rel h1 φ1 w v x):Rel h2 φ2 w v (sc1 x):=by
  unfold sc1;split
  · cases r.aT;exact .aZ _
  · cases r.u6;exact .bS _ _
  · cases r.dU;exact .oQ _
  · exact .iT _
theorem JU (r:Rel h1 φ1 w v x):Rel h2 φ2 w v (sc2 x):=by
  unfold sc2;split
  · rename_i cs
    obtain ⟨a,rfl,ha,hc,hr⟩:=r.jH;refine .agg a _ (by simp[ha]) hc fun j u z hu hz=>?_;rw[List.getElem?_map]at hz;obtain ⟨y,hy,rfl⟩:=Option.map_eq_some_iff.1 hz;exact JT (hr j u y hu hy)
  · exact JT r
theorem JV (r:Rel h1 φ1 w v x):Rel h2 φ2 w v (Bv x):=by
  unfold Bv;split
  · rename_i xs
    obtain ⟨a,rfl,ha,hr⟩:=r.lX;refine .tup a _ (by simp[ha]) fun j u z hu hz=>?_;rw[List.getElem?_map]at hz;obtain ⟨y,hy,rfl⟩:=Option.map_eq_some_iff.1 hz;exact JU (hr j u y hu hy)
  · exact JU r
end
variable {h:c7}
theorem borrowD {f:FuncId}{args args':List AV}{x:AV}(ha:PE 0 h args' args)(r:CallA Tryz.prog cfg f args' (bU 0 h) fun y _=>y=x):CallA Tryz.prog cfg f args h fun y k=>y=Bv x∧k=h:=by
  intro B φ w cargs i hs hr;obtain ⟨i',_⟩:=X8 0 i;obtain ⟨k1,k2⟩:=ha.get;refine (r B φ w cargs i' (by rw[k1];exact hs) fun j v y h1 h2=>?_).mono fun e w' hp=>?_
  · have hj:j<args.length:=by rw[←k1];exact (List.getElem?_eq_some_iff.1 h2).1
    have e1:args'.getD j .any=y:=by simp[List.getD,h2]
    have e2:args.getD j .any=args[j]:=by simp[List.getD,hj]
    rcases k2 j with h | h
    · rw[e1]at h
      rw[h];exact .iT _
    · rw[e1,e2]at h
      exact X9 i 0 h (hr j v _ h1 (List.getElem?_eq_getElem hj))
  · obtain ⟨v,y,h',φ',rfl,h1,h2,h3,rfl⟩:=hp
    have hfree:∀k,k<w.heap.size→V9 (bU 0 h) φ w k:=fun k hk=>⟨hk,fun β b hb hv=>by
      rcases dA hb with ⟨hn,_⟩ | ⟨_,b',_,rfl⟩
      · omega
      · cases hv⟩
    have hk:∀k,k<w.heap.size→w'.heap[k]?=w.heap[k]?:=fun k hk=>(h2.kK k (hfree k hk)).1;have ev:Ev h φ w h φ w':=⟨h2.os,h2.tape,h2.output,h2.size,fun k hs=>⟨hk k hs.1,Nat.lt_of_lt_of_le hs.1 h2.size,hs.2⟩,fun k j hs=>⟨World.cell?_of_block (hk k hs.1),Nat.lt_of_lt_of_le hs.1 h2.size,hs.2⟩,Nat.le_refl _,fun β b b' e1 e2=>by rw[e1]at e2;cases e2;exact ⟨Nat.le_refl _,fun _=>⟨rfl,rfl,rfl⟩⟩⟩;refine ⟨v,_,h,φ,rfl,⟨fun β b hb hv=>?_,i.inj,i.base,i.virt,Nat.le_trans i.room h2.size,fun g=>ev.O7 (i.glob g)⟩,ev,JV h3,rfl,rfl⟩;obtain ⟨cur,q1,q2,q3,q4⟩:=i.blk β b hb hv;exact ⟨cur,(hk _ (Array.getElem?_eq_some_iff.1 q1).1).trans q1,q2,q3,fun j v x a d=>⟨(q4 j v x a d).1,ev.rel (q4 j v x a d).2⟩⟩
variable {g n:Nat}
theorem B9 {H:c7}{β:Nat}{l:List Ent}{x:BA}(hb:H[β]?=some (p9 145 3 g (j5 l)))(hn:l.length=n)(hl:l.length<1000000)(hf:bP l x=none):CB 89 [.own β g 0 n,.str x] H (.tup [.agg [.str ByteArray.empty,.int .i64 0,.int .i64 0],.bool false]):=by subst hn;have e:VJ 0 H (.own β g 0 l.length)=some (.vec l.length (j5 l)):=jY hb (Nat.zero_le _) (by rw[s6];omega) (by omega) ((rF l).frz _ _ _);have ha:PE 0 H [.vec l.length (j5 l),.str x] [.own β g 0 l.length,.str x]:=And.intro (.inr e) (And.intro (.inr rfl) trivial);exact borrowD ha ((JH hf hl).mono fun _ _ h=>h.1)
variable {p:Go.Un.Pg}
theorem pW:(aO p).length=p.globals.length+(p.mutexes.length+p.funcs.length):=by simp[aO]
variable {i:Nat}
theorem SR (h:i<(aO p).length):(aO p).getD i jN=if i<p.globals.length then ⟨(p.globals.getD i lM).name,1,(i:Int)⟩ else if i-p.globals.length<p.mutexes.length then ⟨(p.mutexes.getD (i-p.globals.length) w5).name,2,((i-p.globals.length:Nat):Int)⟩ else ⟨(p.funcs.getD (i-p.globals.length-p.mutexes.length) j0).name,3,((i-p.globals.length-p.mutexes.length:Nat):Int)⟩:=by
  rw[pW]at h;unfold aO;rw[List.getD_eq_getElem?_getD];by_cases h1:i<p.globals.length
  · rw[if_pos h1,List.getElem?_append_left t127]
    simp[h1]
  · rw[if_neg h1,List.getElem?_append_right (by simpa using Nat.le_of_not_lt h1)]
    simp only[List.length_map,List.length_range];by_cases h2:i-p.globals.length<p.mutexes.length
    · rw[if_pos h2,List.getElem?_append_left t100]
      simp[h2]
    · rw[if_neg h2,List.getElem?_append_right (by simpa using Nat.le_of_not_lt h2)]
      simp only[List.length_map,List.length_range];have h3:i-p.globals.length-p.mutexes.length<p.funcs.length:=by omega
      simp[h3]
theorem JW (h:i<(aO p).length):(aO p).getD i jN=if i<p.globals.length then ⟨(p.globals.getD i lM).name,1,(i:Int)⟩ else if (i:Int)-p.globals.length<p.mutexes.length then ⟨(p.mutexes.getD ((i:Int)-p.globals.length).toNat w5).name,2,(i:Int)-p.globals.length⟩ else ⟨(p.funcs.getD ((i:Int)-p.globals.length-p.mutexes.length).toNat j0).name,3,(i:Int)-p.globals.length-p.mutexes.length⟩:=by
  rw[SR h];by_cases h1:i<p.globals.length
  · rw[if_pos h1,if_pos h1]
  · rw[if_neg h1,if_neg h1,show ((i:Int)-p.globals.length).toNat=i-p.globals.length from by omega,show ((i:Int)-p.globals.length-p.mutexes.length).toNat=i-p.globals.length-p.mutexes.length from by omega]
    by_cases h2:i-p.globals.length<p.mutexes.length
    · rw[if_pos h2,if_pos (by omega),show ((i-p.globals.length:Nat):Int)=(i:Int)-p.globals.length from by omega]
    · rw[if_neg h2,if_neg (by omega),show ((i-p.globals.length-p.mutexes.length:Nat):Int)=(i:Int)-p.globals.length-p.mutexes.length from by omega]
theorem JX {l:List Ent}(hn:(l.map (·.name)).Nodup)(hi:i<l.length):bP (l.take i) (l.getD i jN).name=none:=by
  refine uX fun h=>?_;obtain ⟨e,he,hx⟩:=List.mem_map.1 h;obtain ⟨j,hj,rfl⟩:=List.mem_iff_getElem.1 he;simp only[List.length_take]at hj;have hjl:j<l.length:=by omega
  simp only[List.getElem_take]at hx;have e1:l.getD i jN=l[i]:=by simp[List.getD,hi]
  rw[e1]at hx;have:=(List.pairwise_iff_getElem.1 hn) j i (by simpa using hjl) (by simpa using hi) (by omega);simp only[List.getElem_map]at this;exact this hx
theorem xZ (h:GP p):((aO p).map (·.name)).Nodup:=by have h1:=(uZ h.toGH (i:=0) (by have:=h.fl;omega)).nodup uY;rw[List.map_append]at h1;exact (List.nodup_append.1 h1).1
theorem takeD {l:List Ent}(h:i<l.length):l.take (i+1)=l.take i++[l.getD i jN]:=by rw[List.take_add_one];simp[List.getD,h]
theorem L0 {l:List Ent}{x:Ent}:j5 (l++[x])=j5 l++[.str x.name,.int .i64 x.kind,.int .i64 x.n]:=by simp[j5,iM]
variable {b0 b2 b3:Blk}{es:List Ent}
theorem app_ent {l:c7}{x:BA}{k m:Int}(hn:es.length=n)(hl:n<100000):j6 cfg 145 (h++(b0::p9 145 3 g (j5 es)::b2::b3::⟨0,false,145,3,[.str x,.int .i64 k,.int .i64 m],0⟩::l)) (.own (h.length+1) g 0 n) (.own (h.length+4) 0 0 1)=some (.own (h.length+1) (g+1) 0 (n+1),h++(b0::p9 145 3 (g+1) (j5 (es++[⟨x,k,m⟩]))::b2::b3::⟨0,false,145,3,[.str x,.int .i64 k,.int .i64 m],0⟩::l)):=by subst hn;rw[u7 (C:=cfg) (K:=3) (m:=1) (new:=[.str x,.int .i64 k,.int .i64 m]) (zs:=j5 es) t25 rfl (by omega) (by rw[s6];omega) rfl (by omega) t116 rfl (by decide) (by omega),L0,n4];rfl
theorem SS {l:List Gl}(h:i<l.length):List.take 1 (List.drop (i*2) (p4 l))=[.str (l.getD i lM).name]:=DT DB 2 0 (fun _=>rfl) (by omega) lM h
theorem SU {l:List Mx}(h:i<l.length):List.take 1 (List.drop (i*3) (c9 l))=[.str (l.getD i w5).name]:=DT PQ 3 0 (fun _=>rfl) (by omega) w5 h
theorem SV {l:List Fu}(h:i<l.length):List.take 1 (List.drop (i*3) (n8 l))=[.str (l.getD i j0).name]:=DT eA 3 0 (fun _=>rfl) (by omega) j0 h
attribute [local go_sem] rd s6 o2 bD cM u4 aR fQ dI p8 bA aM l8 bF Int.natCast_nonneg Int.natCast_inj List.length_map wrap64 fY jA jB AB J4 R3 AD zZ max2 eY cR bH Nat.reduceMul mY kA z8 iM pS lC vL SS SU SV app_ent
theorem c_decl (hp:GP p):CB 88 [.agg [.vec p.globals.length (p4 p.globals),.vec p.mutexes.length (c9 p.mutexes),.vec p.funcs.length (n8 p.funcs)]] h (.tup [.vec (aO p).length (j5 (aO p)),.int .i64 (-1)]):=by
  refine .bz Tryz.f88 94 ?_;have hdl:=pW (p:=p);have hnd:=xZ hp;have hgl:=hp.gl;have hml:=hp.ml;have hfl:=hp.fl;refine c65z ?_;refine .z ?_;refine c259z ?_;refine .c5 [1,4,5,6] ?_;refine c14z ?_;refine c8.sB 4 rfl ?_;refine .u0 (fun m st=>∃(i:Nat),(m=(aO p).length-i∧i≤(aO p).length)∧st=⟨mkS 94 [(1,AV.ptr h.length 0 0),(4,AV.own (h.length+1) i 0 i),(5,AV.int .i64 (-1)),(6,AV.int .i64 ((aO p).length:Int)),(7,AV.int .i64 ((i:Nat):Int))],h++[⟨0,false,27,3,[.vec p.globals.length (p4 p.globals),.vec p.mutexes.length (c9 p.mutexes),.vec p.funcs.length (n8 p.funcs)],0⟩,p9 145 3 i (j5 ((aO p).take i))]⟩) (.v ⟨0,⟨rfl,by omega⟩,rfl⟩ (hs:=t49)) ?_;rintro m sl h' ⟨i,⟨hm,hi⟩,hst⟩;obtain ⟨rfl,rfl⟩:=St.mk.inj hst;clear hst;have htl:((aO p).take i).length=i:=by simp;omega
  refine c0z ?_;refine u2z ?_ ?_
  ·intro e1 qe1;refine c2z ?_;refine c19z ?_;have hat:=JW (p:=p) (i:=i) (by omega);have hfn:=JX hnd (i:=i) (by omega);refine c14z ?_;refine .c5 [1,4,5,6,7,8,9] ?_;refine .z ?_;refine u2z ?_ ?_
   ·intro e2 qe2;refine c91z ?_;refine .seq ?_;refine .c5 [1,4,5,6,7,8] ?_;rw[if_pos (by omega)]at hat;rw[hat]at hfn;refine c207z ?_;refine .n ?_;refine c228z ?_;refine c20z ?_;refine c1z ?_;refine .c5 [1,4,5,6,7] ?_;refine .rz ?_;exact ⟨_,by omega,.v ⟨(i+1),⟨rfl,by omega⟩,rfl⟩ (he:=t104) (hk:=t101) (hs:=t49)⟩
   intro e2 qe2;refine .z ?_;refine u2z ?_ ?_
   ·intro e3 qe3;refine .c5 [1,4,5,6,7,8,9] ?_;refine c91z ?_;refine .seq ?_;refine .c5 [1,4,5,6,7,8] ?_;rw[if_neg (by omega),if_pos (by omega)]at hat;rw[hat]at hfn;refine c207z ?_;refine .n ?_;refine c228z ?_;refine c20z ?_;refine c1z ?_;refine .c5 [1,4,5,6,7] ?_;refine .rz ?_;exact ⟨_,by omega,.v ⟨(i+1),⟨rfl,by omega⟩,rfl⟩ (he:=t104) (hk:=t101) (hs:=t49)⟩
   intro e3 qe3;refine .c5 [1,4,5,6,7,8,9] ?_;refine .so u9 (mkP 17 [0,1,0,0,8,24,60,127,255,511,0,0,2048,6144,15360,32767,65535] [16]) ?_;refine .k 8 [] ?_;refine c50z ?_;change c8 ..;refine .seq ?_;refine .c5 [1,4,5,6,7,8] ?_;rw[if_neg (by omega),if_neg (by omega)]at hat;rw[hat]at hfn;refine c207z ?_;refine .n ?_;refine c228z ?_;refine c20z ?_;refine c1z ?_;refine .c5 [1,4,5,6,7] ?_;refine .rz ?_;exact ⟨_,by omega,.v ⟨(i+1),⟨rfl,by omega⟩,rfl⟩ (he:=t104) (hk:=t101) (hs:=t49)⟩
  intro e1 qe1;refine .exit ?_;obtain rfl:i=(aO p).length:=by omega
  rw[List.take_length];refine c8.uR (t:=4) (γ:=h.length+1) (len:=(aO p).length) t25 (by rw[s6];omega) (by omega) (rF _) (kO (by decide) rfl) ?_;rw[bT];simp only[n4,List.set_cons_succ,List.set_cons_zero];refine c216z ?_;exact .ret (.ex (hq:=by rfl))
def s0F (p:Go.Un.Pg)(f:Fu):Sco:=⟨p,aO p++lN f.params 0 0,(fV f.params:Int),0,[],[]⟩
def s1F (p:Go.Un.Pg)(f:Fu):Sco:=cO (s0F p f).l (s0F p f) f.body
def s2F (p:Go.Un.Pg)(f:Fu):Sco:=o4 (s1F p f) ⟨8,0,false,l4,bW,[],[]⟩ (s1F p f).st
variable {a b c d:Blk}{s:Sco}{r:c7}
theorem SW:(h++(a::b::c::d::z8 (h.length+4) s::p9 54 12 (s).code.length (p5 (s).code)::p9 3 1 (s).sites.length (g6 (s).sites)::r))=hT ⟨h++[a,b,c,d],r⟩ (z8 (h.length+4) s) s.code s.sites:=by simp[hT]
theorem hF_k:Frm.k ⟨h++[a,b,c,d],r⟩=h.length+4:=by simp[Frm.k]
theorem SX {E:Env}{cx:Ctx}{S:Sl}(hw:S.wt≤1000){vars:List BA}(sc:SC E cx vars s.l)(hG:GS E S vars)(bd:Bd E cx s.p)(B:Bnd s S.wt):CH 133 [.ptr (h.length+4) 0 0,.vec S.len (o9 S)] (h++(a::b::c::d::z8 (h.length+4) s::p9 54 12 (s).code.length (p5 (s).code)::p9 3 1 (s).sites.length (g6 (s).sites)::r)) (.tup []) (h++(a::b::c::d::z8 (h.length+4) (cO s.l s S)::p9 54 12 ((cO s.l s S)).code.length (p5 ((cO s.l s S)).code)::p9 3 1 ((cO s.l s S)).sites.length (g6 ((cO s.l s S)).sites)::r)):=by have:=AW 1000 S hw (Nat.le_refl _) vars s sc hG bd B ⟨h++[a,b,c,d],r⟩;rw[hF_k,←SW,←SW]at this;exact this
theorem c_putF (hc:s.code.length<10000)(hs:s.sites.length<10000)(i:Ins)(t:Int){zs:List AV}(hz:oO (eM i) zs):CH 134 [.ptr (h.length+4) 0 0,.agg zs,.int .i64 t] (h++(a::b::c::d::z8 (h.length+4) s::p9 54 12 (s).code.length (p5 (s).code)::p9 3 1 (s).sites.length (g6 (s).sites)::r)) (.int .i64 ((s.code.length:Nat):Int)) (h++(a::b::c::d::z8 (h.length+4) (o4 s i t)::p9 54 12 ((o4 s i t)).code.length (p5 ((o4 s i t)).code)::p9 3 1 ((o4 s i t)).sites.length (g6 ((o4 s i t)).sites)::r)):=by have:=mL (e:=⟨h++[a,b,c,d],r⟩) hc hs i t hz;rw[hF_k,←SW,←SW]at this;exact this
variable {b1:Blk}
theorem app_cpF {l:c7}(hz:es.length=n)(h0:0<n)(hn:n<1000):j6 cfg 145 (h++(b0::b1::b2::⟨0,false,145,3,[],0⟩::l)) (.own (h.length+3) 0 0 0) (.vec n (j5 es))=some (.own (h.length+3) 1 0 n,h++(b0::b1::b2::⟨1,false,145,3,j5 es,0⟩::l)):=by
  subst hz;have e1:cfg.sz 145=3:=rfl;have e2:(cfg.ti 145).bytes=32:=rfl;have hm:es.length≤maxLen:=by
    have:(1000:Nat)≤maxLen:=by decide
    omega
  have hb:es.length*32≤140737488355328:=by omega
  have h1:(j5 es).length=es.length*3:=by rw[s6];omega
  have h2:¬es.length=0:=by omega
  have h3:¬es.length*3=0:=by omega
  simp[j6,rd,lenOf,e1,e2,h1,hm,hb,q9,n4,h0,h2,h3]
variable {b4:Blk}
theorem app_onF {b5 b6 b7 b8:Blk}{l:c7}{x:BA}{k m:Int}(hz:es.length=n)(hn:n<1000):j6 cfg 145 (h++(b0::b1::b2::⟨g,false,145,3,j5 es,0⟩::b4::b5::b6::b7::b8::⟨0,false,145,3,[.str x,.int .i64 k,.int .i64 m],0⟩::l)) (.own (h.length+3) g 0 n) (.own (h.length+9) 0 0 1)=some (.own (h.length+3) (g+1) 0 (n+1),h++(b0::b1::b2::⟨g+1,false,145,3,j5 (es++[⟨x,k,m⟩]),0⟩::b4::b5::b6::b7::b8::⟨0,false,145,3,[.str x,.int .i64 k,.int .i64 m],0⟩::l)):=by
  subst hz;have e1:cfg.sz 145=3:=rfl;have e2:(cfg.ti 145).bytes=32:=rfl;have hm:es.length+1≤maxLen:=by
    have:(1001:Nat)≤maxLen:=by decide
    omega
  have hb:(es.length+1)*32≤140737488355328:=by omega
  have h1:(j5 es).length=es.length*3:=by rw[s6];omega
  have ht:List.take (es.length*3) (j5 es)=j5 es:=List.take_of_length_le (by omega);have hnl:¬(es.length+1)*3≤es.length*3:=by omega
  have hs:j5 (es++[⟨x,k,m⟩])=j5 es++[.str x,.int .i64 k,.int .i64 m]:=by simp[j5,iM]
  simp[j6,rd,lenOf,e1,e2,h1,hm,hb,ht,hnl,q9,n4,hs]
theorem pX:∀{l:List Pm} {x:Pm} {a b:Nat},lN (l++[x]) a b=lN l a b++[if x.mu then ⟨x.name,5,((b+aX l:Nat):Int)⟩ else ⟨x.name,4,((a+fV l:Nat):Int)⟩]
  | [],x,a,b=>by simp[lN,aX,fV];split<;>rfl
  | y::l,x,a,b=>by
    simp only[List.cons_append,lN];cases hy:y.mu with
    | true=>
      simp only[if_true,pX (l:=l),List.cons_append,aX,fV,List.filter_cons,hy,Bool.not_true,Bool.false_eq_true,if_false,List.length_cons];rw[show b+1+(l.filter fun x=>x.mu).length=b+((l.filter fun x=>x.mu).length+1) from by omega]
    | false=>
      simp only[Bool.false_eq_true,if_false,pX (l:=l),List.cons_append,aX,fV,List.filter_cons,hy,Bool.not_false,if_true,List.length_cons];rw[show a+1+(l.filter fun x=>! x.mu).length=a+((l.filter fun x=>! x.mu).length+1) from by omega]
variable {l:List Pm}
theorem AY {a b:Nat}:(lN l a b).length=l.length:=by have:=congrArg List.length (iH l a b);simpa using this
theorem AZ:fV l≤l.length:=List.length_filter_le _ _
theorem rH (h:i<l.length):l.take (i+1)=l.take i++[l.getD i iA]:=by rw[List.take_add_one];simp[List.getD,h]
theorem yA {x:Pm}:fV (l++[x])=fV l+(if x.mu then 0 else 1):=by simp only[fV,List.filter_append,List.length_append];cases h:x.mu<;>simp[h]
theorem vQ {x:Pm}:aX (l++[x])=aX l+(if x.mu then 1 else 0):=by simp only[aX,List.filter_append,List.length_append];cases h:x.mu<;>simp[h]
theorem drop_pm (hi:i<l.length):l.drop i=l.getD i iA::l.drop (i+1):=by rw[List.drop_eq_getElem_cons hi];simp[List.getD,hi]
theorem findP (hp:GP p){j:Nat}(hj:j<p.funcs.length)(hi:i<(p.funcs.getD j j0).params.length):bP (aO p++lN ((p.funcs.getD j j0).params.take i) 0 0) ((p.funcs.getD j j0).params.getD i iA).name=none:=by
  have hn:=(uZ hp.toGH hj).nodup uY;rw[List.map_append,iH]at hn;have hs:((p.funcs.getD j j0).params.map (·.name))=(((p.funcs.getD j j0).params.take i).map (·.name))++((p.funcs.getD j j0).params.getD i iA).name::(((p.funcs.getD j j0).params.drop (i+1)).map (·.name)):=by
    have h1:(p.funcs.getD j j0).params=(p.funcs.getD j j0).params.take i++((p.funcs.getD j j0).params.getD i iA::(p.funcs.getD j j0).params.drop (i+1)):=by have h2:=drop_pm hi;rw[←h2,List.take_append_drop]
    have h3:=congrArg (List.map (fun x:Pm=>x.name)) h1;rw[List.map_append,List.map_cons]at h3;exact h3
  rw[hs,←List.append_assoc]at hn;refine uX fun hm=>?_;rw[List.map_append,iH]at hm;exact (List.nodup_append.1 hn).2.2 _ hm _ (by simp) rfl
theorem bd_of (hp:GP p){f:Fu}:Bd (PZ p f) (ctxP p f) p:=⟨rfl,rfl,rfl,fun x hx=>by obtain ⟨g,hg,rfl⟩:=List.mem_map.1 hx;exact (hp.toGH.pL hg).1⟩
theorem SY (h:i<l.length):List.take 1 (List.drop (i*2) (v9 l))=[.str (l.getD i iA).name]:=DT DA 2 0 (fun _=>rfl) (by omega) iA h
section
attribute [local go_sem] app_cpF app_onF B6 vM vN B7 B8 rD nB SY
theorem c_func (hp:GP p){j:Nat}(hj:j<p.funcs.length):CB 90 [.agg [.vec p.globals.length (p4 p.globals),.vec p.mutexes.length (c9 p.mutexes),.vec p.funcs.length (n8 p.funcs)],.vec (aO p).length (j5 (aO p)),.agg (eA (p.funcs.getD j j0))] h (.tup [.agg (uU (nN p (p.funcs.getD j j0))),.vec (s2F p (p.funcs.getD j j0)).sites.length (g6 (s2F p (p.funcs.getD j j0)).sites),.int .i64 0,.int .i64 0]):=by
  unfold eA;refine .bz Tryz.f90 136 ?_;have hdl:=pW (p:=p);have hgl:=hp.gl;have hml:=hp.ml;have hfl:=hp.fl;have hpn:=(hp.toGH.pL (j7 (d:=j0) hj)).1;have hbd:=hp.body j hj;have hwt:=T4 (l:=p.funcs) hj;have hww:=hp.wt;refine .z ?_;refine .sg u9 (mkH 7 [0,0,0,6,15,31,63] [1,3,5] [] [0,2,10,42] [0]) 0 ?_;refine .rm [true] ?_;refine .en [true] [2,0] [_] ?_;refine .p 1 ?_;refine .en [true,false] [10,2,0] [_] ?_;refine .p 1 ?_;refine .en [true,false,false] [42,10,2,0] [_] ?_;refine .p 1 ?_;refine .po [false,true,true,true] ?_;refine w8.nil rfl ?_;refine .c5 [5,6,10] ?_;refine c8.mE (β:=h.length+4) (k:=8) t25 rfl ?_;simp only[List.append_assoc,List.cons_append,List.nil_append,q9,n4,List.set_cons_succ,List.set_cons_zero,List.length_append,List.length_cons,List.length_nil,Nat.reduceAdd,Nat.zero_add];refine c8.mE (β:=h.length+4) (k:=9) t25 rfl ?_;simp only[List.append_assoc,List.cons_append,List.nil_append,q9,n4,List.set_cons_succ,List.set_cons_zero,List.length_append,List.length_cons,List.length_nil,Nat.reduceAdd,Nat.zero_add];refine c17z ?_;refine .u0 (fun m st=>∃(i:Nat),(m=(p.funcs.getD j j0).params.length-i∧i≤(p.funcs.getD j j0).params.length)∧st=⟨mkS 136 [(5,AV.ptr (h.length+1) 0 0),(6,AV.ptr (h.length+2) 0 0),(10,AV.ptr (h.length+4) 0 0),(11,AV.ptr (h.length+7) 0 0),(12,AV.int .i64 ((i:Nat):Int))],h++[⟨0,false,27,3,[.vec p.globals.length (p4 p.globals),.vec p.mutexes.length (c9 p.mutexes),.vec p.funcs.length (n8 p.funcs)],0⟩,⟨0,false,136,3,[.str (p.funcs.getD j j0).name,.vec (p.funcs.getD j j0).params.length (v9 (p.funcs.getD j j0).params),.vec (p.funcs.getD j j0).body.len (o9 (p.funcs.getD j j0).body)],0⟩,⟨0,false,57,5,[.str ByteArray.empty,.int .i64 0,.int .i64 0,.int .i64 0,.nils],0⟩,⟨1+i,false,145,3,j5 (aO p++lN ((p.funcs.getD j j0).params.take i) 0 0),0⟩,⟨0,false,198,10,[.vec p.globals.length (p4 p.globals),.vec p.mutexes.length (c9 p.mutexes),.vec p.funcs.length (n8 p.funcs),.own (h.length+3) (1+i) 0 ((aO p).length+i),.int .i64 0,.int .i64 0,.int .i64 0,.int .i64 0,.own (h.length+5) 0 0 0,.own (h.length+6) 0 0 0],0⟩,⟨0,true,0,0,[],0⟩,⟨0,true,0,0,[],0⟩,⟨0,false,57,5,[.str (p.funcs.getD j j0).name,.int .i64 ((fV ((p.funcs.getD j j0).params.take i):Nat):Int),.int .i64 ((aX ((p.funcs.getD j j0).params.take i):Nat):Int),.int .i64 0,.nils],0⟩]⟩) (.v ⟨0,⟨rfl,by omega⟩,rfl⟩) ?_ (he:=by (simp[lN,fV,aX]));rintro m sl h' ⟨i,⟨hm,hi⟩,hst⟩;obtain ⟨rfl,rfl⟩:=St.mk.inj hst;clear hst;have hLl:(aO p++lN ((p.funcs.getD j j0).params.take i) 0 0).length=(aO p).length+i:=by simp only[List.length_append,AY,List.length_take];omega
  have hpl:(lN ((p.funcs.getD j j0).params.take i) 0 0).length=i:=by simp only[AY,List.length_take];omega
  have hne:j5 (aO p++lN ((p.funcs.getD j j0).params.take i) 0 0)≠[]:=by intro h0;have:=congrArg List.length h0;rw[s6]at this;replace this:=s6z this;omega
  have hni:=AZ (l:=(p.funcs.getD j j0).params.take i);have hnl:=J3 (l:=(p.funcs.getD j j0).params.take i);rw[List.length_take]at hni hnl;refine c0z ?_;refine u2z ?_ ?_
  ·intro e1 qe1;refine c2z ?_;refine .seq ?_;have hfn:=findP hp hj (i:=i) (by omega);refine .sg u9 (mkH 17 [0,1,3,7,0,16,0,112,240,496,1023,2047,4095,4095,0,24575,65535] [10,14,15] [(14,0)] [0,1024,16384,17408,50176] [0,1,2,3,4,5,6,7,8,9,10,11,12,13]) 1 ?_;refine w8.aC t26 ?_;refine .p 3 ?_;refine c117z ?_;refine c202z ?_;refine .cm [true] [1024,0] [_] rfl rfl (by simp only[kJ,and_true,List.cons_append,List.nil_append];exact B9 t203 hLl (by omega) hfn) ?_;refine .p 3 ?_;refine .en [true,true] [17408,16384,1024,0] [_,_] ?_;refine .en [true,false,false,false] [50176,17408,16384,1024,0] [_] ?_;refine .p 1 ?_;refine w8.pop [false,false,true,false,true] (by kernel_rfl) (by simp only[rO,and_true,List.cons_append,List.nil_append];exact ⟨cV.s5 rfl rfl rfl rfl hb89 (B9 t203 hLl (by omega) hfn) rfl,cV.s5 rfl rfl rfl rfl hb89 (B9 t203 hLl (by omega) hfn) rfl⟩) ?_;refine c95z ?_;refine .po [false,false,true,false,true] ?_;refine w8.nil rfl ?_;refine .c5 [5,6,10,11,12,14] ?_;refine c9z ?_;refine .sk ?_;refine .z ?_;refine u2z ?_ ?_
   ·intro e2 qe2;refine .c5 [5,6,10,11,12] ?_;refine .sg u9 (mkH 19 [0,0,2,6,14,0,32,0,224,480,992,0,2048,8160,16352,32766,65535,131071,262143] [14,15,18] [] [0,16384,49152,311296] [0,1,2,3,4]) 0 ?_;refine .p 4 ?_;refine c146z ?_;refine c242z ?_;refine .p 1 ?_;refine .rn [true] ?_;refine .p 1 ?_;refine .en [true] [16384,0] [_] ?_;refine .en [true,false] [49152,16384,0] [_] ?_;refine .p 2 ?_;refine .en [true,false,false] [311296,49152,16384,0] [_] ?_;refine c27z ?_;refine .c5 [5,6,10,11,12,57] ?_;refine c47z ?_;have hmu:((p.funcs.getD j j0).params.getD i iA).mu=true:=by simp_all
    have hs1:lN ((p.funcs.getD j j0).params.take (i+1)) 0 0=lN ((p.funcs.getD j j0).params.take i) 0 0++[⟨((p.funcs.getD j j0).params.getD i iA).name,5,((aX ((p.funcs.getD j j0).params.take i):Nat):Int)⟩]:=by rw[rH (by omega),pX,hmu];simp
    have hs2:fV ((p.funcs.getD j j0).params.take (i+1))=fV ((p.funcs.getD j j0).params.take i)+0:=by rw[rH (by omega),yA,hmu];rfl
    have hs3:aX ((p.funcs.getD j j0).params.take (i+1))=aX ((p.funcs.getD j j0).params.take i)+1:=by rw[rH (by omega),vQ,hmu];rfl
    exact ⟨_,by omega,.v ⟨(i+1),⟨rfl,by omega⟩,rfl⟩ (he:=t128) (hk:=t74)⟩
   intro e2 qe2;refine .c5 [5,6,10,11,12] ?_;refine .sg u9 (mkH 19 [0,0,2,6,14,0,32,0,224,480,992,0,2048,8160,16352,32766,65535,131071,262143] [14,15,18] [] [0,16384,49152,311296] [0,1,2,3,4]) 0 ?_;refine .p 4 ?_;refine c146z ?_;refine c242z ?_;refine .p 1 ?_;refine .rn [true] ?_;refine .p 1 ?_;refine .en [true] [16384,0] [_] ?_;refine .en [true,false] [49152,16384,0] [_] ?_;refine .p 2 ?_;refine .en [true,false,false] [311296,49152,16384,0] [_] ?_;refine c27z ?_;refine .c5 [5,6,10,11,12] ?_;refine c47z ?_;have hmu:((p.funcs.getD j j0).params.getD i iA).mu=false:=by simp_all
   have hs1:lN ((p.funcs.getD j j0).params.take (i+1)) 0 0=lN ((p.funcs.getD j j0).params.take i) 0 0++[⟨((p.funcs.getD j j0).params.getD i iA).name,4,((fV ((p.funcs.getD j j0).params.take i):Nat):Int)⟩]:=by rw[rH (by omega),pX,hmu];simp
   have hs2:fV ((p.funcs.getD j j0).params.take (i+1))=fV ((p.funcs.getD j j0).params.take i)+1:=by rw[rH (by omega),yA,hmu];rfl
   have hs3:aX ((p.funcs.getD j j0).params.take (i+1))=aX ((p.funcs.getD j j0).params.take i)+0:=by rw[rH (by omega),vQ,hmu];rfl
   exact ⟨_,by omega,.v ⟨(i+1),⟨rfl,by omega⟩,rfl⟩ (he:=t128) (hk:=t74)⟩
  intro e1 qe1;refine .exit ?_;obtain rfl:i=(p.funcs.getD j j0).params.length:=by omega
  rw[List.take_length]at hLl hne ⊢;rw[←hLl];refine c8.H6 (γ:=h.length+3) (β:=h.length+4) (k:=3) (off:=0) (len:=(aO p++lN (p.funcs.getD j j0).params 0 0).length) (cs:=j5 (aO p++lN (p.funcs.getD j j0).params 0 0)) t25 rfl (by simp only[s6];omega) (by rw[List.drop_zero,List.take_of_length_le (by simp only[s6];omega)];exact (rF _).VK) t25 (by omega) rfl ?_;refine c12z ?_;refine .z ?_;refine .c5 [5,6,10,11] ?_;refine c8.aC (h++[⟨0,false,27,3,[.vec p.globals.length (p4 p.globals),.vec p.mutexes.length (c9 p.mutexes),.vec p.funcs.length (n8 p.funcs)],0⟩,⟨0,false,136,3,[.str (p.funcs.getD j j0).name,.vec (p.funcs.getD j j0).params.length (v9 (p.funcs.getD j j0).params),.vec (p.funcs.getD j j0).body.len (o9 (p.funcs.getD j j0).body)],0⟩,⟨0,false,57,5,[.str ByteArray.empty,.int .i64 0,.int .i64 0,.int .i64 0,.nils],0⟩,dH ⟨1+(p.funcs.getD j j0).params.length,false,145,3,j5 (aO p++lN (p.funcs.getD j j0).params 0 0),0⟩ (0+(aO p++lN (p.funcs.getD j j0).params 0 0).length*3),z8 (h.length+4) (s0F p (p.funcs.getD j j0)),p9 54 12 (s0F p (p.funcs.getD j j0)).code.length (p5 (s0F p (p.funcs.getD j j0)).code),p9 3 1 (s0F p (p.funcs.getD j j0)).sites.length (g6 (s0F p (p.funcs.getD j j0)).sites),⟨0,false,57,5,[.str (p.funcs.getD j j0).name,.int .i64 ((fV (p.funcs.getD j j0).params:Nat):Int),.int .i64 ((aX (p.funcs.getD j j0).params:Nat):Int),.int .i64 0,.nils],0⟩]) (by simp only[s0F,z8,List.length_append,Nat.zero_add];rfl) ?_;generalize dH ⟨1+(p.funcs.getD j j0).params.length,false,145,3,j5 (aO p++lN (p.funcs.getD j j0).params 0 0),0⟩ (0+(aO p++lN (p.funcs.getD j j0).params 0 0).length*3)=Lb;have hni2:=AZ (l:=(p.funcs.getD j j0).params);have hB0:Bnd (s0F p (p.funcs.getD j j0)) (p.funcs.getD j j0).body.wt:=⟨by show 0<(aO p++lN (p.funcs.getD j j0).params 0 0).length;omega,by show (aO p++lN (p.funcs.getD j j0).params 0 0).length+_≤_;omega,by show 0+_≤_;omega,by show 0+_≤_;omega,by show 0≤((fV (p.funcs.getD j j0).params:Nat):Int);omega,by show ((fV (p.funcs.getD j j0).params:Nat):Int)+_≤_;omega,Int.le_refl _,by show 0+_≤_;omega⟩;refine c16z ?_;refine .ch rfl rfl (SX (s:=(s0F p (p.funcs.getD j j0))) (by omega) (sc_of hp.toGH hj) hbd.1 (bd_of hp) hB0) ?_;refine .nil ?_;have hc1:=iO (l0:=(s0F p (p.funcs.getD j j0)).l) (s:=(s0F p (p.funcs.getD j j0))) (S:=(p.funcs.getD j j0).body);have hc2:=iJ (l0:=(s0F p (p.funcs.getD j j0)).l) (s:=(s0F p (p.funcs.getD j j0))) (S:=(p.funcs.getD j j0).body);change _≤(s1F p (p.funcs.getD j j0)).code.length∧(s1F p (p.funcs.getD j j0)).code.length≤0+_ at hc1;change _≤(s1F p (p.funcs.getD j j0)).sites.length∧(s1F p (p.funcs.getD j j0)).sites.length≤0+_ at hc2;refine c8.aC (h++[⟨0,false,27,3,[.vec p.globals.length (p4 p.globals),.vec p.mutexes.length (c9 p.mutexes),.vec p.funcs.length (n8 p.funcs)],0⟩,⟨0,false,136,3,[.str (p.funcs.getD j j0).name,.vec (p.funcs.getD j j0).params.length (v9 (p.funcs.getD j j0).params),.vec (p.funcs.getD j j0).body.len (o9 (p.funcs.getD j j0).body)],0⟩,⟨0,false,57,5,[.str ByteArray.empty,.int .i64 0,.int .i64 0,.int .i64 0,.nils],0⟩,Lb,z8 (h.length+4) (s1F p (p.funcs.getD j j0)),p9 54 12 (s1F p (p.funcs.getD j j0)).code.length (p5 (s1F p (p.funcs.getD j j0)).code),p9 3 1 (s1F p (p.funcs.getD j j0)).sites.length (g6 (s1F p (p.funcs.getD j j0)).sites),⟨0,false,57,5,[.str (p.funcs.getD j j0).name,.int .i64 ((fV (p.funcs.getD j j0).params:Nat):Int),.int .i64 ((aX (p.funcs.getD j j0).params:Nat):Int),.int .i64 0,.nils],0⟩]) rfl ?_;refine c139z ?_;refine .ch rfl rfl (c_putF (s:=(s1F p (p.funcs.getD j j0))) (by omega) (by omega) ⟨8,0,false,l4,bW,[],[]⟩ _ (by repeat' (first | exact trivial | exact oO.refl _ | exact .inl rfl | exact .inr ⟨rfl,rfl⟩ | refine ⟨?_,?_⟩))) ?_;refine .nil ?_;refine .c5 [6,10,11] ?_;refine c8.aC (h++[⟨0,false,27,3,[.vec p.globals.length (p4 p.globals),.vec p.mutexes.length (c9 p.mutexes),.vec p.funcs.length (n8 p.funcs)],0⟩,⟨0,false,136,3,[.str (p.funcs.getD j j0).name,.vec (p.funcs.getD j j0).params.length (v9 (p.funcs.getD j j0).params),.vec (p.funcs.getD j j0).body.len (o9 (p.funcs.getD j j0).body)],0⟩,⟨0,false,57,5,[.str ByteArray.empty,.int .i64 0,.int .i64 0,.int .i64 0,.nils],0⟩,Lb,z8 (h.length+4) (s2F p (p.funcs.getD j j0)),p9 54 12 (s2F p (p.funcs.getD j j0)).code.length (p5 (s2F p (p.funcs.getD j j0)).code),p9 3 1 (s2F p (p.funcs.getD j j0)).sites.length (g6 (s2F p (p.funcs.getD j j0)).sites),⟨0,false,57,5,[.str (p.funcs.getD j j0).name,.int .i64 ((fV (p.funcs.getD j j0).params:Nat):Int),.int .i64 ((aX (p.funcs.getD j j0).params:Nat):Int),.int .i64 0,.nils],0⟩]) rfl ?_;refine c8.nM (γ:=h.length+5) (β:=h.length+4) (k:=8) (len:=(s2F p (p.funcs.getD j j0)).code.length) t25 (by rw[u4];omega) (by omega) (WT _) t25 (by omega) rfl ?_;simp only[B6,vM,vN,B7,B8,rD,List.append_assoc,List.cons_append,List.nil_append,q9,n4,List.set_cons_succ,List.set_cons_zero,List.length_append,List.length_cons,List.length_nil,Nat.reduceAdd,Nat.zero_add];generalize fM 54 12 (s2F p (p.funcs.getD j j0)).code.length (p5 (s2F p (p.funcs.getD j j0)).code) ((s2F p (p.funcs.getD j j0)).code.length*12)=Cb;refine c8.nM (γ:=h.length+6) (β:=h.length+4) (k:=9) (len:=(s2F p (p.funcs.getD j j0)).sites.length) t25 (by rw[l8];omega) (by omega) (xE _) t25 (by omega) rfl ?_;simp only[List.append_assoc,List.cons_append,List.nil_append,q9,n4,List.set_cons_succ,List.set_cons_zero,List.length_append,List.length_cons,List.length_nil,Nat.reduceAdd,Nat.zero_add];generalize fM 3 1 (s2F p (p.funcs.getD j j0)).sites.length (g6 (s2F p (p.funcs.getD j j0)).sites) ((s2F p (p.funcs.getD j j0)).sites.length*1)=Sb;refine .sg u9 (mkH 12 [0,1,3,7,0,16,48,112,15,271,1023,2047] [9,11] [] [0,512,2560] [4,5,6,7]) 0 ?_;refine c98z ?_;refine .p 3 ?_;refine c146z ?_;refine .en [true] [512,0] [_] ?_;refine .p 1 ?_;refine .en [true,false] [2560,512,0] [_] ?_;refine c181z ?_;refine .c5 [6,10,11] ?_;refine .sg u9 (mkH 17 [0,0,2,6,14,0,32,96,224,0,512,1536,3584,1,8223,25087,65535] [13] [] [0,8192] [1,2,3,4,5,6,7,8,9,10,11,12]) 0 ?_;refine .rn [true] ?_;refine c202z ?_;refine c202z ?_;refine c202z ?_;refine .en [true] [8192,0] [_] ?_;refine .p 3 ?_;refine .po [true,true] ?_;refine .po [true,true] ?_;refine .po [true,true] ?_;refine w8.nil rfl ?_;exact .ret (.ex (hq:=by rfl))
end
theorem plnMx (l:List Mx):aA (c9 l):=aA.flat fun _=>aA.cons .str (aA.cons .bool (aA.cons .int .nil))
theorem plnPr (l:List Pr):aA (g7 l):=aA.flat fun _=>aA.cons .str (aA.cons .int (aA.cons .int (aA.cons .int (aA.cons .vec .nil))))
theorem T5 {l:List Pr}{x:Pr}:g7 (l++[x])=g7 l++uU x:=by simp[g7]
theorem DW {l:List Gl}(h:i<l.length):List.take 1 (List.drop (i*2+1) (p4 l))=[.int .i64 (l.getD i lM).init]:=DT DB 2 1 (fun _=>rfl) (by omega) lM h
theorem app_cpM {l:c7}{ms:List Mx}(hz:ms.length=n)(h0:0<n)(hn:n<1000):j6 cfg 66 (h++(b0::b1::b2::⟨1,false,66,3,[],0⟩::l)) (.own (h.length+3) 1 0 0) (.vec n (c9 ms))=some (.own (h.length+3) 2 0 n,h++(b0::b1::b2::⟨2,false,66,3,c9 ms,0⟩::l)):=by
  subst hz;have e1:cfg.sz 66=3:=rfl;have e2:(cfg.ti 66).bytes=32:=rfl;have hm:ms.length≤maxLen:=by
    have:(1000:Nat)≤maxLen:=by decide
    omega
  have hb:ms.length*32≤140737488355328:=by omega
  have h1:(c9 ms).length=ms.length*3:=by rw[p8];omega
  have h2:¬ms.length=0:=by omega
  have h3:¬ms.length*3=0:=by omega
  simp[j6,rd,lenOf,e1,e2,h1,hm,hb,q9,n4,h0,h2,h3]
theorem app_gi {l:c7}{is:List Int}{x:Int}(hn:is.length=n)(hl:n<100000):j6 cfg 3 (h++(b0::b1::b2::b3::b4::p9 3 1 g (g6 is)::⟨0,false,3,1,[.int .i64 x],0⟩::l)) (.own (h.length+5) g 0 n) (.own (h.length+6) 0 0 1)=some (.own (h.length+5) (g+1) 0 (n+1),h++(b0::b1::b2::b3::b4::p9 3 1 (g+1) (g6 (is++[x]))::⟨0,false,3,1,[.int .i64 x],0⟩::l)):=by subst hn;rw[u7 (C:=cfg) (K:=1) (m:=1) (new:=[.int .i64 x]) (zs:=g6 is) t25 rfl (by omega) (by rw[l8,Nat.mul_one]) rfl (by omega) t116 rfl (by decide) (by omega),←pT,n4];rfl
theorem app_pr {b5 b7:Blk}{l:c7}{ps:List Pr}{x:Pr}(hn:ps.length=n)(hl:n<100000):j6 cfg 57 (h++(b0::b1::b2::b3::b4::b5::p9 57 5 g (g7 ps)::b7::⟨0,false,57,5,uU x,0⟩::l)) (.own (h.length+6) g 0 n) (.own (h.length+8) 0 0 1)=some (.own (h.length+6) (g+1) 0 (n+1),h++(b0::b1::b2::b3::b4::b5::p9 57 5 (g+1) (g7 (ps++[x]))::b7::⟨0,false,57,5,uU x,0⟩::l)):=by subst hn;rw[u7 (C:=cfg) (K:=5) (m:=1) (new:=uU x) (zs:=g7 ps) t25 rfl (by omega) (by rw[aN,Nat.mul_comm]) rfl (by omega) (by simp[rd,q9,uU]) rfl (by decide) (by omega),←T5,n4];rfl
theorem SZ {l:List Fu}(h:0<l.length):List.take 1 (List.drop 1 (n8 l))=[AV.vec (l.getD 0 j0).params.length (v9 (l.getD 0 j0).params)]:=nB (i:=0) h
theorem JY (hp:GP p):bP (aO p) ⟨#[109,97,105,110]⟩=some ⟨⟨#[109,97,105,110]⟩,3,0⟩:=by have hf:=hp.fl.1;have hn:(p.funcs.getD 0 j0).name=⟨#[109,97,105,110]⟩:=(hp.fn 0 (by omega)).1;have:=qZ (xZ hp) (e:=⟨(p.funcs.getD 0 j0).name,3,((0:Nat):Int)⟩) (List.mem_append.2 (.inr (List.mem_append.2 (.inr (List.mem_map.2 ⟨0,List.mem_range.2 (by omega),rfl⟩)))));rw[hn]at this;exact this
theorem taken {α:Type}{l:List α}{d:α}(h:i<l.length):l.take (i+1)=l.take i++[l.getD i d]:=by rw[List.take_add_one];simp[List.getD,h]
theorem JZ {x:Pr}:(uU x).length=5:=rfl
theorem takePr {x:Pr}:List.take 5 (uU x)=uU x:=rfl
section
attribute [local go_sem] app_cpM app_gi app_pr nB SZ DW uT JZ takePr
theorem c_lower (hp:GP p):CB 54 [.agg [.vec p.globals.length (p4 p.globals),.vec p.mutexes.length (c9 p.mutexes),.vec p.funcs.length (n8 p.funcs)]] h (.tup [.agg (encUn (dB p)),.int .i64 0,.int .i64 0,.int .i64 0]):=by
  refine .bz Tryz.f54 112 ?_;have hdl:=pW (p:=p);have hgl:=hp.gl;have hml:=hp.ml;have hfl:=hp.fl;have hmain:=JY hp;have hz0:(p.funcs.getD 0 j0).params.length=0:=by rw[(hp.fn 0 (by omega)).2.1 rfl];rfl
  refine c19z ?_;refine c63z ?_;refine .ca rfl rfl (c_valid hp) ?_;refine .n ?_;refine c20z ?_;refine c63z ?_;refine .ca rfl rfl (c_decl hp) ?_;refine c35z ?_;refine .c5 [1,2,6,7] ?_;refine c9z ?_;refine .sk ?_;refine c63z ?_;refine .ca rfl rfl (S8 hmain (by omega)) ?_;refine c35z ?_;refine .s ?_;refine .k 8 [(2,37)] ?_;refine .k 8 [(7,42)] ?_;refine .m [(7,42)] ?_;refine uFbz ?_;intro e1 qe1;refine .sk ?_;refine .c5 [1,2,6,8,30] ?_;refine .sg u9 (mkH 9 [0,1,0,0,8,28,63,0,255] [2,5,7,8] [(2,0),(7,1)] [0,4,36,128,132,164,420] [0,1,2,3,4,5,6]) 2 ?_;refine c33z ?_;refine .em [true] [4,0] [_] ?_;refine .p 1 ?_;refine .rm [true,true] ?_;refine .em [true,false] [36,4,0] [_] ?_;refine .p 1 ?_;refine .en [true,true,true] [164,132,128,36,4,0] [_,_,_] ?_;refine .en [true,false,false,false,false,false] [420,164,132,128,36,4,0] [_] ?_;refine .po [false,false,true,false,false,true,false] ?_;refine .po [false,false,true,true,false,true,true] ?_;refine .po [false,false,false,true,false,false,true] ?_;refine .po [false,true,true,true,true,true,true] ?_;refine w8.nil rfl ?_;refine .seq ?_;refine .c5 [1,2,6,10,30] ?_;refine c14z ?_;refine c8.mE (β:=h.length+4) (k:=0) t25 rfl ?_;simp only[List.append_assoc,List.cons_append,List.nil_append,q9,n4,List.set_cons_succ,List.set_cons_zero,List.length_append,List.length_cons,List.length_nil,Nat.reduceAdd,Nat.zero_add];refine .u0 (fun m st=>∃(i:Nat),(m=p.globals.length-i∧i≤p.globals.length)∧st=⟨mkS 112 [(1,AV.ptr h.length 0 0),(2,AV.ptr (h.length+1) 0 0),(6,AV.vec (aO p).length (j5 (aO p))),(10,AV.ptr (h.length+4) 1 0),(11,AV.int .i64 ((i:Nat):Int))],h++[⟨0,false,27,3,[.vec p.globals.length (p4 p.globals),.vec p.mutexes.length (c9 p.mutexes),.vec p.funcs.length (n8 p.funcs)],0⟩,⟨0,false,30,4,[.nils,.nils,.nils,.int .i64 0],0⟩,⟨0,false,145,3,[.str ⟨#[109,97,105,110]⟩,.int .i64 3,.int .i64 0],0⟩,⟨2,false,66,3,c9 p.mutexes,0⟩,⟨1,false,30,4,[.own (h.length+5) i 0 i,.own (h.length+3) 2 0 p.mutexes.length,.nils,.int .i64 0],0⟩,p9 3 1 i (g6 ((dB p).globals.take i))]⟩) (.v ⟨0,⟨rfl,by omega⟩,rfl⟩) ?_;rintro m sl h' ⟨i,⟨hm,hi⟩,hst⟩;obtain ⟨rfl,rfl⟩:=St.mk.inj hst;clear hst;have htl:((dB p).globals.take i).length=i:=by simp[dB];omega
  refine c0z ?_;refine u2z ?_ ?_
  ·intro e2 qe2;refine c2z ?_;refine .og u9 (mkH 12 [0,1,0,4,0,28,60,124,252,511,1023,2047] [8,9,11] [] [0,256,768,2816] [0,1]) 0 ?_;refine c33z ?_;refine .p 1 ?_;refine c242z ?_;refine .en [true] [256,0] [_] ?_;refine .en [true,false] [768,256,0] [_] ?_;refine .p 1 ?_;refine .en [true,false,false] [2816,768,256,0] [_] ?_;refine c137z ?_;refine .c5 [1,2,6,10,11] ?_;refine .rz ?_;exact ⟨_,by omega,.v ⟨(i+1),⟨rfl,by omega⟩,rfl⟩ (he:=by (rw[taken (d:=0) (l:=(dB p).globals) (by simp[dB];omega),show (dB p).globals.getD i 0=(p.globals.getD i lM).init from getD_map (by omega)];simp only[List.append_assoc,List.cons_append,List.nil_append];rfl)) (hk:=by exact (v5.refl _).app rfl ⟨.inl rfl,.inl rfl,.inl rfl,.inl rfl,.inr (gK.get ⟨.own _ _ _ _ (by simp),.own _ _ _ _ (by simp),.nils,.int _ _,trivial⟩),.inr (by rw[o3];exact (xE _).refs _),trivial⟩)⟩
  intro e2 qe2;refine .exit ?_;obtain rfl:i=p.globals.length:=by omega
  change c8 ..;refine c5z ?_;refine c8.mE (β:=h.length+4) (k:=2) t25 rfl ?_;simp only[List.append_assoc,List.cons_append,List.nil_append,q9,n4,List.set_cons_succ,List.set_cons_zero,List.length_append,List.length_cons,List.length_nil,Nat.reduceAdd,Nat.zero_add];refine .u0 (fun m st=>∃(i:Nat),(m=p.funcs.length-i∧i≤p.funcs.length)∧st=⟨mkS 112 [(1,AV.ptr h.length 0 0),(2,AV.ptr (h.length+1) 0 0),(6,AV.vec (aO p).length (j5 (aO p))),(10,AV.ptr (h.length+4) 1 0),(12,AV.int .i64 ((i:Nat):Int))],h++[⟨0,false,27,3,[.vec p.globals.length (p4 p.globals),.vec p.mutexes.length (c9 p.mutexes),.vec p.funcs.length (n8 p.funcs)],0⟩,⟨0,false,30,4,[.nils,.nils,.nils,.int .i64 0],0⟩,⟨0,false,145,3,[.str ⟨#[109,97,105,110]⟩,.int .i64 3,.int .i64 0],0⟩,⟨2,false,66,3,c9 p.mutexes,0⟩,⟨1,false,30,4,[.own (h.length+5) p.globals.length 0 p.globals.length,.own (h.length+3) 2 0 p.mutexes.length,.own (h.length+6) i 0 i,.int .i64 0],0⟩,p9 3 1 p.globals.length (g6 ((dB p).globals.take p.globals.length)),p9 57 5 i (g7 ((dB p).procs.take i))]⟩) (.v ⟨0,⟨rfl,by omega⟩,rfl⟩) ?_;rintro m sl h' ⟨i,⟨hm,hi⟩,hst⟩;obtain ⟨rfl,rfl⟩:=St.mk.inj hst;clear hst;have htl:((dB p).procs.take i).length=i:=by simp[dB];omega
  refine c0z ?_;refine u2z ?_ ?_
  ·intro e3 qe3;refine c2z ?_;refine .sg u9 (mkH 18 [0,0,0,4,0,28,60,127,255,511,511,511,511,0,9215,26623,61439,131071] [13,14] [] [0,8192,24576] [0,1,2,3,4,5,6,7,8,9,10,11,12]) 0 ?_;refine .rm [true] ?_;refine .p 2 ?_;refine .rm [true] ?_;refine .p 2 ?_;refine .rm [true] ?_;refine .cl rfl rfl (fun _=>c_func hp (by omega)) ?_;refine .p 5 ?_;refine .en [true] [8192,0] [_] ?_;refine .en [true,false] [24576,8192,0] [_] ?_;refine .p 3 ?_;refine c37z ?_;refine c181z ?_;refine .seq ?_;refine .c5 [1,2,6,10,12,13,15,16] ?_;refine c9z ?_;refine .sk ?_;refine c1z ?_;refine .c5 [1,2,6,10,12] ?_;refine .rz ?_;exact ⟨_,by omega,.v ⟨(i+1),⟨rfl,by omega⟩,rfl⟩ (he:=by (rw[taken (d:=pK) (l:=(dB p).procs) (by simp[dB];omega),show (dB p).procs.getD i pK=nN p (p.funcs.getD i j0) from getD_map (by omega)];simp only[List.append_assoc,List.cons_append,List.nil_append];rfl)) (hk:=by exact (v5.refl _).app rfl ⟨.inl rfl,.inl rfl,.inl rfl,.inl rfl,.inr (gK.get ⟨.own _ _ _ _ (by simp),.own _ _ _ _ (by simp),.own _ _ _ _ (by simp),.int _ _,trivial⟩),.inl rfl,.inr (by rw[o3];exact (plnPr _).refs _),trivial⟩)⟩
  intro e3 qe3;refine .exit ?_;obtain rfl:i=p.funcs.length:=by omega
  have hgt:(dB p).globals.take p.globals.length=(dB p).globals:=List.take_of_length_le (by simp[dB]);have hpt:(dB p).procs.take p.funcs.length=(dB p).procs:=List.take_of_length_le (by simp[dB]);rw[hgt,hpt];have hgl2:(dB p).globals.length=p.globals.length:=by simp[dB]
  have hpl2:(dB p).procs.length=p.funcs.length:=by simp[dB]
  refine c8.nM (γ:=h.length+5) (β:=h.length+4) (k:=0) (len:=p.globals.length) t25 (by rw[l8,hgl2,Nat.mul_one]) (by omega) (xE _) t25 (by omega) rfl ?_;simp only[List.append_assoc,List.cons_append,List.nil_append,q9,n4,List.set_cons_succ,List.set_cons_zero,List.length_append,List.length_cons,List.length_nil,Nat.reduceAdd,Nat.zero_add];generalize fM 3 1 p.globals.length (g6 (dB p).globals) (p.globals.length*1)=Gb;refine c8.nM (γ:=h.length+6) (β:=h.length+4) (k:=2) (len:=p.funcs.length) t25 (by rw[aN,hpl2,Nat.mul_comm]) (by omega) (plnPr _) t25 (by omega) rfl ?_;simp only[List.append_assoc,List.cons_append,List.nil_append,q9,n4,List.set_cons_succ,List.set_cons_zero,List.length_append,List.length_cons,List.length_nil,Nat.reduceAdd,Nat.zero_add];generalize fM 57 5 p.funcs.length (g7 (dB p).procs) (p.funcs.length*5)=Pb;refine c8.H6 (γ:=h.length+3) (β:=h.length+4) (k:=1) (off:=0) (len:=p.mutexes.length) (cs:=c9 p.mutexes) t25 rfl (by simp only[p8];omega) (by rw[List.drop_zero,List.take_of_length_le (by simp only[p8];omega)];exact (plnMx _).VK) t25 (by omega) rfl ?_;refine c12z ?_;refine .c5 [2,10] ?_;refine .z ?_;exact .ret (.ex (hq:=by (simp only[encUn,hgl2,hpl2];rfl)))
end
end Go.Proofs.YtonbocmibeikmaaGreat
end
section
namespace Go.Proofs.YtonbocmibeikmaaGreat
open Go.Ab Go.Un
variable {a b:List Int}{i:Nat}
theorem ne_at (h:a.getD i 0≠b.getD i 0):¬a=b:=fun e=>h (by rw[e])
theorem eq_all (hl:a.length=b.length)(h:∀d,d<a.length→a.getD d 0=b.getD d 0):a=b:=by refine List.ext_getElem hl fun i h1 h2=>?_;have:=h i h1;simpa [List.getD,h1,h2] using this
theorem all_nx (h:∀d,d<i→a.getD d 0=b.getD d 0)(e:a.getD i 0=b.getD i 0):∀d,d<i+1→a.getD d 0=b.getD d 0:=fun d hd=>by
  by_cases hdi:d=i
  · rw[hdi];exact e
  · exact h d (by omega)
variable {l:List Int}{n:Int}
theorem no_nx (h:∀d,d<i→l.getD d 0≠n)(e:l.getD i 0≠n):∀d,d<i+1→l.getD d 0≠n:=fun d hd=>by
  by_cases hdi:d=i
  · rw[hdi];exact e
  · exact h d (by omega)
theorem no_mem (h:∀d,d<l.length→l.getD d 0≠n):¬n∈l:=fun hm=>by obtain ⟨i,hi,rfl⟩:=bX (d:=(0:Int)) hm;exact h i hi rfl
theorem take_I {k:Nat}:List.take k (g6 l)=g6 (l.take k):=by simp[g6,List.map_take]
theorem dropt_I {k:Nat}:List.take (l.length-k) (List.drop k (g6 l))=g6 (l.drop k):=by rw[g6,←List.map_drop,List.take_of_length_le (by simp)];rfl
theorem lO (h:i<l.length):List.take 1 (List.drop i (g6 l))=[.int .i64 (l.getD i 0)]:=by
  have h2:i<(g6 l).length:=by rw[l8];exact h
  rw[List.drop_eq_getElem_cons h2];simp[g6,List.getD,h]
def gW (g n:Nat):Nat:=if n=0 then g else g+1
def kW (l:List Int)(n:Int):Nat:=(l.takeWhile fun x=>decide (x<n)).length
def jQ (l:List Int)(n:Int):List Int:=if n∈l then l else l.take (kW l n)++n::l.drop (kW l n)
theorem kW_at:∀{k:Nat},k≤l.length→(∀d,d<k→l.getD d 0<n)→(k<l.length→¬l.getD k 0<n)→k=kW l n:=by
  induction l with
  | nil=>intro k hk _ _;simp at hk;subst hk;rfl
  | cons x l ih=>
    intro k hk h1 h2;cases k with
    | zero=>
      have:=h2 (by simp);simp only[List.getD_cons_zero]at this;simp[kW,List.takeWhile,this]
    | succ k=>
      have h0:=h1 0 (by omega);simp only[List.getD_cons_zero]at h0;have:=ih (k:=k) (by simpa using hk) (fun d hd=>by have:=h1 (d+1) (by omega);simpa using this) (fun hl=>by have:=h2 (by simpa using hl);simpa using this);rw[kW,List.takeWhile_cons_of_pos (by simpa using h0),List.length_cons,this];rfl
theorem lt_nx (h:∀d,d<i→l.getD d 0<n)(e:l.getD i 0<n):∀d,d<i+1→l.getD d 0<n:=fun d hd=>by
  by_cases hdi:d=i
  · rw[hdi];exact e
  · exact h d (by omega)
variable {h:c7}{g:Nat}
theorem app_w {l:c7}{n m:Nat}(ha:a.length=n)(hb:b.length=m)(hn:n<150000)(hm:m<100000):j6 cfg 3 (h++(⟨g,false,3,1,g6 a,0⟩::l)) (.own h.length g 0 n) (.vec m (g6 b))=some (.own h.length (gW g m) 0 (n+m),h++(⟨gW g m,false,3,1,g6 (a++b),0⟩::l)):=by
  subst ha hb;have e1:cfg.sz 3=1:=rfl;have e2:(cfg.ti 3).bytes=8:=rfl;have h1:a.length+b.length≤maxLen:=by
    have:(300000:Nat)≤maxLen:=by decide
    omega
  have h2:(a.length+b.length)*8≤140737488355328:=by omega
  have ht:List.take a.length (g6 a)=g6 a:=List.take_of_length_le t193;have hs:g6 (a++b)=g6 a++g6 b:=by simp[g6]
  cases b with
  | nil=>
    simp only[List.length_nil,Nat.add_zero]at h1 h2;simp[j6,rd,lenOf,e1,e2,gW,hs,g6,h1,h2]
  | cons x b=>
    simp only[List.length_cons]at h1 h2;have h3:¬a.length+(b.length+1)≤a.length:=by omega
    simp[j6,rd,lenOf,e1,e2,l8,h1,h2,ht,h3,gW,hs,iW,zA]
theorem app_w0 {l:c7}{m:Nat}(hb:b.length=m)(hm:m<100000):j6 cfg 3 (h++(⟨g,false,3,1,[],0⟩::l)) (.own h.length g 0 0) (.vec m (g6 b))=some (.own h.length (gW g m) 0 m,h++(⟨gW g m,false,3,1,g6 b,0⟩::l)):=by have:=app_w (h:=h) (l:=l) (a:=[]) (b:=b) (g:=g) (n:=0) rfl hb (by omega) hm;rw[Nat.zero_add]at this;exact this
theorem app_w1 {l:c7}{x:Int}{n:Nat}(ha:a.length=n)(hn:n<100000):j6 cfg 3 (h++(⟨g,false,3,1,g6 a,0⟩::⟨1,false,3,1,[.int .i64 x],0⟩::l)) (.own h.length g 0 n) (.own (h.length+1) 1 0 1)=some (.own h.length (g+1) 0 (n+1),h++(⟨g+1,false,3,1,g6 (a++[x]),0⟩::⟨1,false,3,1,[.int .i64 x],0⟩::l)):=by
  subst ha;have e1:cfg.sz 3=1:=rfl;have e2:(cfg.ti 3).bytes=8:=rfl;have h1:a.length+1≤maxLen:=by
    have:(200000:Nat)≤maxLen:=by decide
    omega
  have h2:(a.length+1)*8≤140737488355328:=by omega
  have ht:List.take a.length (g6 a)=g6 a:=List.take_of_length_le t193;have hs:g6 (a++[x])=g6 a++[.int .i64 x]:=pT;have h3:¬a.length+1≤a.length:=by omega
  simp[j6,rd,lenOf,e1,e2,l8,h1,h2,ht,h3,hs,q9,iW,zA]
theorem frz_I {n d:Nat}{H:c7}:r6 (lK n H (d+1)) (g6 l)=some (g6 l):=(xE l).frz _ _ _
theorem L2 {n β len:Nat}{H:c7}(hb:H[β]?=some ⟨g,false,3,1,g6 a,0⟩)(hn:n≤β)(hl:a.length=len):iL n H 6 (.own β g 0 len)=some (.vec len (g6 a)):=by subst hl;rw[eF,if_neg (by omega),gH,hb];simp only[hn,and_self,if_true,Bool.false_eq_true,if_false,Nat.zero_add,Nat.mul_one,l8,Nat.le_refl,List.drop_zero];rw[List.take_of_length_le t193,frz_I]
def fI:List y0→y0→Int
  | [],_ => -1
  | a::l,x=>if a=x then 0 else if fI l x<0 then -1 else fI l x+1
theorem fI_at:∀{l:List y0} {x:y0} {i:Nat},i<l.length→(∀d,d<i→l.getD d l6≠x)→l.getD i l6=x→fI l x=i
  | [],x,i,h,_,_=>by simp at h
  | a::l,x,0,_,_,h=>by simp only[List.getD_cons_zero]at h;rw[fI,if_pos h];rfl
  | a::l,x,i+1,hi,h1,h2=>by have h0:=h1 0 (by omega);simp only[List.getD_cons_zero]at h0;have ih:=fI_at (l:=l) (x:=x) (i:=i) (by simpa using hi) (fun d hd=>by have:=h1 (d+1) (by omega);simpa using this) (by simpa using h2);rw[fI,if_neg h0,ih,if_neg (by omega)];omega
theorem Cf:∀{l:List y0} {x:y0},(∀d,d<l.length→l.getD d l6≠x)→fI l x = -1
  | [],x,_=>rfl
  | a::l,x,h=>by have h0:=h 0 (by simp);simp only[List.getD_cons_zero]at h0;have ih:=Cf (l:=l) (x:=x) (fun d hd=>by have:=h (d+1) (by simpa using hd);simpa using this);rw[fI,if_neg h0,ih,if_pos (by omega)]
theorem BB:∀{l:List y0} {x:y0},x∈l→0≤fI l x∧fI l x<l.length∧l.getD (fI l x).toNat l6=x
  | [],x,h=>by simp at h
  | a::l,x,h=>by
    by_cases hx:a=x
    · rw[fI,if_pos hx];simp[hx]
    · have ih:=BB (l:=l) (x:=x) (by simpa [Ne.symm hx] using h)
      rw[fI,if_neg hx,if_neg (by omega)];refine ⟨by omega,t55,?_⟩;rw[show (fI l x+1).toNat=(fI l x).toNat+1 from by omega];simpa using ih.2.2
variable {x:y0}
theorem fI_not {l:List y0}(h:x∉l):fI l x = -1:=Cf fun d hd e=>h (e▸j7 hd)
theorem it_ne {l:List y0}(h:∀d,d<i→l.getD d l6≠x)(e:l.getD i l6≠x):∀d,d<i+1→l.getD d l6≠x:=fun d hd=>by
  by_cases hdi:d=i
  · rw[hdi];exact e
  · exact h d (by omega)
theorem it_ne1 {l:List y0}(h:¬(l.getD i l6).proc=x.proc):l.getD i l6≠x:=fun e=>h (by rw[e])
theorem it_ne2 {l:List y0}(h:¬(l.getD i l6).j4=x.j4):l.getD i l6≠x:=fun e=>h (by rw[e])
theorem nD {l:List y0}(h:i<l.length):List.take 1 (List.drop (i*2) (g9 l))=[.int .i64 (l.getD i l6).proc]:=DT DC 2 0 (fun _=>rfl) (by omega) l6 h
theorem BC {l:List y0}(h:i<l.length):List.take 1 (List.drop (i*2+1) (g9 l))=[.vec (l.getD i l6).j4.length (g6 (l.getD i l6).j4)]:=DT DC 2 1 (fun _=>rfl) (by omega) l6 h
theorem nE {l:List y0}(h:i<l.length):List.take 2 (List.drop (i*2) (g9 l))=[.int .i64 (l.getD i l6).proc,.vec (l.getD i l6).j4.length (g6 (l.getD i l6).j4)]:=HG h
variable {u:Un}{it:y0}
theorem dE (h:it.proc.toNat<u.procs.length):List.take 1 (List.drop (it.proc.toNat*5+4) (g7 u.procs))=[.vec (c6 u it).length (p5 (c6 u it))]:=DT uU 5 4 (fun _=>rfl) (by omega) pK h
theorem iD {l:List Ins}(h:i<l.length):List.take 1 (List.drop (i*12) (p5 l))=[.int .i64 (l.getD i g0).op]:=by rw[show i*12=i*12+0 from rfl,p5,DT eM 12 0 aR (by omega) g0 h,lD];rfl
theorem TA {l:List Ins}(h:i<l.length):List.take 1 (List.drop (i*12+1) (p5 l))=[.int .i64 (l.getD i g0).target]:=by rw[p5,DT eM 12 1 aR (by omega) g0 h,lD];rfl
theorem TB {l:List Ins}(h:i<l.length):List.take 1 (List.drop (i*12+11) (p5 l))=[.vec (l.getD i g0).places.length (dP (l.getD i g0).places)]:=by rw[p5,DT eM 12 11 aR (by omega) g0 h,lD];rfl
theorem TC {l:List Pl}(h:i<l.length):List.take 3 (List.drop (i*3) (dP l))=[.bool (l.getD i bW).param,.int .i64 (l.getD i bW).index,.vec (l.getD i bW).at'.length (n7 (l.getD i bW).at')]:=read_pl h
theorem app_lk {b0 b1 b2 b3:Blk}{l:c7}{is:List Int}{x:Int}{n:Nat}(hn:is.length=n)(hl:n<100000):j6 cfg 3 (h++(b0::b1::b2::b3::p9 3 1 g (g6 is)::⟨0,false,3,1,[.int .i64 x],0⟩::l)) (.own (h.length+4) g 0 n) (.own (h.length+5) 0 0 1)=some (.own (h.length+4) (g+1) 0 (n+1),h++(b0::b1::b2::b3::p9 3 1 (g+1) (g6 (is++[x]))::⟨0,false,3,1,[.int .i64 x],0⟩::l)):=by subst hn;rw[u7 (C:=cfg) (K:=1) (m:=1) (new:=[.int .i64 x]) (zs:=g6 is) t25 rfl (by omega) (by rw[l8,Nat.mul_one]) rfl (by omega) t116 rfl (by decide) (by omega),←pT,n4];rfl
attribute [local go_sem] rd s6 o2 bD cM u4 aR fQ dI p8 bA aM l8 bF Int.natCast_nonneg Int.natCast_inj List.length_map wrap64 fY jA jB AB J4 R3 AD zZ max2 eY cR bH Nat.reduceMul mY kA iM vL lO app_w app_w0 app_w1 Nat.sub_zero Option.bind_eq_bind take_I dropt_I nD BC nE dE iD TA TB TC app_lk w6 aN
theorem WW (a b:List Int)(hl:a.length<1000000):CB 31 [.vec a.length (g6 a),.vec b.length (g6 b)] h (.bool (decide (a=b))):=by
  refine .bz Tryz.f31 26 ?_;refine c89z ?_;refine u2z ?_ ?_
  ·intro e1 qe1;refine c105z ?_;exact ⟨[],_,(List.append_nil _).symm,t43,t56⟩
  intro e1 qe1;refine .sk ?_;refine c5z ?_;refine .cA (fun m st=>∃(i:Nat),(m=a.length-i∧((∀d,d<i→a.getD d 0=b.getD d 0)∧i≤a.length))∧st=⟨mkS 26 [(0,AV.vec a.length (g6 a)),(1,AV.vec b.length (g6 b)),(5,AV.int .i64 ((i:Nat):Int))],h⟩) _ (.v ⟨0,⟨rfl,⟨t107,by omega⟩⟩,rfl⟩) ?_;rintro m sl h' ⟨i,⟨hm,⟨hI,hi⟩⟩,hst⟩;obtain ⟨rfl,rfl⟩:=St.mk.inj hst;refine c0z ?_;refine u2z ?_ ?_
  ·intro e2 qe2;refine c2z ?_;refine .ss u9 (mkP 9 [0,0,3,7,0,0,48,112,255] []) ?_;refine c50z ?_;refine u2z ?_ ?_
   ·intro e3 qe3;refine c105z ?_;exact ⟨[],_,(List.append_nil _).symm,t43,t56⟩
   intro e3 qe3;refine c4z ?_;refine c206z ?_;exact ⟨_,by omega,.v ⟨(i+1),⟨rfl,⟨all_nx hI (by omega),by omega⟩⟩,rfl⟩⟩
  intro e2 qe2;refine c94z ?_;exact ⟨[],_,(List.append_nil _).symm,t43,t56⟩
theorem WX (l:List Int)(n:Int)(hl:l.length<1000000):CB 109 [.vec l.length (g6 l),.int .i64 n] h (.bool (decide (n∈l))):=by
  refine .bz Tryz.f109 18 ?_;refine c17z ?_;refine .cA (fun m st=>∃(i:Nat),(m=l.length-i∧((∀d,d<i→l.getD d 0≠n)∧i≤l.length))∧st=⟨mkS 18 [(0,AV.vec l.length (g6 l)),(1,AV.int .i64 n),(5,AV.int .i64 ((i:Nat):Int))],h⟩) _ (.v ⟨0,⟨rfl,⟨t107,by omega⟩⟩,rfl⟩) ?_;rintro m sl h' ⟨i,⟨hm,⟨hI,hi⟩⟩,hst⟩;obtain ⟨rfl,rfl⟩:=St.mk.inj hst;refine c0z ?_;refine u2z ?_ ?_
  ·intro e1 qe1;refine c72z ?_;refine u2z ?_ ?_
   ·intro e2 qe2;refine c105z ?_;exact ⟨[],_,(List.append_nil _).symm,t43,t98⟩
   intro e2 qe2;refine c4z ?_;refine c206z ?_;exact ⟨_,by omega,.v ⟨(i+1),⟨rfl,⟨no_nx hI (by omega),by omega⟩⟩,rfl⟩⟩
  intro e1 qe1;refine c94z ?_;exact ⟨[],_,(List.append_nil _).symm,t43,t98⟩
theorem c_hasY (hm:n∈l)(hl:l.length<1000000):CB 109 [.vec l.length (g6 l),.int .i64 n] h (.bool true):=by have:=WX (h:=h) l n hl;rw[decide_eq_true hm]at this;exact this
theorem c_hasN (hm:n∉l)(hl:l.length<1000000):CB 109 [.vec l.length (g6 l),.int .i64 n] h (.bool false):=by have:=WX (h:=h) l n hl;rw[decide_eq_false hm]at this;exact this
theorem c_withY (l:List Int)(n:Int)(hl:l.length<100000)(hmem:n∈l):CB 69 [.vec l.length (g6 l),.int .i64 n] h (.vec (jQ l n).length (g6 (jQ l n))):=by refine .bz Tryz.f69 36 ?_;refine c19z ?_;refine c31z ?_;refine .ca rfl rfl (c_hasY hmem (by omega)) ?_;refine .nil ?_;refine .T ?_;refine .z ?_;exact .ret (.ex (hq:=by (rw[jQ,if_pos hmem])))
theorem c_withN (l:List Int)(n:Int)(hl:l.length<100000)(hmem:n∉l):CB 69 [.vec l.length (g6 l),.int .i64 n] h (.vec (jQ l n).length (g6 (jQ l n))):=by
  refine .bz Tryz.f69 36 ?_;refine c19z ?_;refine c31z ?_;refine .ca rfl rfl (c_hasN hmem (by omega)) ?_;refine .nil ?_;refine c150z ?_;refine .sb ?_;refine .cA (fun m st=>∃(i:Nat),(m=l.length-i∧((∀d,d<i→l.getD d 0<n)∧i≤l.length))∧st=⟨mkS 36 [(0,AV.vec l.length (g6 l)),(1,AV.int .i64 n),(5,AV.int .i64 ((i:Nat):Int))],h⟩) _ (.v ⟨0,⟨rfl,⟨t107,by omega⟩⟩,rfl⟩) ?_;rintro m sl h' ⟨i,⟨hm,⟨hI,hi⟩⟩,hst⟩;obtain ⟨rfl,rfl⟩:=St.mk.inj hst;refine .seq ?_;refine c22z ?_;refine .spl 14 rfl rfl (fun e1=>?_) (fun e1=>?_)
  ·try simp only[e1]
   have qe1:=fact e1;refine .m [(4,14)] ?_;refine u2z ?_ ?_
   ·intro e2 qe2;refine c132z ?_;refine c206z ?_;exact ⟨_,by omega,.v ⟨(i+1),⟨rfl,⟨lt_nx hI (by omega),by omega⟩⟩,rfl⟩⟩
   intro e2 qe2;refine .exit ?_;have hkw:i=kW l n:=kW_at hi hI (by intro _;omega);have hdl:(l.drop i).length=l.length-i:=List.length_drop;have htl:(l.take i).length=i:=by rw[List.length_take];omega
   have hcl:(l.take i++[n]).length=i+1:=by rw[List.length_append,htl];rfl
   change c8 ..;refine .c5 [0,1,5] ?_;refine .sg u9 (mkH 13 [0,0,0,6,15,0,32,127,0,0,768,2047,4095] [0,4,6,7,11] [(0,0),(6,1)] [0,1,17,64,65,81,209,2257] [0,1,2,3,4]) 2 ?_;refine .em [true] [1,0] [_] ?_;refine .p 3 ?_;refine .em [true,false] [17,1,0] [_] ?_;refine .p 1 ?_;refine .en [true,true,true] [81,65,64,17,1,0] [_,_,_] ?_;refine .en [true,false,false,false,false,false] [209,81,65,64,17,1,0] [_] ?_;refine .p 3 ?_;refine .en [true,false,false,false,false,false,false] [2257,209,81,65,64,17,1,0] [_] ?_;refine .p 1 ?_;refine c96z ?_;refine w8.nil rfl ?_;refine c3z ?_;exact ⟨_,_,rfl,L2 t137 (Nat.le_refl _) t106,t148⟩
  try simp only[e1]
  have qe1:=fact e1;refine .m [(4,14)] ?_;refine c232z ?_;have hkw:i=kW l n:=kW_at hi hI (by intro _;omega);have hdl:(l.drop i).length=l.length-i:=List.length_drop;have htl:(l.take i).length=i:=by rw[List.length_take];omega
  have hcl:(l.take i++[n]).length=i+1:=by rw[List.length_append,htl];rfl
  change c8 ..;refine .c5 [0,1,5] ?_;refine .sg u9 (mkH 13 [0,0,0,6,15,0,32,127,0,0,768,2047,4095] [0,4,6,7,11] [(0,0),(6,1)] [0,1,17,64,65,81,209,2257] [0,1,2,3,4]) 2 ?_;refine .em [true] [1,0] [_] ?_;refine .p 3 ?_;refine .em [true,false] [17,1,0] [_] ?_;refine .p 1 ?_;refine .en [true,true,true] [81,65,64,17,1,0] [_,_,_] ?_;refine .en [true,false,false,false,false,false] [209,81,65,64,17,1,0] [_] ?_;refine .p 3 ?_;refine .en [true,false,false,false,false,false,false] [2257,209,81,65,64,17,1,0] [_] ?_;refine .p 1 ?_;refine c96z ?_;refine w8.nil rfl ?_;refine c3z ?_;exact ⟨_,_,rfl,L2 t137 (Nat.le_refl _) t106,t148⟩
theorem KA (l:List Int)(n:Int)(hl:l.length<100000):CB 69 [.vec l.length (g6 l),.int .i64 n] h (.vec (jQ l n).length (g6 (jQ l n))):=by
  by_cases hm:n∈l
  · exact c_withY l n hl hm
  · exact c_withN l n hl hm
theorem KB (it:y0)(p:Pl)(hp:p.param=true→0≤p.index∧p.index.toNat<it.j4.length):CB 135 [.agg [.int .i64 it.proc,.vec it.j4.length (g6 it.j4)],.agg [.bool p.param,.int .i64 p.index,.vec p.at'.length (n7 p.at')]] h (.int .i64 (xR it p)):=by
  refine .bz Tryz.f135 15 ?_;refine c89z ?_;refine u2z ?_ ?_
  ·intro e1 qe1;have hpp:=hp (by assumption);refine .z ?_;exact .ret (.ex (hq:=by (unfold xR;simp_all)))
  intro e1 qe1;refine .sk ?_;refine .z ?_;exact .ret (.ex (hq:=by (unfold xR;simp_all)))
theorem n6 (hu:WU u)(w:WIt u it):(c6 u it).length≤1664:=by have:=(vA hu (l:=[it]) (by simp) (by simpa using w)).2;simpa using this
variable {pc:Nat}
theorem KC (hu:WU u)(w:WIt u it)(hpc:pc<(c6 u it).length)(hc:iN ((c6 u it).getD pc g0)):∀p∈((c6 u it).getD pc g0).places,p.param=true→0≤p.index∧p.index.toNat<it.j4.length:=by
  obtain ⟨_,_,_,hh⟩:=(dC hu w).2.2 pc hpc;intro p hp hpar;obtain ⟨h0,⟨_,h2⟩ | ⟨h1,_⟩⟩:=(hh hc).2.2 p hp
  · refine ⟨h0,?_⟩
    rw[w.len];simp only at h2;omega
  · rw[hpar]at h1;cases h1
theorem DX (hu:WU u)(w:WIt u it)(hpc:pc<(c6 u it).length)(hc:iN ((c6 u it).getD pc g0)):((c6 u it).getD pc g0).places.length≤2:=by have h1:=xS hu w hpc hc;have h2:=h1.len;have h3:=hu.j4 (dV u it pc).proc.toNat (by have:=h1.lo;have:=h1.hi;omega);simp only[dV,List.length_map]at h2 h3;omega
theorem KD (hu:WU u)(w:WIt u it)(hpc:pc<(c6 u it).length)(hc:¬iN ((c6 u it).getD pc g0)):CB 91 [.agg [.vec u.globals.length (g6 u.globals),.vec u.mutexes.length (c9 u.mutexes),.vec u.procs.length (g7 u.procs),.int .i64 u.main],.agg [.int .i64 it.proc,.vec it.j4.length (g6 it.j4)],.int .i64 ((pc:Nat):Int)] h (.tup [.agg [.int .i64 0,.vec 0 []],.bool false]):=by
  refine .bz Tryz.f91 75 ?_;have w1:=w.lo;have w2:=w.hi;have hsz:(c6 u it).length≤1664:=n6 hu w;refine c186z ?_;refine .c5 [2,4,6,8] ?_;refine c16z ?_;refine .spl 20 rfl rfl (fun e1=>by exfalso;have q:=fact e1;omega) (fun e1=>?_);try simp only[e1]
  have qe1:=fact e1;refine .k 6 [(2,20)] ?_;refine .spl 26 rfl rfl (fun e2=>by exfalso;have q:=fact e2;omega) (fun e2=>?_);try simp only[e2]
  have qe2:=fact e2;refine .k 7 [(8,26)] ?_;refine .spl 33 rfl rfl (fun e3=>?_) (fun e3=>by exfalso;have q:=fact e3;exact hc (.inl (by omega)));try simp only[e3]
  have qe3:=fact e3;refine .m [(8,26),(15,33)] ?_;refine .spl 41 rfl rfl (fun e4=>?_) (fun e4=>by exfalso;have q:=fact e4;exact hc (.inr (by omega)));try simp only[e4]
  have qe4:=fact e4;refine .T ?_;refine .c5 [6] ?_;refine .z ?_;exact .ret (.ex (hq:=by rfl))
theorem KE (hu:WU u)(w:WIt u it)(hpc:pc<(c6 u it).length)(hc:iN ((c6 u it).getD pc g0)):CB 91 [.agg [.vec u.globals.length (g6 u.globals),.vec u.mutexes.length (c9 u.mutexes),.vec u.procs.length (g7 u.procs),.int .i64 u.main],.agg [.int .i64 it.proc,.vec it.j4.length (g6 it.j4)],.int .i64 ((pc:Nat):Int)] h (.tup [.agg [.int .i64 (dV u it pc).proc,.vec (dV u it pc).j4.length (g6 (dV u it pc).j4)],.bool true]):=by
  refine .bz Tryz.f91 75 ?_;have w1:=w.lo;have w2:=w.hi;have hsz:(c6 u it).length≤1664:=n6 hu w;have hpl:=KC hu w hpc hc;have hpn:=DX hu w hpc hc;refine c186z ?_;refine .c5 [2,4,6,8] ?_;refine c16z ?_;refine .spl 20 rfl rfl (fun e1=>by exfalso;have q:=fact e1;omega) (fun e1=>?_);try simp only[e1]
  have qe1:=fact e1;refine .k 6 [(2,20)] ?_;refine .spl 26 rfl rfl (fun e2=>by exfalso;have q:=fact e2;omega) (fun e2=>?_);try simp only[e2]
  have qe2:=fact e2;refine .k 7 [(8,26)] ?_;refine .spl 33 rfl rfl (fun e3=>?_) (fun e3=>?_)
  ·try simp only[e3]
   have qe3:=fact e3;refine .m [(8,26),(15,33)] ?_;refine .spl 41 rfl rfl (fun e4=>by exfalso;have q:=fact e4;rcases hc with hc | hc<;>omega) (fun e4=>?_);try simp only[e4]
   have qe4:=fact e4;refine c20z ?_;refine .c5 [2,4,6,8] ?_;refine c17z ?_;refine c8.mE (β:=h.length+3) (k:=1) t25 rfl ?_;simp only[List.append_assoc,List.cons_append,List.nil_append,q9,n4,List.set_cons_succ,List.set_cons_zero,List.length_append,List.length_cons,List.length_nil,Nat.reduceAdd,Nat.zero_add];refine .u0 (fun m st=>∃(q:Nat),(m=((c6 u it).getD pc g0).places.length-q∧q≤((c6 u it).getD pc g0).places.length)∧st=⟨mkS 75 [(2,AV.int .i64 ((pc:Nat):Int)),(4,AV.ptr (h.length+1) 0 0),(6,AV.ptr (h.length+2) 0 0),(8,AV.vec (c6 u it).length (p5 (c6 u it))),(9,AV.ptr (h.length+3) 0 0),(10,AV.int .i64 ((q:Nat):Int))],h++[⟨0,false,30,4,[.vec u.globals.length (g6 u.globals),.vec u.mutexes.length (c9 u.mutexes),.vec u.procs.length (g7 u.procs),.int .i64 u.main],0⟩,⟨0,false,46,2,[.int .i64 it.proc,.vec it.j4.length (g6 it.j4)],0⟩,⟨0,false,46,2,[.int .i64 0,.nils],0⟩,⟨0,false,46,2,[.int .i64 ((c6 u it).getD pc g0).target,.own (h.length+4) q 0 q],0⟩,p9 3 1 q (g6 ((((c6 u it).getD pc g0).places.take q).map (xR it)))]⟩) (.v ⟨0,⟨rfl,by omega⟩,rfl⟩) ?_;rintro m sl h' ⟨q,⟨hm,hq⟩,hst⟩;obtain ⟨rfl,rfl⟩:=St.mk.inj hst;clear hst;have htl:((((c6 u it).getD pc g0).places.take q).map (xR it)).length=q:=by rw[List.length_map,List.length_take];omega
   refine c0z ?_;refine u2z ?_ ?_
   ·intro e5 qe5;refine c2z ?_;refine .c5 [2,4,6,8,9,10] ?_;refine .og u9 (mkH 16 [0,1,0,0,0,24,56,120,0,504,1016,2044,4092,8191,16383,32767] [12,13,15] [] [0,4096,12288,45056] [0,1]) 0 ?_;refine c33z ?_;refine .rn [true] ?_;refine c168z ?_;refine c66z ?_;refine .cl rfl rfl (fun _=>KB it (((c6 u it).getD pc g0).places.getD q bW) (hpl _ (j7 (d:=bW) (i:=q) (by omega)))) ?_;refine .en [true] [4096,0] [_] ?_;refine .en [true,false] [12288,4096,0] [_] ?_;refine .p 1 ?_;refine .en [true,false,false] [45056,12288,4096,0] [_] ?_;refine c137z ?_;refine .c5 [2,4,6,8,9,10] ?_;refine .rz ?_;exact ⟨_,by omega,.v ⟨(q+1),⟨rfl,by omega⟩,rfl⟩ (he:=t124) (hk:=t109)⟩
   intro e5 qe5;refine .exit ?_;obtain rfl:q=((c6 u it).getD pc g0).places.length:=by omega
   rw[List.take_length]at htl ⊢;refine c8.nM (γ:=h.length+4) (β:=h.length+3) (k:=1) (len:=((c6 u it).getD pc g0).places.length) t25 (by rw[l8,htl,Nat.mul_one]) (by omega) (xE _) t25 (by omega) rfl ?_;refine c12z ?_;refine c239z ?_;exact .ret (.ex (hq:=by (simp only[dV,List.length_map])))
  try simp only[e3]
  have qe3:=fact e3;refine .m [(8,26),(15,33)] ?_;refine c20z ?_;refine .c5 [2,4,6,8] ?_;refine c17z ?_;refine c8.mE (β:=h.length+3) (k:=1) t25 rfl ?_;simp only[List.append_assoc,List.cons_append,List.nil_append,q9,n4,List.set_cons_succ,List.set_cons_zero,List.length_append,List.length_cons,List.length_nil,Nat.reduceAdd,Nat.zero_add];refine .u0 (fun m st=>∃(q:Nat),(m=((c6 u it).getD pc g0).places.length-q∧q≤((c6 u it).getD pc g0).places.length)∧st=⟨mkS 75 [(2,AV.int .i64 ((pc:Nat):Int)),(4,AV.ptr (h.length+1) 0 0),(6,AV.ptr (h.length+2) 0 0),(8,AV.vec (c6 u it).length (p5 (c6 u it))),(9,AV.ptr (h.length+3) 0 0),(10,AV.int .i64 ((q:Nat):Int))],h++[⟨0,false,30,4,[.vec u.globals.length (g6 u.globals),.vec u.mutexes.length (c9 u.mutexes),.vec u.procs.length (g7 u.procs),.int .i64 u.main],0⟩,⟨0,false,46,2,[.int .i64 it.proc,.vec it.j4.length (g6 it.j4)],0⟩,⟨0,false,46,2,[.int .i64 0,.nils],0⟩,⟨0,false,46,2,[.int .i64 ((c6 u it).getD pc g0).target,.own (h.length+4) q 0 q],0⟩,p9 3 1 q (g6 ((((c6 u it).getD pc g0).places.take q).map (xR it)))]⟩) (.v ⟨0,⟨rfl,by omega⟩,rfl⟩) ?_;rintro m sl h' ⟨q,⟨hm,hq⟩,hst⟩;obtain ⟨rfl,rfl⟩:=St.mk.inj hst;clear hst;have htl:((((c6 u it).getD pc g0).places.take q).map (xR it)).length=q:=by rw[List.length_map,List.length_take];omega
  refine c0z ?_;refine u2z ?_ ?_
  ·intro e6 qe6;refine c2z ?_;refine .c5 [2,4,6,8,9,10] ?_;refine .og u9 (mkH 16 [0,1,0,0,0,24,56,120,0,504,1016,2044,4092,8191,16383,32767] [12,13,15] [] [0,4096,12288,45056] [0,1]) 0 ?_;refine c33z ?_;refine .rn [true] ?_;refine c168z ?_;refine c66z ?_;refine .cl rfl rfl (fun _=>KB it (((c6 u it).getD pc g0).places.getD q bW) (hpl _ (j7 (d:=bW) (i:=q) (by omega)))) ?_;refine .en [true] [4096,0] [_] ?_;refine .en [true,false] [12288,4096,0] [_] ?_;refine .p 1 ?_;refine .en [true,false,false] [45056,12288,4096,0] [_] ?_;refine c137z ?_;refine .c5 [2,4,6,8,9,10] ?_;refine .rz ?_;exact ⟨_,by omega,.v ⟨(q+1),⟨rfl,by omega⟩,rfl⟩ (he:=t124) (hk:=t109)⟩
  intro e6 qe6;refine .exit ?_;obtain rfl:q=((c6 u it).getD pc g0).places.length:=by omega
  rw[List.take_length]at htl ⊢;refine c8.nM (γ:=h.length+4) (β:=h.length+3) (k:=1) (len:=((c6 u it).getD pc g0).places.length) t25 (by rw[l8,htl,Nat.mul_one]) (by omega) (xE _) t25 (by omega) rfl ?_;refine c12z ?_;refine c239z ?_;exact .ret (.ex (hq:=by (simp only[dV,List.length_map])))
theorem c_findI (l:List y0)(x:y0){n2 n3:Nat}{z2 z3:List AV}(hl:l.length<1000000)(hk:∀y∈l,y.j4.length<1000000):CB 92 [.agg [.vec l.length (g9 l),.vec n2 z2,.vec n3 z3],.agg [.int .i64 x.proc,.vec x.j4.length (g6 x.j4)]] h (.int .i64 (fI l x)):=by
  refine .bz Tryz.f92 34 ?_;refine c17z ?_;refine .cA (fun m st=>∃(i:Nat),(m=l.length-i∧((∀d,d<i→l.getD d l6≠x)∧i≤l.length))∧st=⟨mkS 34 [(2,AV.ptr h.length 0 0),(3,AV.ptr (h.length+1) 0 0),(5,AV.int .i64 ((i:Nat):Int))],h++[⟨0,false,34,3,[.vec l.length (g9 l),.vec n2 z2,.vec n3 z3],0⟩,⟨0,false,46,2,[.int .i64 x.proc,.vec x.j4.length (g6 x.j4)],0⟩]⟩) _ (.v ⟨0,⟨rfl,⟨t107,by omega⟩⟩,rfl⟩) ?_;rintro m sl h' ⟨i,⟨hm,⟨hI,hi⟩⟩,hst⟩;obtain ⟨rfl,rfl⟩:=St.mk.inj hst;refine c0z ?_;refine u2z ?_ ?_
  ·intro e1 qe1;refine c2z ?_;refine .ss u9 (mkP 20 [0,1,0,7,15,31,0,64,255,511,1023,2047,1023,8191,16383,32767,1023,66559,262143,524287] []) ?_;refine .k 8 [] ?_;refine .k 2 [] ?_;refine .spl 22 rfl rfl (fun e2=>?_) (fun e2=>?_)
   ·try simp only[e2]
    have qe2:=fact e2;refine .k 8 [(9,22)] ?_;refine .ca rfl rfl (WW _ _ (hk _ (j7 (by omega)))) ?_;refine .n [] ?_;refine u2z ?_ ?_
    ·intro e3 qe3;refine .c5 [5] ?_;refine .z ?_;exact .ret (.ex (hq:=t108))
    intro e3 qe3;refine c4z ?_;refine .c5 [2,3,5] ?_;refine .rz ?_;exact ⟨_,by omega,.v ⟨(i+1),⟨rfl,⟨it_ne hI t199,by omega⟩⟩,rfl⟩⟩
   try simp only[e2]
   have qe2:=fact e2;refine .k 8 [(9,22)] ?_;refine .n [(9,22)] ?_;refine c46z ?_;refine .c5 [2,3,5] ?_;refine .rz ?_;exact ⟨_,by omega,.v ⟨(i+1),⟨rfl,⟨it_ne hI t199,by omega⟩⟩,rfl⟩⟩
  intro e1 qe1;refine c8z ?_;refine c34z ?_;exact .ret (.ex (hq:=t108))
end Go.Proofs.YtonbocmibeikmaaGreat
end
section
namespace Go.Proofs.YtonbocmibeikmaaGreat
open Go.Ab Go.Un
theorem o1.cx {P:Program}{C:Cfg}{h:c7}{ops:Array Oper}{o:Oper}{rest:List Oper}{Q:St→Prop}{n d:Nat}{l:List (Nat×AV)}{c:Call}{f:FuncId}{args:List AV}{K:AV→c7→Prop}(ho:o.op=.call c)(ht:v7 C (CX C n l) c=some (f,args))(hb:o6 C f=true)
    (hc:CallA P C f args h K) (hk:∀y h',K y h'→o1 P C ops rest ⟨mkS n ((d,y)::l),h'⟩ Q) (hw:zO ops n l o=some true:=by rfl) (hd:o.dst=some d:=by rfl):o1 P C ops (o::rest) ⟨mkS n l,h⟩ Q:=
  o1.call (sU▸hw) ho (qU▸ht) hb (hc.mono fun y h' hq=>by rw[hd];show o1 P C ops rest ⟨(mkS n l).set d y,h'⟩ Q;rw[bT];exact hk y h' hq)
def pY (u:Un)(L:List y0)(it:y0)(cs:List Int)(n:Nat):Prop:=∀j,j<n→
  (iN ((c6 u it).getD j g0)→0≤cs.getD j 0∧cs.getD j 0<L.length∧L.getD (cs.getD j 0).toNat l6=dV u it j)∧(¬iN ((c6 u it).getD j g0)→cs.getD j 0 = -1)
structure LI (u:Un)(L:List y0):Prop where
  w:∀it∈L,WIt u it
  nd:L.Nodup
  z:0<L.length∧L.getD 0 l6=⟨0,[]⟩
structure RI (L:List y0)(R:List Int):Prop where
  p:1≤R.length
  r:∀x∈R,0≤x∧x<L.length
  s:R.Pairwise (·<·)
def PI (u:Un)(L:List y0)(CS:List (List Int))(i:Nat):Prop:=∀j,j<i→(CS.getD j []).length=(c6 u (L.getD j l6)).length∧pY u L (L.getD j l6) (CS.getD j []) (c6 u (L.getD j l6)).length
def kC (u:Un)(L:List y0)(i:Nat):Nat:=((L.take i).map fun it=>(c6 u it).length).sum
variable {i:Nat}
theorem nF {α:Type}{l m:List α}{d:α}(h:i<l.length):(l++m).getD i d=l.getD i d:=by simp[List.getD,List.getElem?_append_left h]
variable {u:Un}{L M:List y0}{it:y0}{n:Nat}
theorem pY.app {cs:List Int}(h:pY u L it cs n):pY u (L++M) it cs n:=fun j hj=>by obtain ⟨h1,h2⟩:=h j hj;refine ⟨fun hc=>?_,h2⟩;obtain ⟨q1,q2,q3⟩:=h1 hc;exact ⟨q1,by rw[List.length_append];omega,by rw[nF (by omega),q3]⟩
theorem pY.set {cs:List Int}{x:Int}(h:pY u L it cs n)(hn:n<cs.length)(hx:(iN ((c6 u it).getD n g0)→0≤x∧x<L.length∧L.getD x.toNat l6=dV u it n)∧(¬iN ((c6 u it).getD n g0)→x = -1)):pY u L it (cs.set n x) (n+1):=fun j hj=>by
  by_cases hjn:j=n
  · subst hjn
    have:(cs.set j x).getD j 0=x:=by simp[List.getD,hn]
    rw[this];exact hx
  · have:(cs.set n x).getD j 0=cs.getD j 0:=by simp[List.getD,List.getElem?_set_ne (Ne.symm hjn)]
    rw[this];exact h j (by omega)
variable {x:y0}
theorem LI.snoc (h:LI u L)(hx:WIt u x)(hn:x∉L):LI u (L++[x]):=by
  refine ⟨fun it hit=>?_,?_,by simp,?_⟩
  · rcases List.mem_append.1 hit with hit | hit
    · exact h.w it hit
    · replace hit:=s8z hit
      subst hit;exact hx
  · rw[List.nodup_append]
    exact ⟨h.nd,by simp,fun a ha b hb=>by replace hb:=s8z hb;subst hb;exact fun e=>hn (e▸ha)⟩
  · rw[nF h.z.1];exact h.z.2
theorem LI.few (hu:WU u)(h:LI u L):L.length≤64:=(vA hu h.nd h.w).1
theorem LI.sites (hu:WU u)(h:LI u L)(i:Nat):kC u L i≤1664:=by have h1:=(vA hu (l:=L.take i) (h.nd.sublist (List.take_sublist _ _)) (fun it hit=>h.w it (List.mem_of_mem_take hit))).2;exact h1
theorem LI.j4 (hu:WU u)(h:LI u L):∀y∈L,y.j4.length≤2:=fun y hy=>by have w:=h.w y hy;have h1:=w.len;have h3:=hu.j4 y.proc.toNat (by have:=w.lo;have:=w.hi;omega);omega
variable {R:List Int}
theorem RI.app (h:RI L R):RI (L++M) R:=⟨h.p,fun x hx=>by have:=h.r x hx;rw[List.length_append];omega,h.s⟩
variable {l:List Int}
theorem KF {n x:Int}:x∈jQ l n↔x∈l∨x=n:=by
  unfold jQ;split
  · rename_i h
    constructor
    · exact .inl
    · rintro (h1 | rfl)
      · exact h1
      · exact h
  · rw[List.mem_append,List.mem_cons]
    constructor
    · rintro (h | h | h)
      · exact .inl (List.mem_of_mem_take h)
      · exact .inr h
      · exact .inl (List.mem_of_mem_drop h)
    · rintro (h | h)
      · rw[←List.take_append_drop (kW l n) l,List.mem_append]at h
        rcases h with h | h
        · exact .inl h
        · exact .inr (.inr h)
      · exact .inr (.inl h)
theorem take_kW {n:Int}:l.take (kW l n)=l.takeWhile fun x=>decide (x<n):=by
  conv=>lhs;rw[←List.takeWhile_append_dropWhile (p:=fun x=>decide (x<n)) (l:=l)]
  rw[List.take_append_of_le_length (by simp[kW])];exact List.take_of_length_le (by simp[kW])
theorem drop_kW {n:Int}:l.drop (kW l n)=l.dropWhile fun x=>decide (x<n):=by
  conv=>lhs;rw[←List.takeWhile_append_dropWhile (p:=fun x=>decide (x<n)) (l:=l)]
  rw[List.drop_append_of_le_length (by simp[kW])];rw[List.drop_of_length_le (by simp[kW]),List.nil_append]
theorem rU:∀{l:List Int} {n:Int},l.Pairwise (·<·)→n∉l→(l.takeWhile (fun x=>decide (x<n))++n::l.dropWhile (fun x=>decide (x<n))).Pairwise (·<·)
  | [],n,_,_=>by simp
  | x::l,n,h,hn=>by
    rw[List.pairwise_cons]at h;by_cases hx:x<n
    · have ih:=rU (l:=l) (n:=n) h.2 (fun hm=>hn (List.mem_cons_of_mem _ hm))
      rw[List.takeWhile_cons_of_pos t196,List.dropWhile_cons_of_pos t196,List.cons_append,List.pairwise_cons];refine ⟨fun y hy=>?_,ih⟩;rcases List.mem_append.1 hy with hy | hy
      · exact h.1 y ((List.takeWhile_sublist _).subset hy)
      · rcases List.mem_cons.1 hy with rfl | hy
        · exact hx
        · exact h.1 y ((List.dropWhile_sublist _).subset hy)
    · have hne:n≠x:=fun e=>hn (by rw[e];simp)
      rw[List.takeWhile_cons_of_neg t196,List.dropWhile_cons_of_neg t196,List.nil_append,List.pairwise_cons];refine ⟨fun y hy=>?_,List.pairwise_cons.2 h⟩;rcases List.mem_cons.1 hy with rfl | hy
      · omega
      · have:=h.1 y hy;omega
theorem RI.with (h:RI L R){n:Int}(hn:0≤n∧n<L.length):RI L (jQ R n):=by
  refine ⟨?_,fun x hx=>?_,?_⟩
  · unfold jQ
    split
    · exact h.p
    · simp only[List.length_append,List.length_cons];omega
  · rcases KF.1 hx with hx | rfl
    · exact h.r x hx
    · exact hn
  · unfold jQ
    split
    · exact h.s
    · rename_i hm
      rw[take_kW,drop_kW];exact rU h.s hm
theorem bB:∀{R:List Int} {a b:Int},R.Pairwise (·<·)→(∀x∈R,a≤x∧x<b)→R.length≤(b-a).toNat
  | [],a,b,_,_=>by simp
  | x::R,a,b,h,hr=>by rw[List.pairwise_cons]at h;have h0:=hr x (by simp);have ih:=bB (R:=R) (a:=x+1) (b:=b) h.2 (fun y hy=>⟨by have:=h.1 y hy;omega,(hr y (by simp[hy])).2⟩);simp only[List.length_cons];omega
theorem RI.len (hu:WU u)(hl:LI u L)(h:RI L R):R.length≤64:=by have h1:=bB h.s (a:=0) (b:=(L.length:Int)) h.r;have h2:=hl.few hu;omega
theorem DY (h:i<L.length):kC u L (i+1)=kC u L i+(c6 u (L.getD i l6)).length:=by unfold kC;rw[taken (d:=l6) h];simp
variable {CS:List (List Int)}
theorem PI.step {v:List Int}(h:PI u L CS i)(hc:CS.length=i)(hi:i<L.length)(hv:v.length=(c6 u (L.getD i l6)).length)(hok:pY u (L++M) (L.getD i l6) v (c6 u (L.getD i l6)).length):PI u (L++M) (CS++[v]) (i+1):=fun j hj=>by
  by_cases hji:j=i
  · subst hji
    have e1:(CS++[v]).getD j []=v:=by subst hc;simp[List.getD]
    rw[e1,nF hi];exact ⟨hv,hok⟩
  · have e1:(CS++[v]).getD j []=CS.getD j []:=nF (by omega)
    obtain ⟨h1,h2⟩:=h j (by omega);rw[e1,nF (by omega)];exact ⟨h1,h2.app⟩
theorem T6 {l:List (List Int)}{x:List Int}:j8 (l++[x])=j8 l++[.vec x.length (g6 x)]:=by simp[j8]
theorem T7 {l:List y0}:g9 (l++[x])=g9 l++[.int .i64 x.proc,.vec x.j4.length (g6 x.j4)]:=by simp[g9,DC]
theorem TD (l:List (List Int)):aA (j8 l):=aA.map fun _=>.vec
theorem TE (l:List y0):aA (g9 l):=aA.flat fun _=>aA.cons .int (aA.cons .vec .nil)
variable {h:c7}{g:Nat}
theorem app_its {b0 b1 b3 b4 b5 b6 b7:Blk}{l:c7}(hz:L.length=n)(hn:n<1000):j6 cfg 46 (h++(b0::b1::⟨g,false,46,2,g9 L,0⟩::b3::b4::b5::b6::b7::⟨0,false,46,2,[.int .i64 x.proc,.vec x.j4.length (g6 x.j4)],0⟩::l)) (.own (h.length+2) g 0 n) (.own (h.length+8) 0 0 1)=some (.own (h.length+2) (g+1) 0 (n+1),h++(b0::b1::⟨g+1,false,46,2,g9 (L++[x]),0⟩::b3::b4::b5::b6::b7::⟨0,false,46,2,[.int .i64 x.proc,.vec x.j4.length (g6 x.j4)],0⟩::l)):=by
  subst hz;have e1:cfg.sz 46=2:=rfl;have e2:(cfg.ti 46).bytes=32:=rfl;have hm:L.length+1≤maxLen:=by
    have:(1001:Nat)≤maxLen:=by decide
    omega
  have hb:(L.length+1)*32≤140737488355328:=by omega
  have h1:(g9 L).length=L.length*2:=by rw[w6];omega
  have ht:List.take (L.length*2) (g9 L)=g9 L:=List.take_of_length_le (by omega);have hnl:¬(L.length+1)*2≤L.length*2:=by omega
  simp[j6,rd,lenOf,e1,e2,h1,hm,hb,ht,hnl,q9,n4,T7]
theorem app_cs {b0 b1 b2 b3 b4 b6:Blk}{l:c7}{x:List Int}{m:Nat}(hn:CS.length=n)(hx:x.length=m)(hl:n<100000):j6 cfg 22 (h++(b0::b1::b2::b3::b4::p9 22 1 g (j8 CS)::b6::⟨0,false,22,1,[.vec m (g6 x)],0⟩::l)) (.own (h.length+5) g 0 n) (.own (h.length+7) 0 0 1)=some (.own (h.length+5) (g+1) 0 (n+1),h++(b0::b1::b2::b3::b4::p9 22 1 (g+1) (j8 (CS++[x]))::b6::⟨0,false,22,1,[.vec m (g6 x)],0⟩::l)):=by subst hn hx;rw[u7 (C:=cfg) (K:=1) (m:=1) (new:=[.vec x.length (g6 x)]) (zs:=j8 CS) t25 rfl (by omega) (by simp[j8]) rfl (by omega) t116 rfl (by decide) (by omega),←T6,n4];rfl
theorem KG:∀{v:List Int} {i:Nat} {x:Int},i<v.length→List.take i (g6 v)++AV.int .i64 x::List.drop (i+1) (g6 v)=g6 (v.set i x)
  | y::v,0,x,_=>rfl
  | y::v,i+1,x,h=>by have ih:=KG (v:=v) (i:=i) (x:=x) (by simpa using h);simp only[g6,List.map_cons,List.set_cons_succ,List.take_succ_cons,List.drop_succ_cons,List.cons_append]at ih ⊢;rw[ih]
theorem zeros_I:(List.replicate n [AV.int .i64 0]).flatten=g6 (List.replicate n 0):=by
  induction n with
  | zero=>rfl
  | succ n ih=>rw[List.replicate_succ,List.flatten_cons,ih];simp[g6,List.replicate_succ]
theorem frz_its {d:Nat}{H:c7}{l:List y0}:r6 (lK n H (d+1)) (g9 l)=some (g9 l):=(TE l).frz _ _ _
theorem T8 {H:c7}{β γ n1 n2 n3:Nat}{z3:List AV}(hb:H[β]?=some ⟨g,false,46,2,g9 L,0⟩)(hc:H[γ]?=some (p9 22 1 i (j8 CS)))(h1:L.length=n1)(h2:CS.length=n2)(hl:L.length<1000000)(hk:∀y∈L,y.j4.length<1000000):CB 92 [.agg [.own β g 0 n1,.own γ i 0 n2,.vec n3 z3],.agg [.int .i64 x.proc,.vec x.j4.length (g6 x.j4)]] H (.int .i64 (fI L x)):=by
  subst h1 h2;have e1:lK 0 H 6 (.own β g 0 L.length)=some (.vec L.length (g9 L)):=by rw[gH,hb];simp only[Nat.zero_le,and_self,if_true,Bool.false_eq_true,if_false,Nat.zero_add];rw[if_pos (by rw[w6];omega),List.drop_zero,List.take_of_length_le (by rw[w6];omega),frz_its]
  have e2:lK 0 H 6 (.own γ i 0 CS.length)=some (.vec CS.length (j8 CS)):=jY hc (Nat.zero_le _) (by simp[j8]) (by omega) ((TD CS).frz _ _ _);have e:VJ 0 H (.agg [.own β g 0 L.length,.own γ i 0 CS.length,.vec n3 z3])=some (.agg [.vec L.length (g9 L),.vec CS.length (j8 CS),.vec n3 z3]):=by simp only[VJ,r6,e1,e2,mW,Option.map_some]
  have ha:PE 0 H [.agg [.vec L.length (g9 L),.vec CS.length (j8 CS),.vec n3 z3],.agg [.int .i64 x.proc,.vec x.j4.length (g6 x.j4)]] [.agg [.own β g 0 L.length,.own γ i 0 CS.length,.vec n3 z3],.agg [.int .i64 x.proc,.vec x.j4.length (g6 x.j4)]]:=And.intro (.inr e) (And.intro (.inr rfl) trivial);exact CallA.borrow ha ((c_findI L x hl hk).mono fun _ _ h=>h.1)
theorem dK {l:List (List Int)}:(j8 l).length=l.length:=by simp[j8]
variable {pc:Nat}
theorem DZ (hu:WU u)(w:WIt u it)(hpc:pc<(c6 u it).length)(hc:iN ((c6 u it).getD pc g0)){y:y0}(hy:dV u it pc=y):CB 91 [.agg [.vec u.globals.length (g6 u.globals),.vec u.mutexes.length (c9 u.mutexes),.vec u.procs.length (g7 u.procs),.int .i64 u.main],.agg [.int .i64 it.proc,.vec it.j4.length (g6 it.j4)],.int .i64 ((pc:Nat):Int)] h (.tup [.agg [.int .i64 y.proc,.vec y.j4.length (g6 y.j4)],.bool true]):=by subst hy;exact KE hu w hpc hc
theorem EA (hu:WU u)(w:WIt u (L.getD i l6))(hi:L.getD i l6=it)(hpc:pc<(c6 u it).length)(hc:iN ((c6 u it).getD pc g0)){y:y0}(hy:dV u it pc=y):CB 91 [.agg [.vec u.globals.length (g6 u.globals),.vec u.mutexes.length (c9 u.mutexes),.vec u.procs.length (g7 u.procs),.int .i64 u.main],.agg [.int .i64 (L.getD i l6).proc,.vec (L.getD i l6).j4.length (g6 (L.getD i l6).j4)],.int .i64 ((pc:Nat):Int)] h (.tup [.agg [.int .i64 y.proc,.vec y.j4.length (g6 y.j4)],.bool true]):=by subst hi;exact DZ hu w hpc hc hy
theorem EB (hu:WU u)(w:WIt u (L.getD i l6))(hi:L.getD i l6=it)(hpc:pc<(c6 u it).length)(hc:¬iN ((c6 u it).getD pc g0)):CB 91 [.agg [.vec u.globals.length (g6 u.globals),.vec u.mutexes.length (c9 u.mutexes),.vec u.procs.length (g7 u.procs),.int .i64 u.main],.agg [.int .i64 (L.getD i l6).proc,.vec (L.getD i l6).j4.length (g6 (L.getD i l6).j4)],.int .i64 ((pc:Nat):Int)] h (.tup [.agg [.int .i64 0,.vec 0 []],.bool false]):=by subst hi;exact KD hu w hpc hc
theorem mx2000:(2000:Nat)≤maxLen:=by decide
theorem C0 {v:List Int}{i:Nat}{x:Int}(h:i<v.length):(v.set i x).getD i 0=x:=by simp[List.getD,h]
theorem TF {v:List Int}{x:Int}(h:i<v.length):List.take 1 (List.drop i (g6 (v.set i x)))=[.int .i64 x]:=by rw[lO (by rw[List.length_set];exact h),C0 h]
theorem KH (h:i≤L.length):kC u (L++M) i=kC u L i:=by unfold kC;rw[List.take_append_of_le_length h]
theorem wit0 (hu:WU u):WIt u ⟨0,[]⟩:=by have:=hu.pl;refine ⟨Int.le_refl _,by show (0:Int)<u.procs.length;omega,?_,fun x hx=>by simp at hx⟩;show 0=(u.procs.getD 0 pK).j4.toNat;rw[hu.zero];rfl
theorem wc_of (hu:WU u)(hL:LI u L)(hR:RI L R)(hc:CS.length=L.length)(hP:PI u L CS L.length):WC u ⟨L,CS,R⟩:=
  ⟨⟨hL.z.1,hL.few hu⟩,hL.z.2,hL.w,hL.nd,hc,fun i hi=>(hP i hi).1,fun i hi pc hpc=>(hP i hi).2 pc hpc,hR.p,hR.r,hR.s⟩
attribute [local go_sem] rd s6 o2 bD cM u4 aR fQ dI p8 bA aM l8 bF Int.natCast_nonneg Int.natCast_inj List.length_map wrap64 fY jA jB AB J4 R3 AD zZ max2 eY cR bH Nat.reduceMul mY kA iM vL lO nD BC nE dE iD w6 aN app_its app_cs KG zeros_I dK
section
attribute [local go_sem] TF List.length_set
theorem c_close (hu:WU u):CallA Tryz.prog cfg 55 [.agg [.vec u.globals.length (g6 u.globals),.vec u.mutexes.length (c9 u.mutexes),.vec u.procs.length (g7 u.procs),.int .i64 u.main]] h (fun y' h'=>(∃c,WC u c∧y'=.tup [.agg (YX c),.int .i64 0])∧h'=h):=by
  refine .bz Tryz.f55 109 ?_;refine c65z ?_;refine .c5 [1,2,4] ?_;refine c8.jX (β:=h.length+2) [.int .i64 0,.vec 0 []] t25 ?_ ?_;exact ⟨.inl (by rw[hu.main]),.inr ⟨rfl,rfl⟩,trivial⟩;simp only[List.append_assoc,List.cons_append,List.nil_append,q9,n4,List.set_cons_succ,List.set_cons_zero,List.length_append,List.length_cons,List.length_nil,Nat.reduceAdd,Nat.zero_add];refine c8.mE (β:=h.length+4) (k:=1) t25 rfl ?_;simp only[List.append_assoc,List.cons_append,List.nil_append,q9,n4,List.set_cons_succ,List.set_cons_zero,List.length_append,List.length_cons,List.length_nil,Nat.reduceAdd,Nat.zero_add];refine c8.H6 (γ:=h.length+3) (β:=h.length+4) (k:=2) (off:=0) (len:=1) (cs:=[.int .i64 0]) t25 rfl (by simp) rfl t25 (by omega) rfl ?_;simp only[List.append_assoc,List.cons_append,List.nil_append,q9,n4,List.set_cons_succ,List.set_cons_zero,List.length_append,List.length_cons,List.length_nil,Nat.reduceAdd,Nat.zero_add];generalize dH _ _=Rb;refine c17z ?_;refine .u0 (fun m st=>∃(i:Nat) (L:List y0) (g:Nat) (R:List Int) (CS:List (List Int)),(m=65-i∧(LI u L∧RI L R∧i≤L.length∧CS.length=i∧PI u L CS i))∧st=⟨mkS 109 [(1,AV.ptr h.length 0 0),(2,AV.ptr (h.length+1) 0 0),(4,AV.ptr (h.length+4) 0 0),(5,AV.int .i64 ((kC u L i:Nat):Int)),(6,AV.int .i64 ((i:Nat):Int))],h++[⟨0,false,30,4,[.vec u.globals.length (g6 u.globals),.vec u.mutexes.length (c9 u.mutexes),.vec u.procs.length (g7 u.procs),.int .i64 u.main],0⟩,⟨0,false,34,3,[.nils,.nils,.nils],0⟩,⟨g,false,46,2,g9 L,0⟩,Rb,⟨0,false,34,3,[.own (h.length+2) g 0 L.length,.own (h.length+5) i 0 i,.vec R.length (g6 R)],0⟩,p9 22 1 i (j8 CS)]⟩) (.v ⟨0,([⟨0,[]⟩]:List y0),0,([0]:List Int),([]:List (List Int)),⟨rfl,⟨⟨fun it hit=>by replace hit:=s8z hit;subst hit;exact wit0 hu,by simp,by simp⟩,⟨by simp,by simp,by simp⟩,by omega,rfl,fun j hj=>by omega⟩⟩,rfl⟩ (hs:=t94)) ?_;rintro m sl h' ⟨i,L,g,R,CS,⟨hm,⟨hL,hR,hi,hCS,hP⟩⟩,hst⟩;obtain ⟨rfl,rfl⟩:=St.mk.inj hst;clear hst;have hfew:=hL.few hu;have hrl:=hR.len hu hL;refine c0z ?_;refine u2z ?_ ?_
  ·intro e1 qe1;refine c2z ?_;have hw:WIt u (L.getD i l6):=hL.w _ (j7 (by omega));have hw1:=hw.lo;have hw2:=hw.hi;have hcd:=dC hu hw;have hs0:=hL.sites hu i;have hs1:kC u L (i+1)=kC u L i+(c6 u (L.getD i l6)).length:=by rw[DY (by omega)]
   have hs2:=hL.sites hu (i+1);refine .ss u9 (mkP 12 [0,1,0,4,0,28,60,124,255,511,1023,2047] []) ?_;refine c50z ?_;refine .c5 [1,2,4,5,6,7,34] ?_;refine c19z ?_;refine c16z ?_;refine .spl 42 rfl rfl (fun e2=>by exfalso;have q:=fact e2;omega) (fun e2=>?_);try simp only[e2]
   have qe2:=fact e2;refine .m [(2,42)] ?_;refine uFbz ?_;intro e3 qe3;refine .sk ?_;refine .c5 [1,2,4,5,6,7,34] ?_;have hcl1:=hcd.1;have hclm:(c6 u (L.getD i l6)).length≤2000:=by omega
   have hmx:((c6 u (L.getD i l6)).length:Int)≤(maxLen:Int):=Int.ofNat_le.2 (Nat.le_trans hclm mx2000);refine c17z ?_;refine .u0 (fun m st=>∃(pc:Nat) (L1:List y0) (g1:Nat) (R1:List Int) (v:List Int),(m=(c6 u (L.getD i l6)).length-pc∧(LI u L1∧RI L1 R1∧(∃M,L1=L++M)∧pc≤(c6 u (L.getD i l6)).length∧v.length=(c6 u (L.getD i l6)).length∧pY u L1 (L.getD i l6) v pc))∧st=⟨mkS 109 [(1,AV.ptr h.length 0 0),(2,AV.ptr (h.length+1) 0 0),(4,AV.ptr (h.length+4) 0 0),(5,AV.int .i64 ((kC u L (i+1):Nat):Int)),(6,AV.int .i64 ((i:Nat):Int)),(7,AV.vec (c6 u (L.getD i l6)).length (p5 (c6 u (L.getD i l6)))),(8,AV.own (h.length+6) 0 0 (c6 u (L.getD i l6)).length),(9,AV.int .i64 ((pc:Nat):Int))],h++[⟨0,false,30,4,[.vec u.globals.length (g6 u.globals),.vec u.mutexes.length (c9 u.mutexes),.vec u.procs.length (g7 u.procs),.int .i64 u.main],0⟩,⟨0,false,34,3,[.nils,.nils,.nils],0⟩,⟨g1,false,46,2,g9 L1,0⟩,Rb,⟨0,false,34,3,[.own (h.length+2) g1 0 L1.length,.own (h.length+5) i 0 i,.vec R1.length (g6 R1)],0⟩,p9 22 1 i (j8 CS),⟨0,false,3,1,g6 v,0⟩]⟩) (.v ⟨0,L,g,R,(List.replicate (c6 u (L.getD i l6)).length 0),⟨rfl,⟨hL,hR,⟨[],by simp⟩,by omega,by simp,fun j hj=>by omega⟩⟩,rfl⟩) ?_;rintro m sl h' ⟨pc,L1,g1,R1,v,⟨hm,⟨hL1,hR1,⟨M,hM⟩,hpc,hv,hok⟩⟩,hst⟩;obtain ⟨rfl,rfl⟩:=St.mk.inj hst;clear hst;have hfew1:=hL1.few hu;have hrl1:=hR1.len hu hL1;have hit1:L1.getD i l6=L.getD i l6:=by rw[hM,nF (by omega)]
   have hw1:WIt u (L1.getD i l6):=by rw[hit1];exact hw
   have hil1:i<L1.length:=by rw[hM,List.length_append];omega
   refine c0z ?_;refine u2z ?_ ?_
   ·intro e4 qe4;refine c2z ?_;by_cases hcl:iN ((c6 u (L.getD i l6)).getD pc g0)
    ·generalize hy:dV u (L.getD i l6) pc=y;have hwy:WIt u y:=by rw[←hy];exact xS hu hw (by omega) hcl
     refine .sg u9 (mkH 14 [0,0,2,0,14,30,0,127,255,511,511,0,3071,8191] [11,12] [] [0,2048,6144] [0,1,2,3,4,5,6,7,8,9,10]) 0 ?_;refine c117z ?_;refine .p 2 ?_;refine c146z ?_;refine .cl rfl rfl (fun _=>EA hu hw1 hit1 (by omega) hcl hy) ?_;refine .p 3 ?_;refine .en [true] [2048,0] [_] ?_;refine .en [true,false] [6144,2048,0] [_] ?_;refine .p 1 ?_;refine c37z ?_;refine c181z ?_;refine .seq ?_;refine .c5 [1,2,4,5,6,7,8,9,10,11] ?_;refine c9z ?_;refine c204z ?_;refine c31z ?_;refine .ca rfl rfl (T8 t25 t25 rfl hCS (by omega) (fun y hy=>Nat.lt_of_le_of_lt (LI.j4 hu hL1 y hy) (by omega))) ?_;refine .n ?_;refine u2z ?_ ?_
     ·intro e5 qe5;refine c1z ?_;refine .c5 [1,2,4,5,6,7,8,9,10] ?_;have hny:y∉L1:=fun hm=>by have:=BB hm;omega
      have hL2:=hL1.snoc hwy hny;have hfew2:=hL2.few hu;have hmy:y∈L1++[y]:=by simp
      have hR2:=hR1.app (M:=[y]);have hok2:=hok.app (M:=[y]);obtain ⟨hf1,hf2,hf3⟩:=BB hmy;have hsg:=@C0 v pc (fI (L1++[y]) y) (by omega);refine c28z ?_;refine .ca rfl rfl (T8 (L:=(L1++[y])) t25 t25 (by rw[List.length_append];rfl) hCS (by rw[List.length_append,List.length_singleton];omega) (fun y hy=>Nat.lt_of_le_of_lt (LI.j4 hu hL2 y hy) (by omega))) ?_;refine .n ?_;refine .z ?_;refine u2z ?_ ?_
      ·intro e6 qe6;refine .c5 [1,2,4,5,6,7,8,9] ?_;refine .og u9 (mkH 9 [0,1,0,0,12,28,63,127,255] [8] [] [0,256] []) 0 ?_;refine .p 1 ?_;refine c242z ?_;refine .cl rfl rfl (fun _=>KA _ _ (by omega)) ?_;refine .p 1 ?_;refine .en [true] [256,0] [_] ?_;refine w8.nil rfl ?_;change c8 ..;refine c264z ?_;exact ⟨_,by omega,.v ⟨(pc+1),(L1++[y]),(g1+1),(jQ R1 (fI (L1++[y]) y)),(v.set pc (fI (L1++[y]) y)),⟨rfl,⟨hL2,hR2.with ⟨hf1,hf2⟩,⟨M++[y],by rw[hM,List.append_assoc]⟩,by omega,t142,hok2.set (by omega) ⟨fun _=>⟨hf1,hf2,hf3.trans hy.symm⟩,fun hc=>absurd hcl hc⟩⟩⟩,rfl⟩ (he:=t38) (hk:=t34)⟩
      intro e6 qe6;refine c4z ?_;refine c264z ?_;exact ⟨_,by omega,.v ⟨(pc+1),(L1++[y]),(g1+1),R1,(v.set pc (fI (L1++[y]) y)),⟨rfl,⟨hL2,hR2,⟨M++[y],by rw[hM,List.append_assoc]⟩,by omega,t142,hok2.set (by omega) ⟨fun _=>⟨hf1,hf2,hf3.trans hy.symm⟩,fun hc=>absurd hcl hc⟩⟩⟩,rfl⟩ (he:=t38) (hk:=t34)⟩
     intro e5 qe5;refine .sk ?_;have hmy:y∈L1:=Classical.byContradiction fun hm=>by have:=fI_not hm;omega
     have hL2:=hL1;have hR2:=hR1;have hok2:=hok;obtain ⟨hf1,hf2,hf3⟩:=BB hmy;have hsg:=@C0 v pc (fI L1 y) (by omega);refine c28z ?_;refine .ca rfl rfl (T8 (L:=L1) t25 t25 rfl hCS (by omega) (fun y hy=>Nat.lt_of_le_of_lt (LI.j4 hu hL1 y hy) (by omega))) ?_;refine .n ?_;refine .c5 [1,2,4,5,6,7,8,9] ?_;refine .z ?_;refine u2z ?_ ?_
     ·intro e7 qe7;refine .og u9 (mkH 9 [0,1,0,0,12,28,63,127,255] [8] [] [0,256] []) 0 ?_;refine .p 1 ?_;refine c242z ?_;refine .cl rfl rfl (fun _=>KA _ _ (by omega)) ?_;refine .p 1 ?_;refine .en [true] [256,0] [_] ?_;refine w8.nil rfl ?_;change c8 ..;refine c264z ?_;exact ⟨_,by omega,.v ⟨(pc+1),L1,g1,(jQ R1 (fI L1 y)),(v.set pc (fI L1 y)),⟨rfl,⟨hL2,hR2.with ⟨hf1,hf2⟩,⟨M,by rw[hM]⟩,by omega,t142,hok2.set (by omega) ⟨fun _=>⟨hf1,hf2,hf3.trans hy.symm⟩,fun hc=>absurd hcl hc⟩⟩⟩,rfl⟩ (he:=t38) (hk:=t34)⟩
     intro e7 qe7;refine c4z ?_;refine .rz ?_;exact ⟨_,by omega,.v ⟨(pc+1),L1,g1,R1,(v.set pc (fI L1 y)),⟨rfl,⟨hL2,hR2,⟨M,by rw[hM]⟩,by omega,t142,hok2.set (by omega) ⟨fun _=>⟨hf1,hf2,hf3.trans hy.symm⟩,fun hc=>absurd hcl hc⟩⟩⟩,rfl⟩ (he:=t38) (hk:=t34)⟩
    ·skip;refine .sg u9 (mkH 14 [0,0,2,0,14,30,0,127,255,511,511,0,3071,8191] [11,12] [] [0,2048,6144] [0,1,2,3,4,5,6,7,8,9,10]) 0 ?_;refine c117z ?_;refine .p 2 ?_;refine c146z ?_;refine .cl rfl rfl (fun _=>EB hu hw1 hit1 (by omega) hcl) ?_;refine .p 3 ?_;refine .en [true] [2048,0] [_] ?_;refine .en [true,false] [6144,2048,0] [_] ?_;refine .p 1 ?_;refine c37z ?_;refine c181z ?_;refine .seq ?_;refine .c5 [1,2,4,5,6,7,8,9,10,11] ?_;refine c111z ?_;refine .z ?_;refine c8z ?_;refine .rz ?_;exact ⟨_,by omega,.v ⟨(pc+1),L1,g1,R1,(v.set pc (-1)),⟨rfl,⟨hL1,hR1,⟨M,hM⟩,by omega,t142,hok.set (by omega) ⟨fun hc=>absurd hc hcl,fun _=>rfl⟩⟩⟩,rfl⟩ (he:=t38) (hk:=t34)⟩
   intro e4 qe4;refine .exit ?_;obtain rfl:pc=(c6 u (L.getD i l6)).length:=by omega
   refine c8.uR (t:=8) (γ:=h.length+6) (len:=(c6 u (L.getD i l6)).length) (by rw[q9];exact congrArg some (cP (by intro h0;have:=congrArg List.length h0;rw[l8]at this;replace this:=s6z this;omega)).symm) (by rw[l8,hv,Nat.mul_one]) (by omega) (xE _) (kO (by decide) rfl) ?_;rw[bT];simp only[n4,List.set_cons_succ,List.set_cons_zero];generalize fM _ _ _ _ _=Vb;change c8 ..;refine c1z ?_;refine .c5 [1,2,4,5,6] ?_;refine .rz ?_;have hP1:PI u L1 (CS++[v]) (i+1):=by rw[hM];exact hP.step hCS (by omega) hv (by rw[←hM];exact hok)
   have hs3:kC u L1 (i+1)=kC u L (i+1):=by rw[hM,KH (by omega)]
   exact ⟨_,by omega,.v ⟨(i+1),L1,g1,R1,(CS++[v]),⟨rfl,⟨hL1,hR1,by omega,by simp[hCS],hP1⟩⟩,rfl⟩ (he:=by (simp only[List.append_assoc,List.cons_append,List.nil_append,List.length_append,List.length_cons,List.length_nil,hCS];rfl)) (hk:=by exact (v5.refl _).app rfl ⟨.inl rfl,.inl rfl,.inr ((TE _).refs _),.inl rfl,.inr (gK.get ⟨.own _ _ _ _ (by simp),.own _ _ _ _ (by simp),.vec _ _,trivial⟩),.inr (by rw[o3];exact (TD _).refs _),trivial⟩) (hs:=t94)⟩
  intro e1 qe1;refine .exit ?_;obtain rfl:i=L.length:=by omega
  refine c8.H6 (γ:=h.length+2) (β:=h.length+4) (k:=0) (off:=0) (len:=L.length) (cs:=g9 L) t25 rfl (by simp only[w6];omega) (by rw[List.drop_zero,List.take_of_length_le (by simp only[w6];omega)];exact (TE _).VK) t25 (by omega) rfl ?_;simp only[List.append_assoc,List.cons_append,List.nil_append,q9,n4,List.set_cons_succ,List.set_cons_zero,List.length_append,List.length_cons,List.length_nil,Nat.reduceAdd,Nat.zero_add];refine c8.nM (γ:=h.length+5) (β:=h.length+4) (k:=1) (len:=L.length) t25 (by rw[dK,hCS,Nat.mul_one]) (by omega) (TD _) t25 (by omega) rfl ?_;refine c12z ?_;refine .c5 [2,4] ?_;refine .z ?_;exact .ret (.ex (hq:=by exact ⟨⟨L,CS,R⟩,wc_of hu hL hR hCS hP,by simp only[YX,hCS]⟩))
end
end Go.Proofs.YtonbocmibeikmaaGreat
end
section
namespace Go.Un
open Go.Ab
def shV (k:Nat)(n:Int)(d:Nat):Int:=if 0≤(d:Int)+n∧(d:Int)+n≤k then 2^((d:Int)+n).toNat else 0
def shI (k:Nat)(n:Int):List Int:=(List.range (k+1)).map (shV k n)
theorem KI {k:Nat}{n:Int}:(shI k n).length=k+1:=by simp[shI]
def chI (it:y0)(x:Ins)(m:Int):Int:=if x.op=4∧xR it x.pl=m then 1 else if x.op=5∧xR it x.pl=m then -1 else 0
variable {it:y0}{x:Ins}{m:Int}
theorem chI_1 (h:x.op=4)(h2:xR it x.pl=m):chI it x m=1:=by rw[chI,if_pos ⟨h,h2⟩]
theorem chI_2 (h:x.op=5)(h2:xR it x.pl=m):chI it x m = -1:=by rw[chI,if_neg (by omega),if_pos ⟨h,h2⟩]
theorem chI_0 (h:¬(x.op=4∧xR it x.pl=m))(h2:¬(x.op=5∧xR it x.pl=m)):chI it x m=0:=by rw[chI,if_neg h,if_neg h2]
theorem KJ:chI it x m=1∨chI it x m = -1∨chI it x m=0:=by
 unfold chI;split
 ·exact .inl rfl
 ·split
  ·exact .inr (.inl rfl)
  ·exact .inr (.inr rfl)
def nS (m:Mx):Nat:=if m.size=0∧m.re=false then 1 else 8
theorem C1 {m:Mx}:nS m≤8:=by unfold nS;split<;>omega
variable {pc:Nat}
theorem KK {u:Un}(hu:WU u)(w:WIt u it)(hpc:pc<(c6 u it).length)(ho:((c6 u it).getD pc g0).op=4∨((c6 u it).getD pc g0).op=5):((c6 u it).getD pc g0).pl.param=true→0≤((c6 u it).getD pc g0).pl.index∧((c6 u it).getD pc g0).pl.index.toNat<it.j4.length:=by
 obtain ⟨_,_,h3,_⟩:=(dC hu w).2.2 pc hpc;intro hp;obtain ⟨h0,⟨_,h2⟩ | ⟨h1,_⟩⟩:=h3 ho
 ·refine ⟨h0,?_⟩;rw[w.len];simp only at h2;omega
 ·rw[hp]at h1;cases h1
def n9 (x:Ins)(pc:Nat):List Int:=if x.op=8 then [] else if x.op=7 then [x.target] else if x.op=6 then (if x.target=(pc:Int)+1 then [x.target] else [min x.target ((pc:Int)+1),max x.target ((pc:Int)+1)]) else [(pc:Int)+1]
def lU (x:Ins)(pc:Nat):AV:=.vec (n9 x pc).length (g6 (n9 x pc))
theorem KL (h:x.op=8):lU x pc=.vec 0 []:=by simp[lU,n9,h,g6]
theorem KM (h:x.op=7):lU x pc=.vec 1 [.int .i64 x.target]:=by simp[lU,n9,h,g6]
theorem BD (h:x.op=6)(h2:x.target=(pc:Int)+1):lU x pc=.vec 1 [.int .i64 x.target]:=by simp[lU,n9,h,h2,g6]
theorem KN (h:x.op=6)(h2:¬x.target=(pc:Int)+1):lU x pc=.vec 2 [.int .i64 (min x.target ((pc:Int)+1)),.int .i64 (max x.target ((pc:Int)+1))]:=by simp[lU,n9,h,h2,g6]
theorem KO (h8:¬x.op=8)(h7:¬x.op=7)(h6:¬x.op=6):lU x pc=.vec 1 [.int .i64 ((pc:Int)+1)]:=by simp[lU,n9,h8,h7,h6,g6]
theorem kD:(n9 x pc).length≤2:=by
 unfold n9;split
 ·simp
 ·split
  ·simp
  ·split
   ·split<;>simp
   ·simp
theorem next_in {u:Un}(hu:WU u)(w:WIt u it)(hpc:pc<(c6 u it).length):∀d,d<(n9 ((c6 u it).getD pc g0) pc).length→0≤(n9 ((c6 u it).getD pc g0) pc).getD d 0∧(n9 ((c6 u it).getD pc g0) pc).getD d 0<(c6 u it).length:=by
 obtain ⟨h1,h2,h3⟩:=dC hu w;obtain ⟨_,h4,_⟩:=h3 pc hpc;have h5:¬((c6 u it).getD pc g0).op=8→pc+1<(c6 u it).length:=fun h8=>by
  by_cases e:pc=(c6 u it).length-1
  ·rw[←e]at h2;exact absurd h2 h8
  ·omega
 intro d hd;have key:∀x∈n9 ((c6 u it).getD pc g0) pc,0≤x∧x<(c6 u it).length:=by
  intro x hx;unfold n9 at hx;split at hx
  ·simp at hx
  ·rename_i h8;have h6:=h5 h8;split at hx
   ·rename_i h7;have:=h4 (.inr h7);replace hx:=s8z hx;omega
   ·split at hx
    ·rename_i h7;have:=h4 (.inl h7);split at hx
     ·replace hx:=s8z hx;omega
     ·replace hx:=s7z hx;omega
    ·replace hx:=s8z hx;omega
 exact key _ (j7 hd)
theorem nextL_pos (h:¬x.op=8):0<(n9 x pc).length:=by
 unfold n9;rw[if_neg h];split
 ·simp
 ·split
  ·split<;>simp
  ·simp
end Go.Un
end
section
namespace Go.Proofs.YtonbocmibeikmaaGreat
open Go.Ab Go.Un
variable {i:Nat}
theorem jC {l:List Ins}(h:i<l.length):List.take 12 (List.drop (i*12) (p5 l))=[.int .i64 (l.getD i g0).op,.int .i64 (l.getD i g0).target,.bool (l.getD i g0).global,.int .i64 (l.getD i g0).e.op,.int .i64 (l.getD i g0).e.num,.str (l.getD i g0).e.name,.vec (l.getD i g0).e.args.length (n7 (l.getD i g0).e.args),.bool (l.getD i g0).pl.param,.int .i64 (l.getD i g0).pl.index,.vec (l.getD i g0).pl.at'.length (n7 (l.getD i g0).pl.at'),.vec (l.getD i g0).ints.length (n7 (l.getD i g0).ints),.vec (l.getD i g0).places.length (dP (l.getD i g0).places)]:=by rw[read_in h,lD]
theorem jD {l:List Mx}(h:i<l.length):List.take 3 (List.drop (i*3) (c9 l))=[.str (l.getD i w5).name,.bool (l.getD i w5).re,.int .i64 (l.getD i w5).size]:=zQ h
theorem flat_I (n:Nat):(List.replicate n [AV.int .i64 0]).flatten=g6 (List.replicate n 0):=by
  induction n with
  | zero=>rfl
  | succ n ih=>simp only[List.replicate_succ,List.flatten_cons,ih];rfl
theorem shl1N {e:Int}(h0:0≤e)(h1:e≤9):IntKind.wrap .i64 (1*2^(min e.toNat 64))=2^e.toNat:=by
  obtain ⟨m,rfl⟩:=Int.eq_ofNat_of_zero_le h0;have:m=0∨m=1∨m=2∨m=3∨m=4∨m=5∨m=6∨m=7∨m=8∨m=9:=by omega
  rcases this with rfl | rfl | rfl | rfl | rfl | rfl | rfl | rfl | rfl | rfl<;>decide
variable {m:Nat}
theorem shl1M (h1:m≤9):IntKind.wrap .i64 (1*2^(min m 64))=2^m:=by have:=shl1N (e:=(m:Int)) (by omega) (by omega);simpa using this
def yB (v:Nat→Int)(i:Nat)(zs:List Int):Prop:=(∀d,d<i→zs.getD d 0=v d)∧(∀d,i≤d→zs.getD d 0=0)
theorem yB.zero (v:Nat→Int)(n:Nat):yB v 0 (List.replicate n 0):=by refine ⟨fun d hd=>by omega,fun d _=>?_⟩;rw[List.getD_eq_getElem?_getD,List.getElem?_replicate];split<;>rfl
variable {v:Nat→Int}{zs:List Int}
theorem yB.set {x:Int}(hi:i<zs.length)(h:yB v i zs)(hx:x=v i):yB v (i+1) (zs.set i x):=by
  refine ⟨fun d hd=>?_,fun d hd=>?_⟩
  · by_cases e:d=i
    · subst e;simp[List.getD,hi,hx]
    · have:=h.1 d (by omega)
      simp only[List.getD_eq_getElem?_getD,List.getElem?_set_ne (Ne.symm e)]at this ⊢;exact this
  · have:=h.2 d (by omega)
    simp only[List.getD_eq_getElem?_getD,List.getElem?_set_ne (show i≠d from by omega)]at this ⊢;exact this
theorem yB.skip (h:yB v i zs)(hv:v i=0):yB v (i+1) zs:=by
  refine ⟨fun d hd=>?_,fun d hd=>h.2 d (by omega)⟩;by_cases e:d=i
  · subst e;rw[h.2 d (Nat.le_refl _),hv]
  · exact h.1 d (by omega)
theorem yB.all {n:Nat}(h:yB v i zs)(hl:zs.length=n)(hi:n≤i):zs=(List.range n).map v:=by refine List.ext_getElem (by simp[hl]) fun d k1 k2=>?_;have:=h.1 d (by omega);simp;simpa [List.getD,k1] using this
variable {h l:c7}{b0:Blk}{g:Nat}{a:Int}
theorem TG:iL h.length (h++(b0::⟨g,false,3,1,[.int .i64 a],0⟩::l)) 6 (.own (h.length+1) g 0 1)=some (.vec 1 [.int .i64 a]):=L2 (a:=[a]) t25 (by omega) rfl
theorem frz_2 {b:Int}:iL h.length (h++(b0::⟨g,false,3,1,[.int .i64 a,.int .i64 b],0⟩::l)) 6 (.own (h.length+1) g 0 2)=some (.vec 2 [.int .i64 a,.int .i64 b]):=L2 (a:=[a,b]) t25 (by omega) rfl
theorem vec2 {b c d:Int}(h1:a=c)(h2:b=d):AV.vec 2 [.int .i64 a,.int .i64 b]=AV.vec 2 [.int .i64 c,.int .i64 d]:=by rw[h1,h2]
theorem frz_13 {b1 b2:Blk}:iL h.length (h++(b0::b1::b2::⟨g,false,3,1,[.int .i64 a],0⟩::l)) 6 (.own (h.length+3) g 0 1)=some (.vec 1 [.int .i64 a]):=L2 (a:=[a]) t25 (by omega) rfl
theorem kE {C:Cfg}{ρ:Operand→AV}{c:Call}{r:Operand}{name:String}{t:TypeId}{v:AV}{f:FuncId}(hc:c.callee=.invoke r name)(hr:ρ r=.iface t v)(hm:C.meth t name=some f):v7 C ρ c=some (f,v::c.args.toList.map ρ):=by simp only[v7,hc,hr,hm]
theorem EC:cfg.meth 245 "lockorder/flow.next" = some 206:=by kernel_rfl
theorem KP:cfg.meth 247 "lockorder/flow.next" = some 207:=by kernel_rfl
theorem vR:cfg.meth 248 "lockorder/flow.next" = some 208:=by kernel_rfl
theorem L3:cfg.meth 249 "lockorder/flow.next" = some 209:=by kernel_rfl
attribute [local go_sem] rd w6 aN u4 p8 l8 Int.natCast_nonneg Int.natCast_inj nD dE nE jC jD lO KG flat_I shl1N shl1M List.length_set List.length_replicate Int.toNat_natCast_add_one kV wrap64 zZ max2
theorem Cr (m:Mx):CB 30 [.agg [.str m.name,.bool m.re,.int .i64 m.size]] h (.int .i64 ((nS m:Nat):Int)):=by
  refine .bz Tryz.f30 11 ?_;refine c19z ?_;refine c28z ?_;refine .spl 6 rfl rfl (fun e1=>?_) (fun e1=>?_)
  ·try simp only[e1]
   have qe1:=fact e1;refine .m [(3,6)] ?_;refine u2z ?_ ?_
   ·intro e2 qe2;refine c34z ?_;exact .ret (.ex (hq:=t147))
   intro e2 qe2;refine .sk ?_;refine c34z ?_;exact .ret (.ex (hq:=t147))
  try simp only[e1]
  have qe1:=fact e1;refine .m [(3,6)] ?_;refine c20z ?_;refine c34z ?_;exact .ret (.ex (hq:=t147))
theorem WY (m:Mx):CB 43 [.agg [.str m.name,.bool m.re,.int .i64 m.size]] h (.int .i64 ((nS m:Nat):Int)):=by
  refine .bz Tryz.f43 11 ?_;refine c19z ?_;refine c28z ?_;refine .spl 6 rfl rfl (fun e1=>?_) (fun e1=>?_)
  ·try simp only[e1]
   have qe1:=fact e1;refine .m [(3,6)] ?_;refine u2z ?_ ?_
   ·intro e2 qe2;refine c34z ?_;exact .ret (.ex (hq:=t147))
   intro e2 qe2;refine .sk ?_;refine c34z ?_;exact .ret (.ex (hq:=t147))
  try simp only[e1]
  have qe1:=fact e1;refine .m [(3,6)] ?_;refine c20z ?_;refine c34z ?_;exact .ret (.ex (hq:=t147))
theorem vS (k:Nat)(n:Int)(hk:k≤8)(h1:-1≤n)(h2:n≤1):CB 108 [.int .i64 ((k:Nat):Int),.int .i64 n] h (.vec (shI k n).length (g6 (shI k n))):=by
  refine .bz Tryz.f108 35 ?_;refine c60z ?_;refine .cA (fun m st=>∃(i:Nat) (zs:List Int),(m=(k+1)-i∧(yB (shV k n) i zs∧zs.length=(k+1)∧i≤(k+1)))∧st=⟨mkS 35 [(0,AV.int .i64 ((k:Nat):Int)),(1,AV.int .i64 n),(5,AV.own h.length 0 0 (k+1)),(11,AV.int .i64 ((k+1:Nat):Int)),(12,AV.int .i64 ((i:Nat):Int))],h++[⟨0,false,3,1,g6 zs,0⟩]⟩) _ (.v ⟨0,(List.replicate (k+1) 0),⟨rfl,⟨yB.zero _ _,by simp,by omega⟩⟩,rfl⟩) ?_;rintro m sl h' ⟨i,zs,⟨hm,⟨hI,hz,hi⟩⟩,hst⟩;obtain ⟨rfl,rfl⟩:=St.mk.inj hst;refine c19z ?_;refine u2z ?_ ?_
  ·intro e1 qe1;refine c72z ?_;refine c22z ?_;refine .spl 19 rfl rfl (fun e2=>?_) (fun e2=>?_)
   ·try simp only[e2]
    have qe2:=fact e2;refine .m [(4,19)] ?_;refine u2z ?_ ?_
    ·intro e3 qe3;refine .c5 [0,1,5,6,11,12] ?_;refine c1z ?_;refine c218z ?_;exact ⟨_,by omega,.v ⟨(i+1),(zs.set i _),⟨rfl,⟨yB.set (by omega) hI (by rw[shV,if_pos (by omega)]),t111,by omega⟩⟩,rfl⟩⟩
    intro e3 qe3;refine c4z ?_;refine c218z ?_;exact ⟨_,by omega,.v ⟨(i+1),zs,⟨rfl,⟨yB.skip hI t179,hz,by omega⟩⟩,rfl⟩⟩
   try simp only[e2]
   have qe2:=fact e2;refine .m [(4,19)] ?_;refine c46z ?_;refine c218z ?_;exact ⟨_,by omega,.v ⟨(i+1),zs,⟨rfl,⟨yB.skip hI t179,hz,by omega⟩⟩,rfl⟩⟩
  intro e1 qe1;refine c94z ?_;exact ⟨_,_,rfl,L2 t137 (Nat.le_refl _) hz,by (rw[hI.all hz (by omega),KI];rfl)⟩
theorem KQ (k:Nat)(n:Int)(hk:k≤8)(h1:-1≤n)(h2:n≤1):CB 79 [.int .i64 ((k:Nat):Int),.int .i64 n] h (.vec (shI k n).length (g6 (shI k n))):=by
  refine .bz Tryz.f79 32 ?_;refine c60z ?_;refine .cA (fun m st=>∃(i:Nat) (zs:List Int),(m=(k+1)-i∧(yB (shV k n) i zs∧zs.length=(k+1)∧i≤(k+1)))∧st=⟨mkS 32 [(0,AV.int .i64 ((k:Nat):Int)),(1,AV.int .i64 n),(5,AV.own h.length 0 0 (k+1)),(6,AV.int .i64 ((i:Nat):Int))],h++[⟨0,false,3,1,g6 zs,0⟩]⟩) _ (.v ⟨0,(List.replicate (k+1) 0),⟨rfl,⟨yB.zero _ _,by simp,by omega⟩⟩,rfl⟩) ?_;rintro m sl h' ⟨i,zs,⟨hm,⟨hI,hz,hi⟩⟩,hst⟩;obtain ⟨rfl,rfl⟩:=St.mk.inj hst;refine c0z ?_;refine u2z ?_ ?_
  ·intro e1 qe1;refine c72z ?_;refine c16z ?_;refine .spl 21 rfl rfl (fun e2=>?_) (fun e2=>?_)
   ·try simp only[e2]
    have qe2:=fact e2;refine .m [(2,21)] ?_;refine u2z ?_ ?_
    ·intro e3 qe3;refine .c5 [0,1,5,6,7] ?_;refine c47z ?_;exact ⟨_,by omega,.v ⟨(i+1),(zs.set i _),⟨rfl,⟨yB.set (by omega) hI (by rw[shV,if_pos (by omega)]),t111,by omega⟩⟩,rfl⟩⟩
    intro e3 qe3;refine c4z ?_;refine c151z ?_;exact ⟨_,by omega,.v ⟨(i+1),zs,⟨rfl,⟨yB.skip hI t179,hz,by omega⟩⟩,rfl⟩⟩
   try simp only[e2]
   have qe2:=fact e2;refine .m [(2,21)] ?_;refine c46z ?_;refine c151z ?_;exact ⟨_,by omega,.v ⟨(i+1),zs,⟨rfl,⟨yB.skip hI t179,hz,by omega⟩⟩,rfl⟩⟩
  intro e1 qe1;refine c94z ?_;exact ⟨_,_,rfl,L2 t137 (Nat.le_refl _) hz,by (rw[hI.all hz (by omega),KI];rfl)⟩
theorem c_up (k:Nat)(hk:k≤8):CB 65 [.int .i64 ((k:Nat):Int)] h (.vec (shI k 1).length (g6 (shI k 1))):=by refine .bz Tryz.f65 5 ?_;refine c128z ?_;refine .ca rfl rfl (vS k 1 hk (by omega) (by omega)) ?_;refine c180z ?_;exact ⟨[],_,(List.append_nil _).symm,t43,by rfl⟩
theorem c_down (k:Nat)(hk:k≤8):CB 66 [.int .i64 ((k:Nat):Int)] h (.vec (shI k (-1)).length (g6 (shI k (-1)))):=by refine .bz Tryz.f66 5 ?_;refine c128z ?_;refine .ca rfl rfl (vS k (-1) hk (by omega) (by omega)) ?_;refine c180z ?_;exact ⟨[],_,(List.append_nil _).symm,t43,by rfl⟩
theorem c_id (k:Nat)(hk:k≤8):CB 67 [.int .i64 ((k:Nat):Int)] h (.vec (shI k 0).length (g6 (shI k 0))):=by refine .bz Tryz.f67 5 ?_;refine c128z ?_;refine .ca rfl rfl (vS k 0 hk (by omega) (by omega)) ?_;refine c180z ?_;exact ⟨[],_,(List.append_nil _).symm,t43,by rfl⟩
variable {u:Un}{it:y0}{pc:Nat}
theorem c_fcode (hu:WU u)(w:WIt u it)(hpc:pc<(c6 u it).length):CB 106 [.agg [.vec u.globals.length (g6 u.globals),.vec u.mutexes.length (c9 u.mutexes),.vec u.procs.length (g7 u.procs),.int .i64 u.main],.agg [.int .i64 it.proc,.vec it.j4.length (g6 it.j4)],.int .i64 ((pc:Nat):Int)] h (.agg [.int .i64 ((c6 u it).getD pc g0).op,.int .i64 ((c6 u it).getD pc g0).target,.bool ((c6 u it).getD pc g0).global,.int .i64 ((c6 u it).getD pc g0).e.op,.int .i64 ((c6 u it).getD pc g0).e.num,.str ((c6 u it).getD pc g0).e.name,.vec ((c6 u it).getD pc g0).e.args.length (n7 ((c6 u it).getD pc g0).e.args),.bool ((c6 u it).getD pc g0).pl.param,.int .i64 ((c6 u it).getD pc g0).pl.index,.vec ((c6 u it).getD pc g0).pl.at'.length (n7 ((c6 u it).getD pc g0).pl.at'),.vec ((c6 u it).getD pc g0).ints.length (n7 ((c6 u it).getD pc g0).ints),.vec ((c6 u it).getD pc g0).places.length (dP ((c6 u it).getD pc g0).places)]):=by refine .bz Tryz.f106 17 ?_;have w1:=w.lo;have w2:=w.hi;have hsz:(c6 u it).length≤1664:=n6 hu w;refine .z ?_;refine c129z ?_;exact .ret (.ex (hq:=by rfl))
theorem WZ (it:y0)(p:Pl)(hp:p.param=true→0≤p.index∧p.index.toNat<it.j4.length):CB 107 [.agg [.int .i64 it.proc,.vec it.j4.length (g6 it.j4)],.agg [.bool p.param,.int .i64 p.index,.vec p.at'.length (n7 p.at')]] h (.int .i64 (xR it p)):=by
  refine .bz Tryz.f107 28 ?_;refine c19z ?_;refine c16z ?_;refine .spl 7 rfl rfl (fun e1=>?_) (fun e1=>?_)
  ·try simp only[e1]
   have qe1:=fact e1;refine .k 5 [(2,7)] ?_;refine .spl 12 rfl rfl (fun e2=>?_) (fun e2=>?_)
   ·try simp only[e2]
    have qe2:=fact e2;refine .m [(7,12)] ?_;refine u2z ?_ ?_
    ·intro e3 qe3;refine .c5 [2,3] ?_;refine .z ?_;exact .ret (.ex (hq:=t93))
    intro e3 qe3;refine .sk ?_;refine c184z ?_;exact .ret (.ex (hq:=t93))
   try simp only[e2]
   have qe2:=fact e2;refine .m [(7,12)] ?_;refine c20z ?_;refine c184z ?_;exact .ret (.ex (hq:=t93))
  try simp only[e1]
  have qe1:=fact e1;refine .k 8 [(2,7),(7,12)] ?_;refine .m [(7,12)] ?_;refine c20z ?_;refine c184z ?_;exact .ret (.ex (hq:=t93))
theorem TH (hu:WU u)(w:WIt u it)(hpc:pc<(c6 u it).length)(m:Int):CB 64 [.agg [.vec u.globals.length (g6 u.globals),.vec u.mutexes.length (c9 u.mutexes),.vec u.procs.length (g7 u.procs),.int .i64 u.main],.agg [.int .i64 it.proc,.vec it.j4.length (g6 it.j4)],.int .i64 ((pc:Nat):Int),.int .i64 m] h (.int .i64 (chI it ((c6 u it).getD pc g0) m)):=by
  refine .bz Tryz.f64 33 ?_;have w1:=w.lo;have w2:=w.hi;have hsz:(c6 u it).length≤1664:=n6 hu w;refine c113z ?_;refine c35z ?_;refine c260z ?_;refine .spl 17 rfl rfl (fun e1=>?_) (fun e1=>?_)
  ·try simp only[e1]
   have qe1:=fact e1;refine .k 5 [(3,17)] ?_;refine .spl 22 rfl rfl (fun e2=>?_) (fun e2=>?_)
   ·try simp only[e2]
    have qe2:=fact e2;refine .m [(8,22)] ?_;refine .T ?_;refine c34z ?_;exact .ret (.ex (hq:=t15))
   try simp only[e2]
   have qe2:=fact e2;refine .k 3 [(8,22)] ?_;refine .ca rfl rfl (WZ it ((c6 u it).getD pc g0).pl (KK hu w hpc (by omega))) ?_;refine .m [(8,22)] ?_;refine u2z ?_ ?_
   ·intro e3 qe3;refine c34z ?_;exact .ret (.ex (hq:=t15))
   intro e3 qe3;refine c204z ?_;refine .c5 [9] ?_;refine .z ?_;refine u2z ?_ ?_
   ·intro e4 qe4;refine .z ?_;exact .ret (.ex (hq:=t15))
   intro e4 qe4;refine .sk ?_;refine .z ?_;exact .ret (.ex (hq:=t15))
  try simp only[e1]
  have qe1:=fact e1;refine .k 8 [(3,17),(8,22)] ?_;refine .ca rfl rfl (WZ it ((c6 u it).getD pc g0).pl (KK hu w hpc (by omega))) ?_;refine .m [(8,22)] ?_;refine u2z ?_ ?_
  ·intro e5 qe5;refine c34z ?_;exact .ret (.ex (hq:=t15))
  intro e5 qe5;refine c204z ?_;refine .c5 [9] ?_;refine .z ?_;refine u2z ?_ ?_
  ·intro e6 qe6;refine .z ?_;exact .ret (.ex (hq:=t15))
  intro e6 qe6;refine .sk ?_;refine .z ?_;exact .ret (.ex (hq:=t15))
theorem KR (hu:WU u)(w:WIt u it)(hpc:pc<(c6 u it).length)(m:Int):CB 123 [.agg [.vec u.globals.length (g6 u.globals),.vec u.mutexes.length (c9 u.mutexes),.vec u.procs.length (g7 u.procs),.int .i64 u.main],.agg [.int .i64 it.proc,.vec it.j4.length (g6 it.j4)],.int .i64 ((pc:Nat):Int),.int .i64 m] h (.int .i64 (chI it ((c6 u it).getD pc g0) m)):=by
  refine .bz Tryz.f123 44 ?_;have w1:=w.lo;have w2:=w.hi;have hsz:(c6 u it).length≤1664:=n6 hu w;refine .z ?_;refine c129z ?_;refine .sb ?_;refine c260z ?_;refine .spl 24 rfl rfl (fun e1=>?_) (fun e1=>?_)
  ·try simp only[e1]
   have qe1:=fact e1;refine .k 3 [(3,24)] ?_;refine .ca rfl rfl (KB it ((c6 u it).getD pc g0).pl (KK hu w hpc (by omega))) ?_;refine .m [(3,24)] ?_;refine u2z ?_ ?_
   ·intro e2 qe2;refine c34z ?_;exact .ret (.ex (hq:=t15))
   intro e2 qe2;refine c260z ?_;refine .spl 36 rfl rfl (fun e3=>?_) (fun e3=>?_)
   ·try simp only[e3]
    have qe3:=fact e3;refine .k 3 [(3,36)] ?_;refine .ca rfl rfl (KB it ((c6 u it).getD pc g0).pl (KK hu w hpc (by omega))) ?_;refine .m [(3,36)] ?_;refine u2z ?_ ?_
    ·intro e4 qe4;refine c34z ?_;exact .ret (.ex (hq:=t15))
    intro e4 qe4;refine c4z ?_;refine c34z ?_;exact .ret (.ex (hq:=t15))
   try simp only[e3]
   have qe3:=fact e3;refine .m [(3,36)] ?_;refine c46z ?_;refine c34z ?_;exact .ret (.ex (hq:=t15))
  try simp only[e1]
  have qe1:=fact e1;refine .m [(3,24)] ?_;refine .F ?_;refine c260z ?_;refine .spl 36 rfl rfl (fun e5=>?_) (fun e5=>?_)
  ·try simp only[e5]
   have qe5:=fact e5;refine .k 3 [(3,36)] ?_;refine .ca rfl rfl (KB it ((c6 u it).getD pc g0).pl (KK hu w hpc (by omega))) ?_;refine .m [(3,36)] ?_;refine u2z ?_ ?_
   ·intro e6 qe6;refine c34z ?_;exact .ret (.ex (hq:=t15))
   intro e6 qe6;refine c4z ?_;refine c34z ?_;exact .ret (.ex (hq:=t15))
  try simp only[e5]
  have qe5:=fact e5;refine .m [(3,36)] ?_;refine c46z ?_;refine c34z ?_;exact .ret (.ex (hq:=t15))
theorem c_rel (hu:WU u)(w:WIt u it)(hpc:pc<(c6 u it).length)(hm:m<u.mutexes.length):CB 24 [.agg [.vec u.globals.length (g6 u.globals),.vec u.mutexes.length (c9 u.mutexes),.vec u.procs.length (g7 u.procs),.int .i64 u.main],.agg [.int .i64 it.proc,.vec it.j4.length (g6 it.j4)],.int .i64 ((pc:Nat):Int),.int .i64 ((m:Nat):Int)] h (.vec (shI (nS (u.mutexes.getD m w5)) (chI it ((c6 u it).getD pc g0) ((m:Nat):Int))).length (g6 (shI (nS (u.mutexes.getD m w5)) (chI it ((c6 u it).getD pc g0) ((m:Nat):Int))))):=by
  refine .bz Tryz.f24 31 ?_;have w1:=w.lo;have w2:=w.hi;have hsz:(c6 u it).length≤1664:=n6 hu w;have hcp:=C1 (m:=(u.mutexes.getD m w5));have hml:=hu.ml;have hch:=KJ (it:=it) (x:=((c6 u it).getD pc g0)) (m:=(m:Int));refine .z ?_;refine c22z ?_;refine .ca rfl rfl (Cr (u.mutexes.getD m w5)) ?_;refine c35z ?_;refine .c5 [2,3,4,5,9] ?_;refine c28z ?_;refine .ca rfl rfl (TH hu w hpc _) ?_;refine c236z ?_;refine .c5 [9,20] ?_;refine .z ?_;refine u2z ?_ ?_
  ·intro e1 qe1;refine c63z ?_;refine .ca rfl rfl (c_up _ hcp) ?_;refine .n ?_;exact .ret (.ex (hq:=t62))
  intro e1 qe1;refine .z ?_;refine u2z ?_ ?_
  ·intro e2 qe2;refine c63z ?_;refine .ca rfl rfl (c_down _ hcp) ?_;refine .n ?_;exact .ret (.ex (hq:=t62))
  intro e2 qe2;refine c4z ?_;refine c63z ?_;refine .ca rfl rfl (c_id _ hcp) ?_;refine .n ?_;exact .ret (.ex (hq:=t62))
theorem c_relR (hu:WU u)(w:WIt u it)(hpc:pc<(c6 u it).length)(hm:m<u.mutexes.length):CB 80 [.agg [.vec u.globals.length (g6 u.globals),.vec u.mutexes.length (c9 u.mutexes),.vec u.procs.length (g7 u.procs),.int .i64 u.main],.agg [.int .i64 it.proc,.vec it.j4.length (g6 it.j4)],.int .i64 ((pc:Nat):Int),.int .i64 ((m:Nat):Int)] h (.vec (shI (nS (u.mutexes.getD m w5)) (chI it ((c6 u it).getD pc g0) ((m:Nat):Int))).length (g6 (shI (nS (u.mutexes.getD m w5)) (chI it ((c6 u it).getD pc g0) ((m:Nat):Int))))):=by refine .bz Tryz.f80 21 ?_;have w1:=w.lo;have w2:=w.hi;have hsz:(c6 u it).length≤1664:=n6 hu w;have hcp:=C1 (m:=(u.mutexes.getD m w5));have hml:=hu.ml;have hch:=KJ (it:=it) (x:=((c6 u it).getD pc g0)) (m:=(m:Int));refine .z ?_;refine .ss u9 (mkP 13 [0,1,0,7,15,31,0,0,0,0,1023,2047,4095] []) ?_;refine .k 5 [] ?_;refine .ca rfl rfl (WY (u.mutexes.getD m w5)) ?_;refine .k 4 [] ?_;refine .ca rfl rfl (KR hu w hpc _) ?_;refine .ca rfl rfl (KQ _ _ hcp (by omega) (by omega)) ?_;refine .n [] ?_;exact .ret (.ex (hq:=by rfl))
theorem c_ended (pc:Nat):CB 206 [.agg [],.int .i64 ((pc:Nat):Int)] h (.vec 0 []):=by refine .bz Tryz.f206 5 ?_;refine c65z ?_;exact .ret (.ex (hq:=by rfl))
theorem c_jump (pc:Nat)(t:Int):CB 207 [.agg [.int .i64 t],.int .i64 ((pc:Nat):Int)] h (.vec 1 [.int .i64 t]):=by refine .bz Tryz.f207 8 ?_;refine c65z ?_;exact .ret (.ex (hf:=by first | rfl | exact TG) (hq:=by rfl))
theorem KS (pc:Nat)(hp:pc<100000):CB 209 [.agg [],.int .i64 ((pc:Nat):Int)] h (.vec 1 [.int .i64 ((pc:Int)+1)]):=by refine .bz Tryz.f209 8 ?_;refine c65z ?_;exact .ret (.ex (hf:=by first | rfl | exact TG) (hq:=by rfl))
theorem BE (pc:Nat)(t:Int)(hp:pc<100000):CB 208 [.agg [.int .i64 t],.int .i64 ((pc:Nat):Int)] h (if t=(pc:Int)+1 then AV.vec 1 [AV.int .i64 t] else AV.vec 2 [AV.int .i64 (min t ((pc:Int)+1)),AV.int .i64 (max t ((pc:Int)+1))]):=by
  refine .bz Tryz.f208 24 ?_;refine c89z ?_;refine u2z ?_ ?_
  ·intro e1 qe1;refine .c5 [2] ?_;refine .z ?_;exact .ret (.ex (hf:=by first | rfl | first | exact TG | exact frz_2) (hq:=t88))
  intro e1 qe1;refine .sk ?_;refine c129z ?_;exact .ret (.ex (hf:=by first | rfl | first | exact TG | exact frz_2) (hq:=t88))
def XA (x:Ins):AV:=if x.op=8 then .iface 245 (.agg []) else if x.op=7 then .iface 247 (.agg [.int .i64 x.target]) else if x.op=6 then .iface 248 (.agg [.int .i64 x.target]) else .iface 249 (.agg [])
variable {x:Ins}
theorem XB (h:x.op=8):XA x=.iface 245 (.agg []):=if_pos h
theorem XC (h:x.op=7):XA x=.iface 247 (.agg [.int .i64 x.target]):=by rw[XA,if_neg (by omega),if_pos h]
theorem KT (h:x.op=6):XA x=.iface 248 (.agg [.int .i64 x.target]):=by rw[XA,if_neg (by omega),if_neg (by omega),if_pos h]
theorem XD (h8:¬x.op=8)(h7:¬x.op=7)(h6:¬x.op=6):XA x=.iface 249 (.agg []):=by rw[XA,if_neg h8,if_neg h7,if_neg h6]
theorem KU (x:Ins):CB 174 [.agg [.int .i64 x.op,.int .i64 x.target,.bool x.global,.int .i64 x.e.op,.int .i64 x.e.num,.str x.e.name,.vec x.e.args.length (n7 x.e.args),.bool x.pl.param,.int .i64 x.pl.index,.vec x.pl.at'.length (n7 x.pl.at'),.vec x.ints.length (n7 x.ints),.vec x.places.length (dP x.places)]] h (XA x):=by
  refine .bz Tryz.f174 23 ?_;refine c17z ?_;refine .z ?_;refine u2z ?_ ?_
  ·intro e1 qe1;refine .z ?_;exact .ret (.ex (hq:=t63))
  intro e1 qe1;refine .z ?_;refine u2z ?_ ?_
  ·intro e2 qe2;refine c263z ?_;exact .ret (.ex (hq:=t63))
  intro e2 qe2;refine .z ?_;refine u2z ?_ ?_
  ·intro e3 qe3;refine c263z ?_;exact .ret (.ex (hq:=t63))
  intro e3 qe3;refine c4z ?_;refine c34z ?_;exact .ret (.ex (hq:=t63))
theorem c_next8 (hu:WU u)(w:WIt u it)(hpc:pc<(c6 u it).length)(ho:((c6 u it).getD pc g0).op=8):CB 146 [.agg [.vec u.globals.length (g6 u.globals),.vec u.mutexes.length (c9 u.mutexes),.vec u.procs.length (g7 u.procs),.int .i64 u.main],.agg [.int .i64 it.proc,.vec it.j4.length (g6 it.j4)],.int .i64 ((pc:Nat):Int)] h (lU ((c6 u it).getD pc g0) pc):=by refine .bz Tryz.f146 16 ?_;have w1:=w.lo;have w2:=w.hi;have hsz:(c6 u it).length≤1664:=n6 hu w;refine c113z ?_;refine .ca rfl rfl ((KU ((c6 u it).getD pc g0)).mono fun y k hq=>⟨hq.1.trans (XB ho),hq.2⟩) ?_;refine .n ?_;refine c222z ?_;refine o1.cq rfl (kE rfl rfl EC) hb206 (c_ended pc) ?_;refine .n ?_;exact .ret (.ex (hq:=by (exact (KL ho).symm)))
theorem c_next7 (hu:WU u)(w:WIt u it)(hpc:pc<(c6 u it).length)(ho:((c6 u it).getD pc g0).op=7):CB 146 [.agg [.vec u.globals.length (g6 u.globals),.vec u.mutexes.length (c9 u.mutexes),.vec u.procs.length (g7 u.procs),.int .i64 u.main],.agg [.int .i64 it.proc,.vec it.j4.length (g6 it.j4)],.int .i64 ((pc:Nat):Int)] h (lU ((c6 u it).getD pc g0) pc):=by refine .bz Tryz.f146 16 ?_;have w1:=w.lo;have w2:=w.hi;have hsz:(c6 u it).length≤1664:=n6 hu w;refine c113z ?_;refine .ca rfl rfl ((KU ((c6 u it).getD pc g0)).mono fun y k hq=>⟨hq.1.trans (XC ho),hq.2⟩) ?_;refine .n ?_;refine c222z ?_;refine o1.cq rfl (kE rfl rfl KP) hb207 (c_jump pc _) ?_;refine .n ?_;exact .ret (.ex (hq:=by (exact (KM ho).symm)))
theorem TJ (hu:WU u)(w:WIt u it)(hpc:pc<(c6 u it).length)(ho:((c6 u it).getD pc g0).op=6)(ht:((c6 u it).getD pc g0).target=(pc:Int)+1):CB 146 [.agg [.vec u.globals.length (g6 u.globals),.vec u.mutexes.length (c9 u.mutexes),.vec u.procs.length (g7 u.procs),.int .i64 u.main],.agg [.int .i64 it.proc,.vec it.j4.length (g6 it.j4)],.int .i64 ((pc:Nat):Int)] h (lU ((c6 u it).getD pc g0) pc):=by refine .bz Tryz.f146 16 ?_;have w1:=w.lo;have w2:=w.hi;have hsz:(c6 u it).length≤1664:=n6 hu w;refine c113z ?_;refine .ca rfl rfl ((KU ((c6 u it).getD pc g0)).mono fun y k hq=>⟨hq.1.trans (KT ho),hq.2⟩) ?_;refine .n ?_;refine c222z ?_;refine o1.cq rfl (kE rfl rfl vR) hb208 ((BE pc _ (by omega)).mono fun y k hq=>⟨hq.1.trans (if_pos ht),hq.2⟩) ?_;refine .n ?_;exact .ret (.ex (hq:=by (exact (BD ho ht).symm)))
theorem c_next6 (hu:WU u)(w:WIt u it)(hpc:pc<(c6 u it).length)(ho:((c6 u it).getD pc g0).op=6)(ht:¬((c6 u it).getD pc g0).target=(pc:Int)+1):CB 146 [.agg [.vec u.globals.length (g6 u.globals),.vec u.mutexes.length (c9 u.mutexes),.vec u.procs.length (g7 u.procs),.int .i64 u.main],.agg [.int .i64 it.proc,.vec it.j4.length (g6 it.j4)],.int .i64 ((pc:Nat):Int)] h (lU ((c6 u it).getD pc g0) pc):=by refine .bz Tryz.f146 16 ?_;have w1:=w.lo;have w2:=w.hi;have hsz:(c6 u it).length≤1664:=n6 hu w;refine c113z ?_;refine .ca rfl rfl ((KU ((c6 u it).getD pc g0)).mono fun y k hq=>⟨hq.1.trans (KT ho),hq.2⟩) ?_;refine .n ?_;refine c222z ?_;refine o1.cq rfl (kE rfl rfl vR) hb208 ((BE pc _ (by omega)).mono fun y k hq=>⟨hq.1.trans (if_neg ht),hq.2⟩) ?_;refine .n ?_;exact .ret (.ex (hq:=by (exact (KN ho ht).symm)))
theorem c_nextn (hu:WU u)(w:WIt u it)(hpc:pc<(c6 u it).length)(h8:¬((c6 u it).getD pc g0).op=8)(h7:¬((c6 u it).getD pc g0).op=7)(h6:¬((c6 u it).getD pc g0).op=6):CB 146 [.agg [.vec u.globals.length (g6 u.globals),.vec u.mutexes.length (c9 u.mutexes),.vec u.procs.length (g7 u.procs),.int .i64 u.main],.agg [.int .i64 it.proc,.vec it.j4.length (g6 it.j4)],.int .i64 ((pc:Nat):Int)] h (lU ((c6 u it).getD pc g0) pc):=by refine .bz Tryz.f146 16 ?_;have w1:=w.lo;have w2:=w.hi;have hsz:(c6 u it).length≤1664:=n6 hu w;refine c113z ?_;refine .ca rfl rfl ((KU ((c6 u it).getD pc g0)).mono fun y k hq=>⟨hq.1.trans (XD h8 h7 h6),hq.2⟩) ?_;refine .n ?_;refine c222z ?_;refine o1.cq rfl (kE rfl rfl L3) hb209 (KS pc (by omega)) ?_;refine .n ?_;exact .ret (.ex (hq:=by (exact (KO h8 h7 h6).symm)))
theorem c_nextF (hu:WU u)(w:WIt u it)(hpc:pc<(c6 u it).length):CB 146 [.agg [.vec u.globals.length (g6 u.globals),.vec u.mutexes.length (c9 u.mutexes),.vec u.procs.length (g7 u.procs),.int .i64 u.main],.agg [.int .i64 it.proc,.vec it.j4.length (g6 it.j4)],.int .i64 ((pc:Nat):Int)] h (lU ((c6 u it).getD pc g0) pc):=by
  by_cases h8:((c6 u it).getD pc g0).op=8
  · exact c_next8 hu w hpc h8
  by_cases h7:((c6 u it).getD pc g0).op=7
  · exact c_next7 hu w hpc h7
  by_cases h6:((c6 u it).getD pc g0).op=6
  · by_cases ht:((c6 u it).getD pc g0).target=(pc:Int)+1
    · exact TJ hu w hpc h6 ht
    · exact c_next6 hu w hpc h6 ht
  exact c_nextn hu w hpc h8 h7 h6
variable {t:Int}
theorem kW_1 (h:a<t):kW [a] t=1:=by simp[kW,List.takeWhile,h]
theorem kW_0 (h:¬a<t):kW [a] t=0:=by simp[kW,List.takeWhile,h]
theorem KV (h:x.op=6):AV.vec (jQ [(pc:Int)+1] x.target).length (g6 (jQ [(pc:Int)+1] x.target))=lU x pc:=by
  by_cases h2:x.target=(pc:Int)+1
  · rw[BD h h2,jQ,if_pos (by simp[h2])];rw[h2];rfl
  · rw[KN h h2,jQ,if_neg t100]
    by_cases h3:(pc:Int)+1<x.target
    · rw[kW_1 h3,show min x.target ((pc:Int)+1)=(pc:Int)+1 from by omega,show max x.target ((pc:Int)+1)=x.target from by omega];rfl
    · rw[kW_0 h3,show min x.target ((pc:Int)+1)=x.target from by omega,show max x.target ((pc:Int)+1)=(pc:Int)+1 from by omega];rfl
theorem c_with1 {b1 b2:Blk}:CH 69 [.own (h.length+3) g 0 1,.int .i64 t] (h++[b0,b1,b2,⟨g,false,3,1,[.int .i64 a],0⟩]) (.vec (jQ [a] t).length (g6 (jQ [a] t))) (h++[b0,b1,b2,⟨g,false,3,1,[.int .i64 a],1⟩]):=by refine CallA.GN (β:=h.length+3) (off:=0) (len:=1) (b:=⟨g,false,3,1,[.int .i64 a],0⟩) (cs:=g6 [a]) (args':=[.vec 1 (g6 [a]),.int .i64 t]) t25 rfl (by simp) rfl ⟨.inr ⟨rfl,rfl⟩,.inl rfl,trivial⟩ ?_;rw[n4];exact KA (h:=h++[b0,b1,b2,⟨g,false,3,1,[.int .i64 a],1⟩]) [a] t (by simp)
theorem c_nextR (hu:WU u)(w:WIt u it)(hpc:pc<(c6 u it).length):CB 26 [.agg [.vec u.globals.length (g6 u.globals),.vec u.mutexes.length (c9 u.mutexes),.vec u.procs.length (g7 u.procs),.int .i64 u.main],.agg [.int .i64 it.proc,.vec it.j4.length (g6 it.j4)],.int .i64 ((pc:Nat):Int)] h (lU ((c6 u it).getD pc g0) pc):=by
  refine .bz Tryz.f26 38 ?_;have w1:=w.lo;have w2:=w.hi;have hsz:(c6 u it).length≤1664:=n6 hu w;refine .z ?_;refine c259z ?_;refine .c5 [2,7] ?_;refine c14z ?_;refine .z ?_;refine u2z ?_ ?_
  ·intro e1 qe1;refine .z ?_;exact .ret (.ex (hf:=t183) (hq:=t64))
  intro e1 qe1;refine .z ?_;refine u2z ?_ ?_
  ·intro e2 qe2;refine .z ?_;exact .ret (.ex (hf:=t183) (hq:=t64))
  intro e2 qe2;refine .z ?_;refine u2z ?_ ?_
  ·intro e3 qe3;refine .c5 [2,7] ?_;refine c22z ?_;refine .ch rfl rfl (c_with1) ?_;refine .n ?_;exact .ret (.ex (hf:=t183) (hq:=t64))
  intro e3 qe3;refine c4z ?_;refine .c5 [2] ?_;refine .z ?_;exact .ret (.ex (hf:=t183) (hq:=t64))
end Go.Proofs.YtonbocmibeikmaaGreat
end
section
namespace Go.Un
open Go.Ab
def j9 (n:Nat):AV:=.int .i64 (n:Int)
def bZ (l:List Nat):AV:=.vec l.length (l.map j9)
variable {i:Nat}
theorem pZ {l:List Nat}(h:i<l.length):List.take 1 (List.drop i (l.map j9))=[AV.int .i64 ((l.getD i 0:Nat):Int)]:=by rw[←List.map_drop,←List.map_take,List.drop_eq_getElem_cons h,List.take_succ_cons,List.take_zero];simp[List.getD,h,j9]
theorem vT {l:List Nat}{v:Nat}(h:i<l.length):List.take i (l.map j9)++AV.int .i64 (v:Int)::List.drop (i+1) (l.map j9)=(l.set i v).map j9:=by rw[←List.map_drop,←List.map_take,List.set_eq_take_append_cons_drop,if_pos h];simp[j9]
theorem rV (n:Nat):(List.replicate n [AV.int .i64 0]).flatten=(List.replicate n (0:Nat)).map j9:=by
 induction n with
 | zero=>rfl
 | succ n ih=>simp[List.replicate_succ,ih,j9]
theorem XE (n:Int)(h0:0≤n)(h1:n<2^63):IntKind.wrap .i64 n=n:=wrap64 (by omega) (by omega)
variable {a b:Nat}
theorem orN (ha:a<512)(hb:b<512):bits .or .i64 (a:Int) (b:Int)=((a|||b:Nat):Int):=(bits_nat .i64 63 (by decide) XE a b (by omega) (by omega)).2
theorem andN (ha:a<512)(hb:b<512):bits .and .i64 (a:Int) (b:Int)=((a&&&b:Nat):Int):=(bits_nat .i64 63 (by decide) XE a b (by omega) (by omega)).1
def dhV (k:Nat)(n:Int)(d:Nat):Nat:=if 0≤(d:Int)+n∧(d:Int)+n≤k then 2^((d:Int)+n).toNat else 0
def dhN (k:Nat)(n:Int):List Nat:=(List.range (k+1)).map (dhV k n)
def Qp (s:Nat)(d:Int):Bool:=decide (0≤d∧d≤8)&&s.testBit d.toNat
theorem testAll:((List.range 9).all fun m=>(List.range 512).all fun s=>(bits .and .i64 ((s:Int).fdiv (2^(min m 64))) 1==1)==s.testBit m)=true:=by kernel_rfl
variable {s:Nat}
theorem testN {m:Nat}(hm:m≤8)(hs:s<512):(bits .and .i64 ((s:Int).fdiv (2^(min m 64))) 1==1)=s.testBit m:=by have h1:=List.all_eq_true.1 testAll m (List.mem_range.2 (by omega));have h2:=List.all_eq_true.1 h1 s (List.mem_range.2 hs);simpa using h2
theorem hasN (hi:i≤8):Qp s (i:Int)=s.testBit i:=by
 have:0≤(i:Int)∧(i:Int)≤8:=by omega
 simp[Qp,this]
def cD (r:List Nat)(s:Nat):Nat→Nat
 | 0=>0
 | i+1=>if s.testBit i then cD r s i|||r.getD i 0 else cD r s i
def applyN (r:List Nat)(s:Nat):Nat:=cD r s r.length
def o5 (a b:List Nat):List Nat:=(List.range a.length).map fun d=>applyN b (a.getD d 0)
def cN (a b:List Nat):List Nat:=(List.range a.length).map fun d=>a.getD d 0|||b.getD d 0
def vU (a b:List Nat):Prop:=∀d,d<a.length→bits .andNot .i64 ((a.getD d 0:Nat):Int) ((b.getD d 0:Nat):Int)=0
instance (a b:List Nat):Decidable (vU a b):=by unfold vU;exact inferInstance
variable {r:List Nat}
theorem gB (hr:∀x∈r,x<512)(i:Nat):r.getD i 0<512:=by
 rw[List.getD_eq_getElem?_getD];cases h:r[i]? with
 | none=>simp
 | some x=>exact hr x (List.mem_of_getElem? h)
theorem or_lt (ha:a<512)(hb:b<512):a|||b<512:=Nat.or_lt_two_pow (n:=9) ha hb
theorem nG {r:List Nat}(hr:∀x∈r,x<512)(s:Nat):∀i,cD r s i<512
 | 0=>by simp[cD]
 | i+1=>by
  unfold cD;split
  ·exact or_lt (nG hr s i) (gB hr i)
  ·exact nG hr s i
theorem XF (h:s.testBit i=true):cD r s (i+1)=cD r s i|||r.getD i 0:=by rw[cD,if_pos h]
theorem KW (h:s.testBit i=false):cD r s (i+1)=cD r s i:=by rw[cD,if_neg (by simp[h])]
def vV (x m:Int):Nat:=(within x m).toNat
theorem fE {k:Nat}(hk:k≤8):0<2^(k+1)∧2^(k+1)≤512:=by
 have:k=0∨k=1∨k=2∨k=3∨k=4∨k=5∨k=6∨k=7∨k=8:=by omega
 rcases this with rfl | rfl | rfl | rfl | rfl | rfl | rfl | rfl | rfl<;>decide
def relV (l:List Int)(k d:Nat):Nat:=if d<l.length then vV (l.getD d 0) ((2^(k+1):Nat):Int) else 0
def XG (l:List Int)(k:Nat):List Nat:=(List.range (k+1)).map (relV l k)
theorem vW {r:List Nat}{s j:Nat}:∀{i:Nat},(cD r s i).testBit j=true↔∃d,d<i∧s.testBit d=true∧(r.getD d 0).testBit j=true
 | 0=>by simp[cD]
 | i+1=>by
  have ih:=vW (r:=r) (s:=s) (j:=j) (i:=i);by_cases h:s.testBit i=true
  ·rw[XF h,Nat.testBit_or,Bool.or_eq_true,ih];constructor
   ·rintro (⟨d,h1,h2⟩ | h1)
    ·exact ⟨d,by omega,h2⟩
    ·exact ⟨i,by omega,h,h1⟩
   ·rintro ⟨d,h1,h2,h3⟩;by_cases e:d=i
    ·subst e;exact .inr h3
    ·exact .inl ⟨d,by omega,h2,h3⟩
  ·rw[KW t185,ih];constructor
   ·rintro ⟨d,h1,h2⟩;exact ⟨d,by omega,h2⟩
   ·rintro ⟨d,h1,h2,h3⟩;by_cases e:d=i
    ·subst e;exact absurd h2 h
    ·exact ⟨d,by omega,h2,h3⟩
theorem yC {j:Nat}:(applyN r s).testBit j=true↔∃d,d<r.length∧s.testBit d=true∧(r.getD d 0).testBit j=true:=vW
theorem oG (h:∀j,a.testBit j=true↔b.testBit j=true):a=b:=Nat.eq_of_testBit_eq fun j=>Bool.eq_iff_iff.2 (h j)
variable {n d:Nat}
theorem nH {f:Nat→Nat}(hd:d<n):((List.range n).map f).getD d 0=f d:=by simp[List.getD,hd]
theorem vX (a b:List Nat):(o5 a b).length=a.length:=by simp[o5]
theorem vY (a b:List Nat):(cN a b).length=a.length:=by simp[cN]
theorem KX (l:List Int)(k:Nat):(XG l k).length=k+1:=by simp[XG]
theorem T9 {a b:List Nat}(hd:d<a.length):(o5 a b).getD d 0=applyN b (a.getD d 0):=nH hd
theorem KY {a b:List Nat}(hd:d<a.length):(cN a b).getD d 0=a.getD d 0|||b.getD d 0:=nH hd
theorem ED (x:Int){k:Nat}:vV x ((2^(k+1):Nat):Int)<2^(k+1):=by have hp:0<2^(k+1):=Nat.two_pow_pos _;have h1:=@mF x ((2^(k+1):Nat):Int) (by exact_mod_cast hp);have h2:=@pM x ((2^(k+1):Nat):Int) (by exact_mod_cast hp);unfold vV;exact (Int.toNat_lt h1).2 h2
theorem relV_lt (l:List Int)(k d:Nat):relV l k d<2^(k+1):=by
 unfold relV;split
 ·exact ED _
 ·exact Nat.two_pow_pos _
theorem map_ext {f g:Nat→Nat}(h:∀d,d<n→f d=g d):(List.range n).map f=(List.range n).map g:=eQ fun d hd=>h d (List.mem_range.1 hd)
theorem EE {x j:Nat}(h:x<2^n)(hj:x.testBit j=true):j<n:=by
 rcases Nat.lt_or_ge j n with h' | h'
 ·exact h'
 ·rw[Nat.testBit_lt_two_pow (Nat.lt_of_lt_of_le h (Nat.pow_le_pow_right (by decide) h'))]at hj;cases hj
theorem sL (l:List Int)(k:Nat):XG l k=(List.range (XG l k).length).map fun d=>(XG l k).getD d 0:=by rw[KX];exact map_ext fun d hd=>by rw[XG,nH hd]
theorem vZ (ha:a<512)(hb:b<512):bits .andNot .i64 (a:Int) (b:Int)=0↔∀j,a.testBit j=true→b.testBit j=true:=by
 have e1:∀n:Nat,BitVec.ofInt 64 (n:Int)=BitVec.ofNat 64 n:=fun n=>BitVec.ofInt_natCast _ _;have e2:bits .andNot .i64 (a:Int) (b:Int)=IntKind.wrap .i64 (((BitVec.ofNat 64 a&&&~~~ BitVec.ofNat 64 b).toNat:Nat):Int):=by show IntKind.wrap .i64 (((BitVec.ofInt 64 (a:Int)&&&~~~ BitVec.ofInt 64 (b:Int)).toNat:Nat):Int)=_;rw[e1,e1]
 have hn:(BitVec.ofNat 64 a&&&~~~ BitVec.ofNat 64 b).toNat≤a:=by rw[BitVec.toNat_and];refine Nat.le_trans Nat.and_le_left ?_;rw[BitVec.toNat_ofNat];exact Nat.mod_le _ _
 have ht:∀j,(BitVec.ofNat 64 a&&&~~~ BitVec.ofNat 64 b).toNat.testBit j=(a.testBit j&&! b.testBit j):=fun j=>by
  rw[BitVec.testBit_toNat,BitVec.getLsbD_and,BitVec.getLsbD_not,BitVec.getLsbD_ofNat,BitVec.getLsbD_ofNat];by_cases hj:j<64
  ·simp[hj]
  ·rw[Nat.testBit_lt_two_pow (x:=a) (Nat.lt_of_lt_of_le ha (Nat.le_trans (show 512≤2^9 from by decide) (Nat.pow_le_pow_right (by decide) (by omega))))];simp
 rw[e2,wrap64 (by omega) (by omega)];constructor
 ·intro h j hj;have h0:(BitVec.ofNat 64 a&&&~~~ BitVec.ofNat 64 b).toNat=0:=by omega
  have:=ht j;rw[h0,Nat.zero_testBit,hj]at this;simpa using this.symm
 ·intro h;have:(BitVec.ofNat 64 a&&&~~~ BitVec.ofNat 64 b).toNat=0:=by
   refine Nat.eq_of_testBit_eq fun j=>?_;rw[ht,Nat.zero_testBit];cases hj:a.testBit j with
   | false=>rfl
   | true=>rw[h j hj];rfl
  omega
theorem within_iff {x y:List Nat}(hx:∀v∈x,v<512)(hy:∀v∈y,v<512):vU x y↔∀d,d<x.length→∀j,(x.getD d 0).testBit j=true→(y.getD d 0).testBit j=true:=
 ⟨fun h d hd=>(vZ (gB hx d) (gB hy d)).1 (h d hd),fun h d hd=>(vZ (gB hx d) (gB hy d)).2 (h d hd)⟩
def Rl (k:Nat)(r:List Nat):Prop:=r.length=k+1∧∀x∈r,x<2^(k+1)
variable {k:Nat}{r:List Nat}
theorem Rl.lt (hk:k≤8)(h:Rl k r):∀x∈r,x<512:=fun x hx=>Nat.lt_of_lt_of_le (h.2 x hx) (fE hk).2
variable {n:Nat}
theorem qA (hr:∀x∈r,x<2^n)(i:Nat):r.getD i 0<2^n:=by
 rw[List.getD_eq_getElem?_getD];cases h:r[i]? with
 | none=>simp;exact Nat.two_pow_pos n
 | some x=>exact hr x (List.mem_of_getElem? h)
def bt (r:List Nat)(d e:Nat):Bool:=(r.getD d 0).testBit e
variable {d e:Nat}
theorem EF (h:Rl k r)(hb:bt r d e=true):d≤k∧e≤k:=by
 unfold bt at hb;refine ⟨?_,?_⟩
 ·by_cases hd:d<r.length
  ·have:=h.1;omega
  ·rw[List.getD_eq_getElem?_getD,List.getElem?_eq_none (by omega)]at hb;simp at hb
 ·have:=EE (qA h.2 d) hb;omega
def Sub (a b:List Nat):Prop:=∀d e,bt a d e=true→bt b d e=true
theorem Sub.refl (a:List Nat):Sub a a:=fun _ _ h=>h
variable {a b:List Nat}
theorem Sub.trans {c:List Nat}(h1:Sub a b)(h2:Sub b c):Sub a c:=fun d e h=>h2 d e (h1 d e h)
theorem KZ (ha:Rl k a)(hb:Rl k b)(h:∀d e,bt a d e=true↔bt b d e=true):a=b:=by refine List.ext_getElem (by rw[ha.1,hb.1]) fun d k1 k2=>?_;have:=oG (a:=a.getD d 0) (b:=b.getD d 0) fun j=>h d j;simpa [List.getD,k1,k2] using this
theorem Sub.De (ha:Rl k a)(hb:Rl k b)(h1:Sub a b)(h2:Sub b a):a=b:=KZ ha hb fun d e=>⟨h1 d e,h2 d e⟩
theorem LA (hk:k≤8)(ha:Rl k a)(hb:Rl k b):vU a b↔Sub a b:=by rw[within_iff (ha.lt hk) (hb.lt hk)];exact ⟨fun h d e hd=>h d (by have:=(EF ha hd).1;have:=ha.1;omega) e hd,fun h d _ e he=>h d e he⟩
theorem tL (ha:Rl k a)(hb:Rl k b):bt (cN a b) d e=true↔bt a d e=true∨bt b d e=true:=by
 by_cases hd:d<a.length
 ·unfold bt;rw[KY hd,Nat.testBit_or,Bool.or_eq_true]
 ·have h1:=ha.1;have h2:=hb.1;unfold bt;simp only[List.getD_eq_getElem?_getD];rw[List.getElem?_eq_none (l:=cN a b) (by rw[vY];omega),List.getElem?_eq_none (l:=a) (by omega),List.getElem?_eq_none (l:=b) (by omega)];simp
theorem kF (ha:Rl k a)(hb:Rl k b):bt (o5 a b) d e=true↔∃f,bt a d f=true∧bt b f e=true:=by
 by_cases hd:d<a.length
 ·unfold bt;rw[T9 hd,yC];constructor
  ·rintro ⟨f,_,h1,h2⟩;exact ⟨f,h1,h2⟩
  ·rintro ⟨f,h1,h2⟩;exact ⟨f,by have:=(EF hb h2).1;have:=hb.1;omega,h1,h2⟩
 ·have h0:bt (o5 a b) d e=false:=by unfold bt;rw[List.getD_eq_getElem?_getD,List.getElem?_eq_none (by rw[vX];omega)];simp
  rw[h0];constructor
  ·intro h;cases h
  ·rintro ⟨f,h1,_⟩;have:=(EF ha h1).1;have:=ha.1;omega
theorem qB (ha:Rl k a)(hb:Rl k b):Rl k (cN a b):=by refine ⟨by rw[vY];exact ha.1,fun x hx=>?_⟩;obtain ⟨d,_,rfl⟩:=List.mem_map.1 hx;exact Nat.or_lt_two_pow (qA ha.2 d) (qA hb.2 d)
theorem qC {r:List Nat}{n:Nat}(hr:∀x∈r,x<2^n)(s:Nat):∀i,cD r s i<2^n
 | 0=>by simp[cD];exact Nat.two_pow_pos n
 | i+1=>by
  unfold cD;split
  ·exact Nat.or_lt_two_pow (qC hr s i) (qA hr i)
  ·exact qC hr s i
theorem EG (ha:Rl k a)(hb:Rl k b):Rl k (o5 a b):=by refine ⟨by rw[vX];exact ha.1,fun x hx=>?_⟩;obtain ⟨d,_,rfl⟩:=List.mem_map.1 hx;exact qC hb.2 _ _
theorem wB:bt (List.replicate n 0) d e=false:=by unfold bt;rw[List.getD_eq_getElem?_getD,List.getElem?_replicate];split<;>simp
theorem U0 (k:Nat):Rl k (List.replicate (k+1) 0):=⟨by simp,fun x hx=>by rw[List.eq_of_mem_replicate hx];exact Nat.two_pow_pos _⟩
theorem rl_dh (k:Nat)(n:Int):Rl k (dhN k n):=by
 refine ⟨by simp[dhN],fun x hx=>?_⟩;obtain ⟨d,_,rfl⟩:=List.mem_map.1 hx;unfold dhV;split
 ·exact Nat.pow_lt_pow_right (by decide) (by omega)
 ·exact Nat.two_pow_pos _
theorem Df {n:Int}:bt (dhN k n) d e=true↔d≤k∧e≤k∧(d:Int)+n=e:=by
 unfold bt;by_cases hd:d<k+1
 ·rw[dhN,nH hd,dhV];split
  ·rw[Nat.testBit_two_pow];simp only[decide_eq_true_eq];omega
  ·simp only[Nat.zero_testBit,Bool.false_eq_true,false_iff];omega
 ·rw[List.getD_eq_getElem?_getD,List.getElem?_eq_none (by simp[dhN];omega)];simp;omega
noncomputable def nT (p:Nat→Prop):Nat→Nat
 | 0=>0
 | j+1=>@ite _ (p j) (Classical.propDecidable _) (nT p j|||2^j) (nT p j)
theorem rI {p:Nat→Prop}{j:Nat}:∀{n:Nat},(nT p n).testBit j=true↔j<n∧p j
 | 0=>by simp[nT]
 | n+1=>by
  have ih:=rI (p:=p) (j:=j) (n:=n);rw[nT];split
  ·rename_i h;rw[Nat.testBit_or,Bool.or_eq_true,ih,Nat.testBit_two_pow];simp only[decide_eq_true_eq];constructor
   ·rintro (⟨h1,h2⟩ | rfl)
    ·exact ⟨by omega,h2⟩
    ·exact ⟨by omega,h⟩
   ·rintro ⟨h1,h2⟩;by_cases e:n=j
    ·exact .inr e
    ·exact .inl ⟨by omega,h2⟩
  ·rename_i h;rw[ih];constructor
   ·rintro ⟨h1,h2⟩;exact ⟨by omega,h2⟩
   ·rintro ⟨h1,h2⟩;refine ⟨?_,h2⟩;by_cases e:j=n
    ·subst e;exact absurd h2 h
    ·omega
theorem wC {p:Nat→Prop}:∀n:Nat,nT p n<2^n
 | 0=>by simp[nT]
 | n+1=>by
  have ih:=wC (p:=p) n;have h2:2^n<2^(n+1):=Nat.pow_lt_pow_right (by decide) (by omega);rw[nT];split
  ·exact Nat.or_lt_two_pow (by omega) h2
  ·omega
noncomputable def wD (k:Nat)(p:Nat→Nat→Prop):List Nat:=(List.range (k+1)).map fun d=>nT (p d) (k+1)
theorem qD (k:Nat)(p:Nat→Nat→Prop):Rl k (wD k p):=by refine ⟨by simp[wD],fun x hx=>?_⟩;obtain ⟨d,_,rfl⟩:=List.mem_map.1 hx;exact wC _
theorem tM {p:Nat→Nat→Prop}:bt (wD k p) d e=true↔d≤k∧e≤k∧p d e:=by
 unfold bt;by_cases hd:d<k+1
 ·rw[wD,nH hd,rI];constructor
  ·rintro ⟨h1,h2⟩;exact ⟨by omega,by omega,h2⟩
  ·rintro ⟨_,h1,h2⟩;exact ⟨by omega,h2⟩
 ·rw[List.getD_eq_getElem?_getD,List.getElem?_eq_none (by simp[wD];omega)];simp;omega
def Tb (k n:Nat)(T:List (List Nat)):Prop:=T.length=n∧∀r∈T,Rl k r
variable {T:List (List Nat)}{i:Nat}
theorem Tb.get (h:Tb k n T)(hi:i<n):Rl k (T.getD i []):=by rw[List.getD_eq_getElem?_getD,List.getElem?_eq_getElem (by rw[h.1];exact hi)];exact h.2 _ (List.getElem_mem _)
theorem Tb.set (h:Tb k n T)(hr:Rl k r):Tb k n (T.set i r):=by
 refine ⟨by rw[List.length_set];exact h.1,fun x hx=>?_⟩;rcases List.mem_or_eq_of_mem_set hx with hx | rfl
 ·exact h.2 x hx
 ·exact hr
theorem eJ {j:Nat}(hi:i<T.length):(T.set i r).getD j []=if j=i then r else T.getD j []:=by
 simp only[List.getD_eq_getElem?_getD];by_cases h:j=i
 ·subst h;simp[hi]
 ·rw[List.getElem?_set_ne (Ne.symm h),if_neg h]
def nP (A B:List (List Nat)):Prop:=∀i,Sub (A.getD i []) (B.getD i [])
theorem nP.refl (A:List (List Nat)):nP A A:=fun _=>Sub.refl _
variable {A B:List (List Nat)}
theorem nP.trans {C:List (List Nat)}(h1:nP A B)(h2:nP B C):nP A C:=fun i=>(h1 i).trans (h2 i)
theorem nP.De (ha:Tb k n A)(hb:Tb k n B)(h1:nP A B)(h2:nP B A):A=B:=by refine List.ext_getElem (by rw[ha.1,hb.1]) fun d k1 k2=>?_;have e1:=h1 d;have e2:=h2 d;have:=Sub.De (ha.get (i:=d) (by rw[←ha.1];exact k1)) (hb.get (i:=d) (by rw[←hb.1];exact k2)) e1 e2;simpa [List.getD,k1,k2] using this
theorem sub_nil (b:List Nat):Sub [] b:=fun d e h=>by simp[bt]at h
theorem wF (ha:Tb k n A)(h:∀i,i<n→Sub (A.getD i []) (B.getD i [])):nP A B:=fun i=>by
 by_cases hi:i<n
 ·exact h i hi
 ·rw[List.getD_eq_getElem?_getD,List.getElem?_eq_none (by rw[ha.1];omega)];exact sub_nil _
def tot (T:List (List Nat)):Nat:=(T.map List.sum).sum
theorem nI {c:Nat}:∀{l:List Nat},(∀x∈l,x≤c)→l.sum≤c*l.length
 | [],_=>by simp
 | x::l,h=>by have h1:=h x (by simp);have h2:=nI (l:=l) fun y hy=>h y (by simp[hy]);simp only[List.sum_cons,List.length_cons,Nat.mul_succ];omega
theorem rl_sum (hk:k≤8)(h:Rl k r):r.sum≤512*9:=by refine Nat.le_trans (nI (c:=512) fun x hx=>Nat.le_of_lt (h.lt hk x hx)) ?_;rw[h.1];exact Nat.mul_le_mul_left _ (by omega)
theorem L4 (hk:k≤8)(h:Tb k n T):tot T≤4608*n:=by
 unfold tot;refine Nat.le_trans (nI (c:=4608) fun x hx=>?_) ?_
 ·obtain ⟨r,hr,rfl⟩:=List.mem_map.1 hx;exact rl_sum hk (h.2 r hr)
 ·rw[List.length_map,h.1];exact Nat.le_refl _
theorem oH:∀{l:List Nat} {i x:Nat},i<l.length→(l.set i x).sum+l.getD i 0=l.sum+x
 | y::l,0,x,_=>by simp[List.getD];omega
 | y::l,i+1,x,h=>by have:=oH (l:=l) (i:=i) (x:=x) t185;simp only[List.set_cons_succ,List.sum_cons,List.getD_cons_succ];omega
theorem wG:(T.map List.sum).getD i 0=(T.getD i []).sum:=by simp only[List.getD_eq_getElem?_getD,List.getElem?_map];cases T[i]?<;>simp
theorem tot_set (hi:i<T.length):tot (T.set i r)+(T.getD i []).sum=tot T+r.sum:=by unfold tot;rw[List.map_set,←wG];exact oH (by simpa using hi)
theorem C2:∀{a b:List Nat},a.length=b.length→(∀d,a.getD d 0≤b.getD d 0)→a.sum≤b.sum∧(a≠b→a.sum<b.sum)
 | [],[],_,_=>by simp
 | x::a,y::b,hl,h=>by
  have h0:x≤y:=h 0;obtain ⟨i1,i2⟩:=C2 (a:=a) (b:=b) t164 fun d=>h (d+1);simp only[List.sum_cons];refine ⟨by omega,fun hne=>?_⟩;by_cases e:x=y
  ·have:=i2 fun e2=>hne (by rw[e,e2]);omega
  ·omega
 | [],_::_,hl,_=>by simp at hl
 | _::_,[],hl,_=>by simp at hl
theorem yD {a b:Nat}(h:∀j,a.testBit j=true→b.testBit j=true):a≤b:=by
 have:a|||b=b:=oG fun j=>by rw[Nat.testBit_or,Bool.or_eq_true];exact ⟨fun h1=>h1.elim (h j) id,.inr⟩
 rw[←this];exact Nat.left_le_or
theorem U1 (ha:Rl k a)(hb:Rl k b)(h:Sub a b):a.sum≤b.sum∧(a≠b→a.sum<b.sum):=
 C2 (by rw[ha.1,hb.1]) fun d=>yD fun j=>h d j
theorem C3 (hT:Tb k n T)(hi:i<n)(hr:Rl k r)(hs:Sub (T.getD i []) r)(hne:T.getD i []≠r):tot T<tot (T.set i r):=by have h1:=tot_set (T:=T) (i:=i) (r:=r) (by rw[hT.1];exact hi);have h2:=(U1 (hT.get hi) hr hs).2 hne;omega
inductive Way (k:Nat)(nx:Nat→List Int)(st:Nat→List Nat):Nat→Nat→Nat→Prop
 | start {d:Nat}:d≤k→Way k nx st 0 d d
 | step {pc d e f:Nat} {q:Int}:Way k nx st pc d e→bt (st pc) e f=true→q∈nx pc→Way k nx st q.toNat d f
def TK (nx:Nat→List Int)(st:Nat→List Nat)(T:List (List Nat))(pc:Nat):Prop:=∀q∈nx pc,Sub (o5 (T.getD pc []) (st pc)) (T.getD q.toNat [])
structure ClT (k n:Nat)(nx:Nat→List Int)(st:Nat→List Nat)(T:List (List Nat)):Prop where
 tb:Tb k n T
 id:Sub (dhN k 0) (T.getD 0 [])
 at':∀pc,pc<n→TK nx st T pc
noncomputable def dS (k n:Nat)(nx:Nat→List Int)(st:Nat→List Nat):List (List Nat):=(List.range n).map fun pc=>wD k (Way k nx st pc)
structure Pro (k n:Nat)(nx:Nat→List Int)(st:Nat→List Nat):Prop where
 pos:0<n
 nx:∀pc,pc<n→∀q∈nx pc,0≤q∧q<n
 st:∀pc,pc<n→Rl k (st pc)
variable {nx:Nat→List Int}{st:Nat→List Nat}{pc:Nat}
theorem Way.lt (p:Pro k n nx st)(w:Way k nx st pc d e):pc<n∧d≤k∧e≤k:=by
 induction w with
 | start h=>exact ⟨p.pos,h,h⟩
 | step w hb hq ih=>
  have h1:=p.nx _ ih.1 _ hq;exact ⟨by omega,ih.2.1,(EF (p.st _ ih.1) hb).2⟩
theorem LB (hp:pc<n):(dS k n nx st).getD pc []=wD k (Way k nx st pc):=by simp[dS,List.getD,hp]
theorem qE (k n:Nat)(nx:Nat→List Int)(st:Nat→List Nat):Tb k n (dS k n nx st):=by refine ⟨by simp[dS],fun r hr=>?_⟩;obtain ⟨pc,_,rfl⟩:=List.mem_map.1 hr;exact qD _ _
theorem lF (p:Pro k n nx st)(hp:pc<n):bt ((dS k n nx st).getD pc []) d e=true↔Way k nx st pc d e:=by rw[LB hp,tM];exact ⟨fun h=>h.2.2,fun h=>⟨(h.lt p).2.1,(h.lt p).2.2,h⟩⟩
theorem BF (p:Pro k n nx st):ClT k n nx st (dS k n nx st):=by
 have tb:=qE k n nx st;refine ⟨tb,fun d e h=>?_,fun pc hp q hq d e h=>?_⟩
 ·obtain ⟨h1,h2,h3⟩:=Df.1 h;have:d=e:=by omega
  subst this;exact (lF p p.pos).2 (.start h1)
 ·obtain ⟨f,h1,h2⟩:=(kF (tb.get hp) (p.st pc hp)).1 h;have h3:=p.nx pc hp q hq;exact (lF p (by omega)).2 (.step ((lF p hp).1 h1) h2 hq)
theorem ClT.way (p:Pro k n nx st)(c:ClT k n nx st T)(w:Way k nx st pc d e):bt (T.getD pc []) d e=true:=by
 induction w with
 | start h=>exact c.id _ _ (Df.2 ⟨h,h,by omega⟩)
 | step w hb hq ih=>
  have h1:=(w.lt p).1;exact c.at' _ h1 _ hq _ _ ((kF (c.tb.get h1) (p.st _ h1)).2 ⟨_,ih,hb⟩)
theorem ClT.least (p:Pro k n nx st)(c:ClT k n nx st T):nP (dS k n nx st) T:=
 wF (qE k n nx st) fun i hi d e h=>c.way p ((lF p hi).1 h)
theorem ClT.eq (p:Pro k n nx st)(c:ClT k n nx st T)(h:nP T (dS k n nx st)):T=dS k n nx st:=
 nP.De c.tb (qE k n nx st) h (c.least p)
theorem Way.mono {st':Nat→List Nat}(h:∀pc,Sub (st pc) (st' pc))(w:Way k nx st pc d e):Way k nx st' pc d e:=by
 induction w with
 | start h=>exact .start h
 | step w hb hq ih=>exact .step ih (h _ _ _ hb) hq
theorem TL {k n:Nat}{A B:List (List Nat)}(ha:Tb k n A)(hb:Tb k n B)(h:nP A B):tot A≤tot B∧(A≠B→tot A<tot B):=by
 have e:∀T:List (List Nat),∀d,(T.map List.sum).getD d 0=(T.getD d []).sum:=fun T d=>wG;have h1:∀d,(A.map List.sum).getD d 0≤(B.map List.sum).getD d 0:=fun d=>by
  rw[e,e];by_cases hd:d<n
  ·exact (U1 (ha.get hd) (hb.get hd) (h d)).1
  ·rw[List.getD_eq_getElem?_getD,List.getElem?_eq_none (by rw[ha.1];omega)];simp
 obtain ⟨h2,h3⟩:=C2 (a:=A.map List.sum) (b:=B.map List.sum) (by simp[ha.1,hb.1]) h1;refine ⟨h2,fun hne=>h3 fun he=>hne ?_⟩;refine nP.De ha hb h (wF hb fun i hi=>?_);have h4:=congrArg (fun l=>l.getD i 0) he;simp only[e]at h4;by_cases h5:A.getD i []=B.getD i []
 ·rw[h5];exact Sub.refl _
 ·have:=(U1 (ha.get hi) (hb.get hi) (h i)).2 h5;omega
section
variable (u:Un)(c:Clo)(m:Nat)
def kM:Nat:=nS (u.mutexes.getD m w5)
def itI (i:Nat):y0:=c.insts.getD i l6
def dW (i pc:Nat):Ins:=(c6 u (itI c i)).getD pc g0
def r8 (i:Nat):Nat:=(c6 u (itI c i)).length
def eN (i pc:Nat):Nat:=((c.calls.getD i []).getD pc 0).toNat
def nxI (i pc:Nat):List Int:=n9 (dW u c i pc) pc
def stS (S:List (List Nat))(i pc:Nat):List Nat:=if (dW u c i pc).op=2 then S.getD (eN c i pc) [] else dhN (kM u m) (chI (itI c i) (dW u c i pc) m)
noncomputable def kG (S:List (List Nat))(i:Nat):List (List Nat):=dS (kM u m) (r8 u c i) (nxI u c i) (stS u c m S i)
noncomputable def U2 (i:Nat)(T:List (List Nat))(j:Nat):List Nat:=wD (kM u m) fun d e=>∃pc,pc<j∧(dW u c i pc).op=8∧bt (T.getD pc []) d e=true
noncomputable def exT (S:List (List Nat))(i:Nat):List Nat:=U2 u c m i (kG u c m S i) (r8 u c i)
noncomputable def yE (S:List (List Nat)):List (List Nat):=(List.range c.insts.length).map fun i=>exT u c m S i
def sF:List (List Nat):=List.replicate c.insts.length (List.replicate (kM u m+1) 0)
inductive Inn:Nat→Nat→Nat→Nat→Prop
 | start {i d:Nat}:d≤kM u m→Inn i 0 d d
 | step {i pc d e f:Nat} {q:Int}:Inn i pc d e→(dW u c i pc).op≠2→bt (dhN (kM u m) (chI (itI c i) (dW u c i pc) m)) e f=true→q∈nxI u c i pc→Inn i q.toNat d f
 | call {i pc d e f p:Nat} {q:Int}:Inn i pc d e→(dW u c i pc).op=2→Inn (eN c i pc) p e f→(dW u c (eN c i pc) p).op=8→q∈nxI u c i pc→Inn i q.toNat d f
noncomputable def bR:List (List Nat):=(List.range c.insts.length).map fun i=>wD (kM u m) fun d e=>∃pc,pc<r8 u c i∧(dW u c i pc).op=8∧Inn u c m i pc d e
end
section
variable {u:Un}{c:Clo}{m:Nat}
theorem eV:kM u m≤8:=C1
variable {i:Nat}
theorem bK (wc:WC u c)(hi:i<c.insts.length):WIt u (itI c i):=wc.wi _ (j7 hi)
variable {pc:Nat}
theorem iE (hu:WU u)(wc:WC u c)(hi:i<c.insts.length)(hp:pc<r8 u c i)(ho:(dW u c i pc).op=2):eN c i pc<c.insts.length:=by have h1:=((wc.call i hi pc hp).1 (.inl ho));unfold eN;omega
variable {S:List (List Nat)}
theorem LC (hu:WU u)(wc:WC u c)(hS:Tb (kM u m) c.insts.length S)(hi:i<c.insts.length):Pro (kM u m) (r8 u c i) (nxI u c i) (stS u c m S i):=by
 have w:=bK wc hi;refine ⟨(dC hu w).1,fun pc hp q hq=>?_,fun pc hp=>?_⟩
 ·obtain ⟨d,hd,rfl⟩:=List.getElem_of_mem hq;have h:=next_in hu w hp d hd;have e:(n9 ((c6 u (itI c i)).getD pc g0) pc).getD d 0=(nxI u c i pc)[d]:=by show (nxI u c i pc).getD d 0=_;simp[List.getD,hd]
  rw[←e];exact h
 ·unfold stS;split
  ·rename_i ho;exact hS.get (iE hu wc hi hp ho)
  ·exact rl_dh _ _
theorem iP (S:List (List Nat))(i:Nat):Tb (kM u m) (r8 u c i) (kG u c m S i):=qE _ _ _ _
variable {T:List (List Nat)}{j d e:Nat}
theorem U3 (hT:Tb (kM u m) (r8 u c i) T)(hj:j≤r8 u c i):bt (U2 u c m i T j) d e=true↔∃pc,pc<j∧(dW u c i pc).op=8∧bt (T.getD pc []) d e=true:=by rw[U2,tM];refine ⟨fun h=>h.2.2,fun h=>?_⟩;obtain ⟨pc,h1,h2,h3⟩:=h;have:=EF (hT.get (i:=pc) (by omega)) h3;exact ⟨this.1,this.2,pc,h1,h2,h3⟩
theorem oI (i:Nat)(T:List (List Nat))(j:Nat):Rl (kM u m) (U2 u c m i T j):=qD _ _
theorem LD (i:Nat)(T:List (List Nat)):U2 u c m i T 0=List.replicate (kM u m+1) 0:=
 KZ (qD _ _) (U0 _) fun d e=>by
  rw[wB,U2,tM];constructor
  ·rintro ⟨_,_,pc,h,_⟩;omega
  ·intro h;cases h
theorem TM (hT:Tb (kM u m) (r8 u c i) T)(hj:j<r8 u c i)(ho:(dW u c i j).op=8):U2 u c m i T (j+1)=cN (U2 u c m i T j) (T.getD j []):=
 KZ (oI i T (j+1)) (qB (oI i T j) (hT.get hj)) fun d e=>by
  rw[tL (oI i T j) (hT.get hj),U3 hT hj,U3 hT (Nat.le_of_lt hj)];constructor
  ·rintro ⟨pc,h1,h2,h3⟩;by_cases e:pc=j
   ·subst e;exact .inr h3
   ·exact .inl ⟨pc,by omega,h2,h3⟩
  ·rintro (⟨pc,h1,h2,h3⟩ | h)
   ·exact ⟨pc,by omega,h2,h3⟩
   ·exact ⟨j,by omega,ho,h⟩
theorem exOf_no (ho:¬(dW u c i j).op=8):U2 u c m i T (j+1)=U2 u c m i T j:=by
 unfold U2;refine congrArg (wD _) (funext fun d=>funext fun e=>propext ?_);constructor
 ·rintro ⟨pc,h1,h2,h3⟩;refine ⟨pc,?_,h2,h3⟩;by_cases e:pc=j
  ·subst e;exact absurd h2 ho
  ·omega
 ·rintro ⟨pc,h1,h2,h3⟩;exact ⟨pc,by omega,h2,h3⟩
theorem L5 (S:List (List Nat))(i:Nat):Rl (kM u m) (exT u c m S i):=qD _ _
theorem wH (hu:WU u)(wc:WC u c)(hS:Tb (kM u m) c.insts.length S)(hi:i<c.insts.length):bt (exT u c m S i) d e=true↔∃pc,pc<r8 u c i∧(dW u c i pc).op=8∧Way (kM u m) (nxI u c i) (stS u c m S i) pc d e:=by
 rw[exT,U3 (iP S i) (Nat.le_refl _)];constructor
 ·rintro ⟨pc,h1,h2,h3⟩;exact ⟨pc,h1,h2,(lF (LC hu wc hS hi) h1).1 h3⟩
 ·rintro ⟨pc,h1,h2,h3⟩;exact ⟨pc,h1,h2,(lF (LC hu wc hS hi) h1).2 h3⟩
theorem TN {S':List (List Nat)}(h:nP S S')(i pc:Nat):Sub (stS u c m S i pc) (stS u c m S' i pc):=by
 unfold stS;split
 ·exact h _
 ·exact Sub.refl _
theorem C4 (hu:WU u)(wc:WC u c){S':List (List Nat)}(hS:Tb (kM u m) c.insts.length S)(hS':Tb (kM u m) c.insts.length S')(h:nP S S')(hi:i<c.insts.length):Sub (exT u c m S i) (exT u c m S' i):=fun d e hb=>by obtain ⟨pc,h1,h2,h3⟩:=(wH hu wc hS hi).1 hb;exact (wH hu wc hS' hi).2 ⟨pc,h1,h2,h3.mono fun pc=>TN h i pc⟩
theorem jR (S:List (List Nat)):Tb (kM u m) c.insts.length (yE u c m S):=by refine ⟨by simp[yE],fun r hr=>?_⟩;obtain ⟨i,_,rfl⟩:=List.mem_map.1 hr;exact L5 S i
theorem tN (hi:i<c.insts.length):(yE u c m S).getD i []=exT u c m S i:=by simp[yE,List.getD,hi]
theorem TO:Tb (kM u m) c.insts.length (sF u c m):=⟨by simp[sF],fun r hr=>by rw[List.eq_of_mem_replicate hr];exact U0 _⟩
theorem zero_sub {b:List Nat}:Sub ((sF u c m).getD i []) b:=fun d e h=>by
 have:bt ((sF u c m).getD i []) d e=false:=by
  unfold sF;rw[List.getD_eq_getElem?_getD,List.getElem?_replicate];split
  ·exact wB
  ·simp[bt]
 rw[this]at h;cases h
theorem LF:nP (sF u c m) S:=fun i=>zero_sub
theorem s4:Tb (kM u m) c.insts.length (bR u c m):=by refine ⟨by simp[bR],fun r hr=>?_⟩;obtain ⟨i,_,rfl⟩:=List.mem_map.1 hr;exact qD _ _
theorem TP (hi:i<c.insts.length):(bR u c m).getD i []=wD (kM u m) fun d e=>∃pc,pc<r8 u c i∧(dW u c i pc).op=8∧Inn u c m i pc d e:=by simp[bR,List.getD,hi]
theorem Inn.lt (hu:WU u)(wc:WC u c)(h:Inn u c m i pc d e):i<c.insts.length→pc<r8 u c i∧d≤kM u m∧e≤kM u m:=by
 induction h with
 | start h=>exact fun hi=>⟨(dC hu (bK wc hi)).1,h,h⟩
 | step h ho hb hq ih=>
  intro hi;have h1:=ih hi;have p:=LC hu wc (S:=bR u c m) s4 hi;have h2:=p.nx _ h1.1 _ hq;exact ⟨by omega,h1.2.1,(Df.1 hb).2.1⟩
 | call h ho h2 ho2 hq ih ih2=>
  intro hi;have h1:=ih hi;have p:=LC hu wc (S:=bR u c m) s4 hi;have h3:=p.nx _ h1.1 _ hq;exact ⟨by omega,h1.2.1,(ih2 (iE hu wc hi h1.1 ho)).2.2⟩
theorem mM (hu:WU u)(wc:WC u c)(hi:i<c.insts.length):bt ((bR u c m).getD i []) d e=true↔∃pc,pc<r8 u c i∧(dW u c i pc).op=8∧Inn u c m i pc d e:=by rw[TP hi,tM];refine ⟨fun h=>h.2.2,fun ⟨pc,h1,h2,h3⟩=>?_⟩;have:=h3.lt hu wc hi;exact ⟨this.2.1,this.2.2,pc,h1,h2,h3⟩
theorem U4 (hu:WU u)(wc:WC u c)(hi:i<c.insts.length)(w:Way (kM u m) (nxI u c i) (stS u c m (bR u c m) i) pc d e):Inn u c m i pc d e:=by
 induction w with
 | start h=>exact .start h
 | step w hb hq ih=>
  have h1:=(ih.lt hu wc hi).1;unfold stS at hb;split at hb
  ·rename_i ho;obtain ⟨p,h2,h3,h4⟩:=(mM hu wc (iE hu wc hi h1 ho)).1 hb;exact .call ih ho h4 h3 hq
  ·rename_i ho;exact .step ih ho hb hq
theorem U5 (hu:WU u)(wc:WC u c)(hS:Tb (kM u m) c.insts.length S)(hc:∀i,i<c.insts.length→Sub (exT u c m S i) (S.getD i []))(h:Inn u c m i pc d e):i<c.insts.length→Way (kM u m) (nxI u c i) (stS u c m S i) pc d e:=by
 induction h with
 | start h=>exact fun _=>.start h
 | step h ho hb hq ih=>
  intro hi;exact .step (ih hi) (by unfold stS;rw[if_neg ho];exact hb) hq
 | call h ho h2 ho2 hq ih ih2=>
  intro hi;have h1:=(h.lt hu wc hi).1;have hj:=iE hu wc hi h1 ho;exact .step (ih hi) (by unfold stS;rw[if_pos ho];exact hc _ hj _ _ ((wH hu wc hS hj).2 ⟨_,(h2.lt hu wc hj).1,ho2,ih2 hj⟩)) hq
theorem LG (hu:WU u)(wc:WC u c)(hi:i<c.insts.length):exT u c m (bR u c m) i=(bR u c m).getD i []:=by
 have h1:Sub (exT u c m (bR u c m) i) ((bR u c m).getD i []):=fun d e hb=>by obtain ⟨pc,h1,h2,h3⟩:=(wH hu wc s4 hi).1 hb;exact (mM hu wc hi).2 ⟨pc,h1,h2,U4 hu wc hi h3⟩
 refine Sub.De (L5 _ _) (s4.get hi) h1 fun d e hb=>?_;obtain ⟨pc,h2,h3,h4⟩:=(mM hu wc hi).1 hb;refine (wH hu wc s4 hi).2 ⟨pc,h2,h3,U5 hu wc s4 (fun j hj d e hb=>?_) h4 hi⟩;obtain ⟨pc,h1,h2,h3⟩:=(wH hu wc s4 hj).1 hb;exact (mM hu wc hj).2 ⟨pc,h1,h2,U4 hu wc hj h3⟩
theorem LH (hu:WU u)(wc:WC u c)(hS:Tb (kM u m) c.insts.length S)(hc:∀i,i<c.insts.length→Sub (exT u c m S i) (S.getD i [])):nP (bR u c m) S:=
 wF s4 fun i hi d e hb=>by obtain ⟨pc,h2,h3,h4⟩:=(mM hu wc hi).1 hb;exact hc i hi _ _ ((wH hu wc hS hi).2 ⟨pc,h2,h3,U5 hu wc hS hc h4 hi⟩)
theorem XH (hu:WU u)(wc:WC u c)(hS:Tb (kM u m) c.insts.length S)(hs:nP S (bR u c m))(hc:∀i,i<c.insts.length→exT u c m S i=S.getD i []):S=bR u c m:=
 nP.De hS s4 hs (LH hu wc hS fun i hi=>by rw[hc i hi];exact Sub.refl _)
theorem wI (hu:WU u)(wc:WC u c)(hS:Tb (kM u m) c.insts.length S)(hs:nP S (bR u c m))(hi:i<c.insts.length):Sub (exT u c m S i) ((bR u c m).getD i []):=by rw[←LG hu wc hi];exact C4 hu wc hS s4 hs hi
theorem L6 (hu:WU u)(wc:WC u c)(hS:Tb (kM u m) c.insts.length S)(hs:nP S (bR u c m)):nP (yE u c m S) (bR u c m):=
 wF (jR S) fun i hi=>by rw[tN hi];exact wI hu wc hS hs hi
structure Low (u:Un)(c:Clo)(m:Nat)(S:List (List Nat)):Prop where
 tb:Tb (kM u m) c.insts.length S
 up:∀i,i<c.insts.length→Sub (S.getD i []) (exT u c m S i)
 le:nP S (bR u c m)
theorem Low.zero:Low u c m (sF u c m):=⟨TO,fun i _=>zero_sub,LF⟩
theorem Low.set (hu:WU u)(wc:WC u c)(h:Low u c m S)(hi:i<c.insts.length):Low u c m (S.set i (exT u c m S i))∧nP S (S.set i (exT u c m S i)):=by
 have tb':Tb (kM u m) c.insts.length (S.set i (exT u c m S i)):=h.tb.set (L5 _ _);have hl:i<S.length:=by rw[h.tb.1];exact hi
 have hs:nP S (S.set i (exT u c m S i)):=fun j=>by
  rw[eJ hl];split
  ·rename_i e;subst e;exact h.up j hi
  ·exact Sub.refl _
 refine ⟨⟨tb',fun j hj=>?_,fun j=>?_⟩,hs⟩
 ·have:=C4 hu wc h.tb tb' hs hj;rw[eJ hl];split
  ·rename_i e;subst e;exact this
  ·exact (h.up j hj).trans this
 ·rw[eJ hl];split
  ·rename_i e;subst e;exact wI hu wc h.tb h.le hi
  ·exact h.le j
theorem Low.round (hu:WU u)(wc:WC u c)(h:Low u c m S):Low u c m (yE u c m S)∧nP S (yE u c m S):=by
 have hs:nP S (yE u c m S):=wF h.tb fun i hi=>by rw[tN hi];exact h.up i hi
 exact ⟨⟨jR S,fun i hi=>by rw[tN hi];exact C4 hu wc h.tb (jR S) hs hi,L6 hu wc h.tb h.le⟩,hs⟩
theorem Low.done (hu:WU u)(wc:WC u c)(h:Low u c m S)(he:yE u c m S=S):S=bR u c m:=
 XH hu wc h.tb h.le fun i hi=>by rw[←tN hi,he]
end
theorem wJ {k:Nat}{r:List Nat}(hr:Rl k r){s j:Nat}:(applyN r s).testBit j=true↔∃d,s.testBit d=true∧bt r d j=true:=by
 rw[yC];constructor
 ·rintro ⟨d,_,h1,h2⟩;exact ⟨d,h1,h2⟩
 ·rintro ⟨d,h1,h2⟩;exact ⟨d,by have:=(EF hr h2).1;have:=hr.1;omega,h1,h2⟩
theorem jE {k:Nat}{r:List Nat}(hr:Rl k r)(s:Nat):applyN r s<2^(k+1):=qC hr.2 s _
section
variable (u:Un)(c:Clo)(m:Nat)
inductive LJ:Nat→Nat→Prop
 | root {i:Nat}:(i:Int)∈c.roots→LJ i 0
 | call {i pc d e:Nat}:LJ i d→Inn u c m i pc d e→(dW u c i pc).op=2→LJ (eN c i pc) e
noncomputable def gU:List Nat:=(List.range c.insts.length).map fun i=>nT (LJ u c m i) (kM u m+1)
noncomputable def inS (i:Nat):List (List Nat):=kG u c m (bR u c m) i
noncomputable def gC (i:Nat):List Nat:=(inS u c m i).map fun r=>applyN r ((gU u c m).getD i 0)
noncomputable def dL:List (List Nat):=(List.range c.insts.length).map (gC u c m)
noncomputable def wX:List Nat:=(List.range c.insts.length).map fun i=>applyN ((bR u c m).getD i []) ((gU u c m).getD i 0)
def Es (E:List Nat):Prop:=E.length=c.insts.length∧∀x∈E,x<2^(kM u m+1)
def ClE (E:List Nat)(i pc:Nat):Prop:=(dW u c i pc).op=2→∀j,(applyN ((inS u c m i).getD pc []) (E.getD i 0)).testBit j=true→bt E (eN c i pc) j=true
end
section
variable {u:Un}{c:Clo}{m:Nat}
variable {E:List Nat}
theorem Es.lt (h:Es u c m E):∀x∈E,x<512:=fun x hx=>Nat.lt_of_lt_of_le (h.2 x hx) (fE eV).2
theorem Es.get (h:Es u c m E)(i:Nat):E.getD i 0<2^(kM u m+1):=qA h.2 i
variable {i x:Nat}
theorem Es.set (h:Es u c m E)(hx:x<2^(kM u m+1)):Es u c m (E.set i x):=by
 refine ⟨by rw[List.length_set];exact h.1,fun y hy=>?_⟩;rcases List.mem_or_eq_of_mem_set hy with hy | rfl
 ·exact h.2 y hy
 ·exact hx
theorem Es.zero:Es u c m (List.replicate c.insts.length 0):=⟨by simp,fun x hx=>by rw[List.eq_of_mem_replicate hx];exact Nat.two_pow_pos _⟩
theorem oJ:Es u c m (gU u c m):=by refine ⟨by simp[gU],fun r hr=>?_⟩;obtain ⟨i,_,rfl⟩:=List.mem_map.1 hr;exact wC _
variable {d:Nat}
theorem LJ.lt (hu:WU u)(wc:WC u c)(h:LJ u c m i d):i<c.insts.length∧d≤kM u m:=by
 induction h with
 | root h=>have:=wc.rr _ h;exact ⟨by omega,Nat.zero_le _⟩
 | call h h2 ho ih=>have h3:=h2.lt hu wc ih.1;exact ⟨iE hu wc ih.1 h3.1 ho,h3.2.2⟩
theorem jS (hu:WU u)(wc:WC u c):bt (gU u c m) i d=true↔LJ u c m i d:=by
 unfold bt;by_cases hi:i<c.insts.length
 ·rw[gU,nH hi,rI];exact ⟨fun h=>h.2,fun h=>⟨by have:=(h.lt hu wc).2;omega,h⟩⟩
 ·rw[List.getD_eq_getElem?_getD,List.getElem?_eq_none (by simp[gU];omega)];constructor
  ·intro h;simp at h
  ·intro h;exact absurd (h.lt hu wc).1 hi
theorem wK (i:Nat):Tb (kM u m) (r8 u c i) (inS u c m i):=iP _ _
variable {pc e:Nat}
theorem XI (hu:WU u)(wc:WC u c)(hi:i<c.insts.length)(hp:pc<r8 u c i):bt ((inS u c m i).getD pc []) d e=true↔Inn u c m i pc d e:=by unfold inS kG;rw[lF (LC hu wc s4 hi) hp];refine ⟨U4 hu wc hi,fun h=>U5 hu wc s4 (fun j hj=>?_) h hi⟩;rw[LG hu wc hj];exact Sub.refl _
theorem U6 (hu:WU u)(wc:WC u c)(hi:i<c.insts.length)(hp:pc<r8 u c i):(applyN ((inS u c m i).getD pc []) (E.getD i 0)).testBit e=true↔∃d,bt E i d=true∧Inn u c m i pc d e:=by
 rw[wJ ((wK i).get hp)];constructor
 ·rintro ⟨d,h1,h2⟩;exact ⟨d,h1,(XI hu wc hi hp).1 h2⟩
 ·rintro ⟨d,h1,h2⟩;exact ⟨d,h1,(XI hu wc hi hp).2 h2⟩
theorem tP (hp:pc<r8 u c i):(gC u c m i).getD pc 0=applyN ((inS u c m i).getD pc []) ((gU u c m).getD i 0):=by have:=(wK (u:=u) (c:=c) (m:=m) i).1;simp[gC,List.getD,this,hp]
theorem w4:(gC u c m i).length=r8 u c i:=by rw[gC,List.length_map];exact (wK i).1
theorem wL (hu:WU u)(wc:WC u c)(hi:i<c.insts.length)(hp:pc<r8 u c i):((gC u c m i).getD pc 0).testBit e=true↔∃d,LJ u c m i d∧Inn u c m i pc d e:=by
 rw[tP hp,U6 hu wc hi hp];constructor
 ·rintro ⟨d,h1,h2⟩;exact ⟨d,(jS hu wc).1 h1,h2⟩
 ·rintro ⟨d,h1,h2⟩;exact ⟨d,(jS hu wc).2 h1,h2⟩
theorem gD (hp:pc<r8 u c i):(gC u c m i).getD pc 0<2^(kM u m+1):=by rw[tP hp];exact jE ((wK i).get hp) _
theorem LK (hu:WU u)(wc:WC u c)(hr:∀i:Nat,(i:Int)∈c.roots→bt E i 0=true)(hc:∀i pc,i<c.insts.length→pc<r8 u c i→ClE u c m E i pc):Sub (gU u c m) E:=fun i d h=>by
 have h1:=(jS hu wc).1 h;clear h;induction h1 with
 | root h=>exact hr _ h
 | call h h2 ho ih=>
  have hi:=(h.lt hu wc).1;have hp:=(h2.lt hu wc hi).1;exact hc _ _ hi hp ho _ ((U6 hu wc hi hp).2 ⟨_,ih,h2⟩)
theorem es_anti {F:List Nat}(he:Es u c m E)(hf:Es u c m F)(h1:Sub E F)(h2:Sub F E):E=F:=by refine List.ext_getElem (by rw[he.1,hf.1]) fun d k1 k2=>?_;have:=oG (a:=E.getD d 0) (b:=F.getD d 0) fun j=>⟨h1 d j,h2 d j⟩;simpa [List.getD,k1,k2] using this
theorem ent_eq (hu:WU u)(wc:WC u c)(he:Es u c m E)(hs:Sub E (gU u c m))(hr:∀i:Nat,(i:Int)∈c.roots→bt E i 0=true)(hc:∀i pc,i<c.insts.length→pc<r8 u c i→ClE u c m E i pc):E=gU u c m:=
 es_anti he oJ hs (LK hu wc hr hc)
theorem yF {j:Nat}(hi:i<E.length):bt (E.set i x) j e=if j=i then x.testBit e else bt E j e:=by
 unfold bt;simp only[List.getD_eq_getElem?_getD];by_cases h:j=i
 ·subst h;simp[hi]
 ·rw[List.getElem?_set_ne (Ne.symm h),if_neg h]
theorem XJ (h:Es u c m E):E.sum≤512*c.insts.length:=by rw[←h.1];exact nI fun x hx=>Nat.le_of_lt (h.lt x hx)
theorem TQ (hi:i<E.length)(hs:∀j,bt E i j=true→x.testBit j=true)(hne:E.getD i 0≠x):E.sum<(E.set i x).sum:=by have h1:=oH (l:=E) (i:=i) (x:=x) hi;have h2:E.getD i 0≤x:=yD hs;omega
end
end Go.Un
end
section
namespace Go.Proofs.YtonbocmibeikmaaGreat
open Go.Ab Go.Un
theorem LL (l:List Nat):l.map j9=g6 (l.map fun n:Nat=>(n:Int)):=by simp[g6,j9,Function.comp_def]
theorem LM (l:List Nat):bZ l=.vec (l.map fun n:Nat=>(n:Int)).length (g6 (l.map fun n:Nat=>(n:Int))):=by simp[bZ,LL]
variable {n len:Nat}{a:List Nat}
theorem BG {β g:Nat}{H:c7}(hb:H[β]?=some ⟨g,false,3,1,a.map j9,0⟩)(hn:n≤β)(hl:a.length=len):iL n H 6 (.own β g 0 len)=some (.vec len (a.map j9)):=by rw[LL]at hb ⊢;exact L2 hb hn t164
def UpN (v:Nat→Nat)(i:Nat)(zs:List Nat):Prop:=(∀d,d<i→zs.getD d 0=v d)∧(∀d,i≤d→zs.getD d 0=0)
theorem UpN.zero (v:Nat→Nat)(n:Nat):UpN v 0 (List.replicate n 0):=by refine ⟨fun d hd=>by omega,fun d _=>?_⟩;rw[List.getD_eq_getElem?_getD,List.getElem?_replicate];split<;>rfl
variable {v:Nat→Nat}{zs:List Nat}{i:Nat}
theorem UpN.set {x:Nat}(hi:i<zs.length)(h:UpN v i zs)(hx:x=v i):UpN v (i+1) (zs.set i x):=by
  refine ⟨fun d hd=>?_,fun d hd=>?_⟩
  · by_cases e:d=i
    · subst e;simp[List.getD,hi,hx]
    · have:=h.1 d (by omega)
      simp only[List.getD_eq_getElem?_getD,List.getElem?_set_ne (Ne.symm e)]at this ⊢;exact this
  · have:=h.2 d (by omega)
    simp only[List.getD_eq_getElem?_getD,List.getElem?_set_ne (show i≠d from by omega)]at this ⊢;exact this
theorem UpN.skip (h:UpN v i zs)(hv:v i=0):UpN v (i+1) zs:=by
  refine ⟨fun d hd=>?_,fun d hd=>h.2 d (by omega)⟩;by_cases e:d=i
  · subst e;rw[h.2 d (Nat.le_refl _),hv]
  · exact h.1 d (by omega)
theorem UpN.all2 (h:UpN v i zs)(hl:zs.length=n)(hi:∀d,i≤d→d<n→v d=0):zs=(List.range n).map v:=by
  refine List.ext_getElem (by simp[hl]) fun d k1 k2=>?_;by_cases hd:d<i
  · have:=h.1 d hd
    simp;simpa [List.getD,k1] using this
  · have:=h.2 d (by omega)
    have e:=hi d (by omega) (by omega);simp[e];simpa [List.getD,k1] using this
theorem UpN.all (h:UpN v i zs)(hl:zs.length=n)(hi:n≤i):zs=(List.range n).map v:=h.all2 hl fun d h1 h2=>by omega
theorem BH (k:Nat)(n:Int):AV.vec (shI k n).length (g6 (shI k n))=bZ (dhN k n):=by
  have:shI k n=(dhN k n).map fun n:Nat=>(n:Int):=by unfold shI dhN;rw[List.map_map];refine List.map_congr_left fun d _=>?_;unfold shV dhV;simp only[Function.comp_apply];split<;>simp
  rw[LM,this]
def l9 (T:List (List Nat)):List AV:=T.map bZ
variable {T:List (List Nat)}
theorem u5:(l9 T).length=T.length:=List.length_map _
theorem C5 (h:i<T.length):List.take 1 (List.drop i (l9 T))=[bZ (T.getD i [])]:=by unfold l9;rw[←List.map_drop,←List.map_take,List.drop_eq_getElem_cons h,List.take_succ_cons,List.take_zero];simp[List.getD,h]
theorem overT {r:List Nat}(h:i<T.length):List.take i (l9 T)++bZ r::List.drop (i+1) (l9 T)=l9 (T.set i r):=by unfold l9;rw[←List.map_drop,←List.map_take,List.set_eq_take_append_cons_drop,if_pos h];simp
theorem ext_T {a b:List (List Nat)}(hl:a.length=b.length)(h:∀d,d<a.length→a.getD d []=b.getD d []):a=b:=by refine List.ext_getElem hl fun d k1 k2=>?_;have:=h d k1;simpa [List.getD,k1,k2] using this
theorem ext_N {b:List Nat}(hl:a.length=b.length)(h:∀d,d<a.length→a.getD d 0=b.getD d 0):a=b:=by refine List.ext_getElem hl fun d k1 k2=>?_;have:=h d k1;simpa [List.getD,k1,k2] using this
theorem O8 (l:List Nat):aA (l.map j9):=aA.map fun _=>.int
theorem TR (T:List (List Nat)):aA (l9 T):=aA.map fun _=>.vec
theorem U7 {β g:Nat}{H:c7}{a:List (List Nat)}(hb:H[β]?=some ⟨g,false,22,1,l9 a,0⟩)(hn:n≤β)(hl:a.length=len):iL n H 6 (.own β g 0 len)=some (.vec len (l9 a)):=by subst hl;rw[eF,if_neg (by omega),gH,hb];simp only[hn,and_self,if_true,Bool.false_eq_true,if_false,Nat.zero_add,Nat.mul_one,u5,Nat.le_refl,List.drop_zero];rw[List.take_of_length_le (by rw[u5];exact Nat.le_refl _),(TR a).frz]
theorem TS {b:List Nat}:(a.map (fun n:Nat=>(n:Int))=b.map (fun n:Nat=>(n:Int)))↔a=b:=List.map_inj_right (fun x y h=>by exact_mod_cast h)
variable {h:c7}
theorem U8 (a b:List Nat)(hl:a.length<1000000):CB 31 [bZ a,bZ b] h (.bool (decide (a=b))):=by rw[LM,LM];refine (WW _ _ t164).mono fun r h' ⟨h1,h2⟩=>⟨h1.trans ?_,h2⟩;exact congrArg AV.bool (decide_eq_decide.2 TS)
theorem shl1K {k:Nat}(h:k≤8):IntKind.wrap .i64 (1*2^(min (k+1) 64))=((2^(k+1):Nat):Int):=by rw[shl1M (by omega)];simp
theorem c_withNN (x m:Int)(hn:0<m)(hm:m<4611686018427387904):CB 27 [.int .i64 x,.int .i64 m] h (.int .i64 ((vV x m:Nat):Int)):=by have e:((vV x m:Nat):Int)=within x m:=Int.toNat_of_nonneg (mF hn);rw[e];exact mZ x m hn (Int.le_of_lt hm)
attribute [local go_sem] rd bZ l8 Int.natCast_nonneg Int.natCast_inj pZ vT rV testN hasN orN shl1K List.length_set List.length_replicate Int.toNat_natCast_add_one kV List.length_map wrap64 zZ max2 lO C5 u5
theorem c_has8 (s:Nat)(d:Int)(hs:s<512):CB 84 [.int .i64 ((s:Nat):Int),.int .i64 d] h (.bool (Qp s d)):=by
  refine .bz Tryz.f84 18 ?_;refine c87z ?_;refine .spl 7 rfl rfl (fun e1=>?_) (fun e1=>?_)
  ·try simp only[e1]
   have qe1:=fact e1;refine .k 4 [(2,7)] ?_;refine .spl 11 rfl rfl (fun e2=>?_) (fun e2=>?_)
   ·try simp only[e2]
    have qe2:=fact e2;refine c195z ?_;exact ⟨[],_,(List.append_nil _).symm,t43,t39⟩
   try simp only[e2]
   have qe2:=fact e2;refine c195z ?_;exact ⟨[],_,(List.append_nil _).symm,t43,t39⟩
  try simp only[e1]
  have qe1:=fact e1;refine .k 8 [(2,7),(6,11)] ?_;refine c195z ?_;exact ⟨[],_,(List.append_nil _).symm,t43,t39⟩
theorem c_in8 (s:Nat)(d:Int)(hs:s<512):CB 52 [.int .i64 ((s:Nat):Int),.int .i64 d] h (.bool (Qp s d)):=by
  refine .bz Tryz.f52 18 ?_;refine c87z ?_;refine .spl 7 rfl rfl (fun e1=>?_) (fun e1=>?_)
  ·try simp only[e1]
   have qe1:=fact e1;refine .k 4 [(2,7)] ?_;refine .spl 11 rfl rfl (fun e2=>?_) (fun e2=>?_)
   ·try simp only[e2]
    have qe2:=fact e2;refine c195z ?_;exact ⟨[],_,(List.append_nil _).symm,t43,t39⟩
   try simp only[e2]
   have qe2:=fact e2;refine c195z ?_;exact ⟨[],_,(List.append_nil _).symm,t43,t39⟩
  try simp only[e1]
  have qe1:=fact e1;refine .k 8 [(2,7),(6,11)] ?_;refine c195z ?_;exact ⟨[],_,(List.append_nil _).symm,t43,t39⟩
theorem c_inN (s i:Nat)(hs:s<512)(hi:i≤8):CB 52 [.int .i64 ((s:Nat):Int),.int .i64 ((i:Nat):Int)] h (.bool (s.testBit i)):=by rw[←hasN hi];exact c_in8 s _ hs
theorem c_appM (r:List Nat)(s:Nat)(hr:∀x∈r,x<512)(hs:s<512)(hl:r.length≤9):CB 68 [bZ r,.int .i64 ((s:Nat):Int)] h (.int .i64 ((applyN r s:Nat):Int)):=by
  refine .bz Tryz.f68 25 ?_;refine c60z ?_;refine .cA (fun m st=>∃(i:Nat),(m=r.length-i∧i≤r.length)∧st=⟨mkS 25 [(1,AV.int .i64 ((s:Nat):Int)),(5,AV.int .i64 ((cD r s i:Nat):Int)),(8,bZ r),(9,AV.int .i64 ((r.length:Nat):Int)),(10,AV.int .i64 ((i:Nat):Int))],h⟩) _ (.v ⟨0,⟨rfl,by omega⟩,rfl⟩ (hs:=t42)) ?_;rintro m sl h' ⟨i,⟨hm,hi⟩,hst⟩;obtain ⟨rfl,rfl⟩:=St.mk.inj hst;have hacc:=nG hr s i;have hgi:=gB hr i;refine c19z ?_;refine u2z ?_ ?_
  ·intro e1 qe1;refine c2z ?_;refine c65z ?_;refine u2z ?_ ?_
   ·intro e2 qe2;refine .c5 [1,5,7,8,9,10] ?_;refine c47z ?_;exact ⟨_,by omega,.v ⟨(i+1),⟨rfl,by omega⟩,rfl⟩ (hs:=t42)⟩
   intro e2 qe2;refine c4z ?_;refine .c5 [1,5,8,9,10] ?_;refine .rz ?_;exact ⟨_,by omega,.v ⟨(i+1),⟨rfl,by omega⟩,rfl⟩ (hs:=t42)⟩
  intro e1 qe1;refine c94z ?_;exact ⟨[],_,(List.append_nil _).symm,t43,t190⟩
theorem BI (r:List Nat)(s:Nat)(hr:∀x∈r,x<512)(hs:s<512)(hl:r.length≤9):CB 58 [bZ r,.int .i64 ((s:Nat):Int)] h (.int .i64 ((applyN r s:Nat):Int)):=by
  refine .bz Tryz.f58 23 ?_;refine c60z ?_;refine .cA (fun m st=>∃(i:Nat),(m=r.length-i∧i≤r.length)∧st=⟨mkS 23 [(0,bZ r),(1,AV.int .i64 ((s:Nat):Int)),(5,AV.int .i64 ((cD r s i:Nat):Int)),(6,AV.int .i64 ((i:Nat):Int))],h⟩) _ (.v ⟨0,⟨rfl,by omega⟩,rfl⟩ (hs:=t42)) ?_;rintro m sl h' ⟨i,⟨hm,hi⟩,hst⟩;obtain ⟨rfl,rfl⟩:=St.mk.inj hst;have hacc:=nG hr s i;have hgi:=gB hr i;refine c0z ?_;refine u2z ?_ ?_
  ·intro e1 qe1;refine c2z ?_;refine c31z ?_;refine .ca rfl rfl (c_inN _ _ hs (by omega)) ?_;refine .nil ?_;refine u2z ?_ ?_
   ·intro e2 qe2;refine c1z ?_;refine c151z ?_;exact ⟨_,by omega,.v ⟨(i+1),⟨rfl,by omega⟩,rfl⟩ (hs:=t42)⟩
   intro e2 qe2;refine c4z ?_;refine .rz ?_;exact ⟨_,by omega,.v ⟨(i+1),⟨rfl,by omega⟩,rfl⟩ (hs:=t42)⟩
  intro e1 qe1;refine c94z ?_;exact ⟨[],_,(List.append_nil _).symm,t43,t190⟩
theorem nJ (r:List Nat)(s:Nat)(hr:∀x∈r,x<512)(hs:s<512)(hl:r.length≤9):CB 25 [bZ r,.int .i64 ((s:Nat):Int)] h (.int .i64 ((applyN r s:Nat):Int)):=by refine .bz Tryz.f25 8 ?_;refine .z ?_;refine c31z ?_;refine .ca rfl rfl (c_appM _ _ hr hs hl) ?_;refine c180z ?_;exact ⟨[],_,(List.append_nil _).symm,t43,by rfl⟩
theorem c_comp (a b:List Nat)(hb:∀x∈b,x<512)(hl:b.length≤9)(ha:∀x∈a,x<512)(hla:a.length≤9):CB 145 [bZ a,bZ b] h (bZ (o5 a b)):=by
  refine .bz Tryz.f145 26 ?_;refine c60z ?_;refine .cA (fun m st=>∃(i:Nat) (zs:List Nat),(m=(a.length)-i∧(UpN (fun d=>applyN b (a.getD d 0)) i zs∧zs.length=(a.length)∧i≤(a.length)))∧st=⟨mkS 26 [(1,bZ b),(5,AV.own h.length 0 0 (a.length)),(11,bZ a),(12,AV.int .i64 ((a.length:Nat):Int)),(13,AV.int .i64 ((i:Nat):Int))],h++[⟨0,false,3,1,zs.map j9,0⟩]⟩) _ (.v ⟨0,(List.replicate (a.length) 0),⟨rfl,⟨UpN.zero _ _,by simp,by omega⟩⟩,rfl⟩) ?_;rintro m sl h' ⟨i,zs,⟨hm,⟨hI,hz,hi⟩⟩,hst⟩;obtain ⟨rfl,rfl⟩:=St.mk.inj hst;have hga:=gB ha i;refine c19z ?_;refine u2z ?_ ?_
  ·intro e1 qe1;refine c72z ?_;refine c166z ?_;refine .ca rfl rfl (nJ _ _ hb hga hl) ?_;refine c25z ?_;refine .c5 [1,5,11,12,13] ?_;refine .rz ?_;exact ⟨_,by omega,.v ⟨(i+1),(zs.set i _),⟨rfl,⟨UpN.set (by omega) hI rfl,t111,by omega⟩⟩,rfl⟩⟩
  intro e1 qe1;refine c94z ?_;exact ⟨_,_,rfl,BG t137 (Nat.le_refl _) hz,t178⟩
theorem c_compR (a b:List Nat)(hb:∀x∈b,x<512)(hl:b.length≤9)(ha:∀x∈a,x<512)(hla:a.length≤9):CB 81 [bZ a,bZ b] h (bZ (o5 a b)):=by
  refine .bz Tryz.f81 26 ?_;refine c60z ?_;refine .cA (fun m st=>∃(i:Nat) (zs:List Nat),(m=(a.length)-i∧(UpN (fun d=>applyN b (a.getD d 0)) i zs∧zs.length=(a.length)∧i≤(a.length)))∧st=⟨mkS 26 [(0,bZ a),(1,bZ b),(5,AV.own h.length 0 0 (a.length)),(6,AV.int .i64 ((i:Nat):Int))],h++[⟨0,false,3,1,zs.map j9,0⟩]⟩) _ (.v ⟨0,(List.replicate (a.length) 0),⟨rfl,⟨UpN.zero _ _,by simp,by omega⟩⟩,rfl⟩) ?_;rintro m sl h' ⟨i,zs,⟨hm,⟨hI,hz,hi⟩⟩,hst⟩;obtain ⟨rfl,rfl⟩:=St.mk.inj hst;have hga:=gB ha i;refine c0z ?_;refine u2z ?_ ?_
  ·intro e1 qe1;refine c2z ?_;refine .r ?_;refine .e 7 ?_;refine .ca rfl rfl (BI _ _ hb hga hl) ?_;refine c25z ?_;refine c151z ?_;exact ⟨_,by omega,.v ⟨(i+1),(zs.set i _),⟨rfl,⟨UpN.set (by omega) hI rfl,t111,by omega⟩⟩,rfl⟩⟩
  intro e1 qe1;refine c94z ?_;exact ⟨_,_,rfl,BG t137 (Nat.le_refl _) hz,t178⟩
theorem U9 (a b:List Nat)(hb:∀x∈b,x<512)(ha:∀x∈a,x<512)(hla:a.length≤9)(hab:b.length=a.length):CB 105 [bZ a,bZ b] h (bZ (cN a b)):=by
  refine .bz Tryz.f105 29 ?_;refine c60z ?_;refine .cA (fun m st=>∃(i:Nat) (zs:List Nat),(m=(a.length)-i∧(UpN (fun d=>a.getD d 0|||b.getD d 0) i zs∧zs.length=(a.length)∧i≤(a.length)))∧st=⟨mkS 29 [(0,bZ a),(1,bZ b),(5,AV.own h.length 0 0 (a.length)),(11,AV.int .i64 ((a.length:Nat):Int)),(12,AV.int .i64 ((i:Nat):Int))],h++[⟨0,false,3,1,zs.map j9,0⟩]⟩) _ (.v ⟨0,(List.replicate (a.length) 0),⟨rfl,⟨UpN.zero _ _,by simp,by omega⟩⟩,rfl⟩) ?_;rintro m sl h' ⟨i,zs,⟨hm,⟨hI,hz,hi⟩⟩,hst⟩;obtain ⟨rfl,rfl⟩:=St.mk.inj hst;have hga:=gB ha i;have hgb:=gB hb i;refine c19z ?_;refine u2z ?_ ?_
  ·intro e1 qe1;refine c72z ?_;refine .so u9 (mkP 13 [0,0,0,0,12,28,0,0,192,448,1020,2047,4095] [12]) ?_;refine c50z ?_;change c8 ..;refine c218z ?_;exact ⟨_,by omega,.v ⟨(i+1),(zs.set i _),⟨rfl,⟨UpN.set (by omega) hI rfl,t111,by omega⟩⟩,rfl⟩⟩
  intro e1 qe1;refine c94z ?_;exact ⟨_,_,rfl,BG t137 (Nat.le_refl _) hz,t184⟩
theorem C6 (a b:List Nat)(hb:∀x∈b,x<512)(ha:∀x∈a,x<512)(hla:a.length≤9)(hab:b.length=a.length):CB 78 [bZ a,bZ b] h (bZ (cN a b)):=by
  refine .bz Tryz.f78 29 ?_;refine c60z ?_;refine .cA (fun m st=>∃(i:Nat) (zs:List Nat),(m=(a.length)-i∧(UpN (fun d=>a.getD d 0|||b.getD d 0) i zs∧zs.length=(a.length)∧i≤(a.length)))∧st=⟨mkS 29 [(0,bZ a),(1,bZ b),(5,AV.own h.length 0 0 (a.length)),(6,AV.int .i64 ((i:Nat):Int))],h++[⟨0,false,3,1,zs.map j9,0⟩]⟩) _ (.v ⟨0,(List.replicate (a.length) 0),⟨rfl,⟨UpN.zero _ _,by simp,by omega⟩⟩,rfl⟩) ?_;rintro m sl h' ⟨i,zs,⟨hm,⟨hI,hz,hi⟩⟩,hst⟩;obtain ⟨rfl,rfl⟩:=St.mk.inj hst;have hga:=gB ha i;have hgb:=gB hb i;refine c0z ?_;refine u2z ?_ ?_
  ·intro e1 qe1;refine c2z ?_;refine .so u9 (mkP 13 [0,0,0,0,12,28,0,0,192,448,1020,2047,4095] [12]) ?_;refine c50z ?_;change c8 ..;refine c151z ?_;exact ⟨_,by omega,.v ⟨(i+1),(zs.set i _),⟨rfl,⟨UpN.set (by omega) hI rfl,t111,by omega⟩⟩,rfl⟩⟩
  intro e1 qe1;refine c94z ?_;exact ⟨_,_,rfl,BG t137 (Nat.le_refl _) hz,t184⟩
theorem LN (a b:List Nat)(hla:a.length≤9)(hab:b.length=a.length):CB 117 [bZ a,bZ b] h (.bool (decide (vU a b))):=by
  refine .bz Tryz.f117 22 ?_;refine c17z ?_;refine .cA (fun m st=>∃(i:Nat),(m=a.length-i∧((∀d,d<i→bits .andNot .i64 ((a.getD d 0:Nat):Int) ((b.getD d 0:Nat):Int)=0)∧i≤a.length))∧st=⟨mkS 22 [(0,bZ a),(1,bZ b),(7,AV.int .i64 ((a.length:Nat):Int)),(8,AV.int .i64 ((i:Nat):Int))],h⟩) _ (.v ⟨0,⟨rfl,⟨t107,by omega⟩⟩,rfl⟩) ?_;rintro m sl h' ⟨i,⟨hm,⟨hI,hi⟩⟩,hst⟩;obtain ⟨rfl,rfl⟩:=St.mk.inj hst;refine c19z ?_;refine u2z ?_ ?_
  ·intro e1 qe1;refine c72z ?_;refine .ss u9 (mkP 10 [0,0,3,7,0,0,48,112,255,511] []) ?_;refine c50z ?_;refine u2z ?_ ?_
   ·intro e2 qe2;refine c105z ?_;exact ⟨[],_,(List.append_nil _).symm,t43,t112⟩
   intro e2 qe2;refine c4z ?_;refine .c5 [0,1,7,8] ?_;refine .rz ?_;exact ⟨_,by omega,.v ⟨(i+1),⟨rfl,⟨(fun d hd=>if e:d=i then by rw[e];assumption else hI d (by omega)),by omega⟩⟩,rfl⟩⟩
  intro e1 qe1;refine c94z ?_;exact ⟨[],_,(List.append_nil _).symm,t43,t112⟩
theorem c_sameT {n:Nat}(a b:List (List Nat))(hl:a.length<1000000)(ha:∀r∈a,r.length<100000):CB 33 [.vec a.length (l9 a),.vec b.length (l9 b)] h (.bool (decide (a=b))):=by
  refine .bz Tryz.f33 27 ?_;refine c89z ?_;refine u2z ?_ ?_
  ·intro e1 qe1;refine c105z ?_;exact ⟨[],_,(List.append_nil _).symm,t43,t78⟩
  intro e1 qe1;refine .sk ?_;refine c5z ?_;refine .cA (fun m st=>∃(i:Nat),(m=a.length-i∧((∀d,d<i→a.getD d []=b.getD d [])∧i≤a.length))∧st=⟨mkS 27 [(0,AV.vec a.length (l9 a)),(1,AV.vec b.length (l9 b)),(5,AV.int .i64 ((i:Nat):Int))],h⟩) _ (.v ⟨0,⟨rfl,⟨t107,by omega⟩⟩,rfl⟩) ?_;rintro m sl h' ⟨i,⟨hm,⟨hI,hi⟩⟩,hst⟩;obtain ⟨rfl,rfl⟩:=St.mk.inj hst;refine c0z ?_;refine u2z ?_ ?_
  ·intro e2 qe2;refine c2z ?_;refine .ss u9 (mkP 10 [0,0,3,7,0,0,48,112,255,511] []) ?_;refine .k 8 [] ?_;refine .ca rfl rfl (U8 _ _ (by have:=ha _ (j7 (i:=i) (d:=[]) (by omega));omega)) ?_;refine .n [] ?_;refine u2z ?_ ?_
   ·intro e3 qe3;refine c105z ?_;exact ⟨[],_,(List.append_nil _).symm,t43,t78⟩
   intro e3 qe3;refine c4z ?_;refine c206z ?_;exact ⟨_,by omega,.v ⟨(i+1),⟨rfl,⟨(fun d hd=>if e:d=i then by rw[e];assumption else hI d (by omega)),by omega⟩⟩,rfl⟩⟩
  intro e2 qe2;refine c94z ?_;exact ⟨[],_,(List.append_nil _).symm,t43,t78⟩
end Go.Proofs.YtonbocmibeikmaaGreat
end
