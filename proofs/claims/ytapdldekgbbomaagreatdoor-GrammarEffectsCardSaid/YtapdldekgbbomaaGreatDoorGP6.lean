/- My own texts, put together by a program of mine. -/
import Derived.Test.YtapdldekgbbomaaGreatDoorGP5
set_option linter.unusedSimpArgs false
set_option linter.unusedVariables false
set_option maxRecDepth 100000
set_option maxHeartbeats 4000000
section
namespace Go.Proofs.YtapdldekgbbomaaGreatDoor
open Go.Ab Go.Un
variable {p:Go.Un.Pg}{f:Fu}
theorem GW (h:GH p)(hf:f∈p.funcs):∀x∈f.params,tP x.name=false:=by
  obtain ⟨i,hi,rfl⟩:=cJ (d:=j9) hf;intro x hx;have hm:x.name∈(p.funcs.getD i j9).params.map (·.name):=List.mem_map.2 ⟨x,hx,rfl⟩;rcases (h.fn i hi).2.2 with e | e | e<;>rw[e]at hm<;>simp at hm
  · rw[hm];exact M7 1 (by omega)
  · rcases hm with e | e<;>rw[e]
    · exact M7 2 (by omega)
    · exact M7 1 (by omega)
variable {i:Nat}
theorem nU {α:Type}(f:α→List AV)(K j:Nat)(hK:∀a,(f a).length=K)(hj:j<K)(d:α){l:List α}(h:i<l.length):List.take 1 (List.drop (i*K+j) (l.flatMap f))=List.take 1 (List.drop j (f (l.getD i d))):=by rw[←bD f K hK d h,List.drop_take,List.take_take,List.drop_drop,Nat.min_eq_left (by omega)]
theorem OQ {l:List Gl}(h:i<l.length):List.take 1 (List.drop (i*2) (s7 l))=[.str (l.getD i mE).name]:=nU AQ 2 0 (fun _=>rfl) (by omega) mE h
theorem OR {l:List Gl}(h:i<l.length):List.take 1 (List.drop (i*2+1) (s7 l))=[.int .i64 (l.getD i mE).init]:=nU AQ 2 1 (fun _=>rfl) (by omega) mE h
variable {l:List Pm}
theorem OS (h:i<l.length):List.take 1 (List.drop (i*2) (z9 l))=[.str (l.getD i iO).name]:=nU AP 2 0 (fun _=>rfl) (by omega) iO h
theorem OT (h:i<l.length):List.take 1 (List.drop (i*2+1) (z9 l))=[.bool (l.getD i iO).mu]:=nU AP 2 1 (fun _=>rfl) (by omega) iO h
theorem txtGl_0 {l:List Gl}(h:(l.getD i mE).init=0):lI l (i+1)=lI l i++E9++(l.getD i mE).name++rF:=by rw[lI,if_pos h]
theorem txtGl_1 {l:List Gl}(h:¬(l.getD i mE).init=0):lI l (i+1)=lI l i++E9++(l.getD i mE).name++MG++AU (l.getD i mE).init++rF:=by rw[lI,if_neg h]
variable {out:BA}
theorem OU {l:List Mx}(h1:(l.getD i dC).re=false)(h:¬0<(l.getD i dC).size):eP l out (i+1)=eP l out i++cA++(l.getD i dC).name++rF:=by rw[eP,if_neg h,if_neg (by rw[h1];decide)]
theorem OV {l:List Mx}(h1:(l.getD i dC).re=true)(h:¬0<(l.getD i dC).size):eP l out (i+1)=eP l out i++t_r++cA++(l.getD i dC).name++rF:=by rw[eP,if_neg h,if_pos h1]
theorem OW {l:List Mx}(h1:(l.getD i dC).re=false)(h:0<(l.getD i dC).size):eP l out (i+1)=eP l out i++cA++(l.getD i dC).name++KE++AU (l.getD i dC).size++KF++rF:=by rw[eP,if_pos h,if_neg (by rw[h1];decide)]
theorem OX {l:List Mx}(h1:(l.getD i dC).re=true)(h:0<(l.getD i dC).size):eP l out (i+1)=eP l out i++t_r++cA++(l.getD i dC).name++KE++AU (l.getD i dC).size++KF++rF:=by rw[eP,if_pos h,if_pos h1]
theorem OY (h1:(l.getD i iO).mu=false)(h:¬0<i):gA l out (i+1)=gA l out i++(l.getD i iO).name:=by rw[gA,if_neg h,if_neg (by rw[h1];decide)]
theorem OZ (h1:(l.getD i iO).mu=true)(h:¬0<i):gA l out (i+1)=gA l out i++cA++(l.getD i iO).name:=by rw[gA,if_neg h,if_pos h1]
theorem PA (h1:(l.getD i iO).mu=false)(h:0<i):gA l out (i+1)=gA l out i++mN++(l.getD i iO).name:=by rw[gA,if_pos h,if_neg (by rw[h1];decide)]
theorem PB (h1:(l.getD i iO).mu=true)(h:0<i):gA l out (i+1)=gA l out i++mN++cA++(l.getD i iO).name:=by rw[gA,if_pos h,if_pos h1]
theorem GHgres (h:GH p)(hf:f∈p.funcs):rQ (ML p f):=by
  refine ⟨⟨fun m hm=>?_,fun x hx=>?_⟩,fun x hx=>?_⟩
  · obtain ⟨i,hi,rfl⟩:=cJ (d:=dC) hm
    show tP (p.c5.getD i dC).name=false;rw[(h.mn i hi).1];exact FZ i (by have:=h.ml;have hi2:i<p.c5.length:=hi;omega)
  · exact GW h hf x hx
  · obtain ⟨g,hg,rfl⟩:=List.mem_map.1 hx
    obtain ⟨i,hi,rfl⟩:=cJ (d:=j9) hg;show tP (p.funcs.getD i j9).name=false;rw[(h.fn i hi).1];exact GA i (by have:=h.fl;omega)
theorem GX (h:GH p)(hf:f∈p.funcs):aM (MM p f):=by
  intro x hx;refine ⟨h.VZ hf x hx,?_⟩;rcases List.mem_append.1 hx with hx | hx
  · obtain ⟨g,hg,rfl⟩:=List.mem_map.1 hx
    obtain ⟨i,hi,rfl⟩:=cJ (d:=mE) hg;rw[(h.gn i hi).1];exact FY i (by have:=h.gl;omega)
  · obtain ⟨g,hg,rfl⟩:=List.mem_map.1 hx
    exact GW h hf g (List.mem_filter.1 hg).1
theorem N7 {l:List Fu}(h:i<l.length):(l.getD i j9).body.wt≤sQ l l.length:=by
  have key:∀n,i<n→(l.getD i j9).body.wt≤sQ l n:=by
    intro n hn;induction n with
    | zero=>omega
    | succ n ih=>
      rw[sQ];by_cases e:i=n
      · rw[e];omega
      · have:=ih (by omega);omega
  exact key _ h
variable {h:c8}
theorem c_lexF {L:Bs}(hx:LX L 4000)(hl:L.length≤262144):CB 69 [.vec L.length (tN L)] h (.tup [.any,.int .i64 L.length,.int .i64 0]):=
  F7 rfl ((c_lex0 L 4000 hx (Nat.le_refl _) hl).mono fun _ _ h=>h.1) h
theorem encB_8 {b:BA}:b.toList.map (fun c=>AV.int .u8 ((c.toNat:Nat):Int))=tN (L8 b):=by rw[ByteArray.toList_eq];rfl
theorem c_lexB {b:BA}(hx:LX (L8 b) 4000)(hl:b.size≤262144):CB 69 [.vec b.size (b.toList.map fun c=>AV.int .u8 ((c.toNat:Nat):Int))] h (.tup [.any,.int .i64 b.size,.int .i64 0]):=by rw[encB_8,lH];exact c_lexF hx (by rw[←lH];exact hl)
attribute [local go_sem] nS aS p7 bT dB bV n6 dU q9 bO aZ Int.natCast_nonneg Int.natCast_inj List.length_map wrap64 BE mQ zL aR nC eq_mk nD Nat.reduceMul OQ OR OS OT L2 uV eO
theorem V8 {l:List Pm}(hn:∀x∈l,isName (L8 x.name))(out:BA):∀i,i≤l.length→(gA l out i).size≤out.size+30*i
  | 0,_=>Nat.le_refl _
  | i+1,hi=>by
    have ih:=V8 hn out i (by omega);have hs:=aG (hn _ (j7 (d:=iO) (show i<l.length from by omega)));have e1:cA.size=6:=rfl;have e2:mN.size=2:=rfl;unfold gA;repeat' split
    all_goals simp only[aR]
    all_goals omega
theorem GY {l:List Fu}:∀{a b:Nat},a≤b→sQ l a≤sQ l b:=by
  intro a b h;induction h with
  | refl=>exact Nat.le_refl _
  | step _ ih=>rw[sQ];omega
theorem c_progT (hp:GP p):CB 70 [.agg [.vec p.globals.length (s7 p.globals),.vec p.c5.length (j6 p.c5),.vec p.funcs.length (p9 p.funcs)]] h (.str (txtP p)):=by
  refine .bz Tryz.f70 131 ?_;have hgl:=tJ hp.toGH p.globals.length (Nat.le_refl _);have hmx:=tK hp.toGH hgl.1 p.c5.length (Nat.le_refl _);have hgl0:=hp.gl;have hml0:=hp.ml;have hfl0:=hp.fl;have htot:=hp.wt;have hwm:∀i,i≤p.funcs.length→sQ p.funcs i≤48:=fun i hi=>Nat.le_trans (GY hi) htot;refine c98z ?_;refine .jZ (fun m st=>∃(i:Nat),(m=p.globals.length-i∧i≤p.globals.length)∧st=⟨mkS 131 [(1,AV.ptr h.length 0 0),(3,AV.str (lI p.globals i)),(4,AV.int .i64 ((i:Nat):Int))],h++[⟨0,false,27,3,[.vec p.globals.length (s7 p.globals),.vec p.c5.length (j6 p.c5),.vec p.funcs.length (p9 p.funcs)],0⟩]⟩) _ (.v ⟨0,⟨rfl,by omega⟩,rfl⟩ (hs:=t79)) ?_;rintro m sl h' ⟨i,⟨hm,hi⟩,hst⟩;obtain ⟨rfl,rfl⟩:=St.mk.inj hst;have hsz:=(tJ hp.toGH i hi).2;refine c1z ?_;refine u2z ?_ ?_
  ·intro e1 qe1;refine c9z ?_;have hgn:=fC (hp.toGH.EO (j7 (d:=mE) (l:=p.globals) (i:=i) (by omega)));have hgi:=(hp.gn i (by omega)).2;refine c174z ?_;refine c44z ?_;refine .c7 [1,3,4] ?_;refine .z ?_;refine u2z ?_ ?_
   ·intro e2 qe2;have hns:=(uY hgi.1 hgi.2).2;refine c175z ?_;refine c220z ?_;refine .c7 [1,3,4] ?_;refine c67z ?_;exact ⟨_,by omega,.v ⟨(i+1),⟨rfl,by omega⟩,rfl⟩ (hs:=t79)⟩
   intro e2 qe2;refine .sk ?_;refine c105z ?_;exact ⟨_,by omega,.v ⟨(i+1),⟨rfl,by omega⟩,rfl⟩ (hs:=t79)⟩
  intro e1 qe1;refine .exit ?_;obtain rfl:i=p.globals.length:=by omega
  change g7 ..;refine c7z ?_;refine .aW (fun m st=>∃(i:Nat),(m=p.c5.length-i∧i≤p.c5.length)∧st=⟨mkS 131 [(1,AV.ptr h.length 0 0),(3,AV.str (eP p.c5 (lI p.globals p.globals.length) i)),(5,AV.int .i64 ((i:Nat):Int))],h++[⟨0,false,27,3,[.vec p.globals.length (s7 p.globals),.vec p.c5.length (j6 p.c5),.vec p.funcs.length (p9 p.funcs)],0⟩]⟩) (.v ⟨0,⟨rfl,by omega⟩,rfl⟩ (hs:=t31)) ?_;rintro m sl h' ⟨i,⟨hm,hi⟩,hst⟩;obtain ⟨rfl,rfl⟩:=St.mk.inj hst;clear hst;have hsz:=(tK hp.toGH hgl.1 i hi).2;refine c1z ?_;refine u2z ?_ ?_
  ·intro e3 qe3;refine c9z ?_;have hmn:=fC (hp.toGH.MQ (j7 (d:=dC) (l:=p.c5) (i:=i) (by omega)));have hmi:=(hp.mn i (by omega)).2;refine c20z ?_;refine .c7 [1,3,5,6] ?_;refine .z ?_;refine u2z ?_ ?_
   ·intro e4 qe4;refine c2z ?_;refine c20z ?_;refine .c7 [1,3,5,6] ?_;refine .z ?_;refine u2z ?_ ?_
    ·intro e5 qe5;have hns:=(uY (n:=(p.c5.getD i dC).size) (by omega) (by omega)).2;refine c99z ?_;refine c220z ?_;refine .c7 [1,3,5] ?_;refine c67z ?_;exact ⟨_,by omega,.v ⟨(i+1),⟨rfl,by omega⟩,rfl⟩ (he:=t33) (hs:=t31)⟩
    intro e5 qe5;refine .sk ?_;refine c67z ?_;exact ⟨_,by omega,.v ⟨(i+1),⟨rfl,by omega⟩,rfl⟩ (he:=t33) (hs:=t31)⟩
   intro e4 qe4;refine .sk ?_;refine c54z ?_;refine u2z ?_ ?_
   ·intro e6 qe6;refine .c7 [1,3,5,6] ?_;have hns:=(uY (n:=(p.c5.getD i dC).size) (by omega) (by omega)).2;refine c99z ?_;refine c220z ?_;refine .c7 [1,3,5] ?_;refine c67z ?_;exact ⟨_,by omega,.v ⟨(i+1),⟨rfl,by omega⟩,rfl⟩ (he:=t33) (hs:=t31)⟩
   intro e6 qe6;refine .sk ?_;refine .c7 [1,3,5] ?_;refine c67z ?_;exact ⟨_,by omega,.v ⟨(i+1),⟨rfl,by omega⟩,rfl⟩ (he:=t33) (hs:=t31)⟩
  intro e3 qe3;refine .exit ?_;obtain rfl:i=p.c5.length:=by omega
  change g7 ..;refine c7z ?_;refine .aW (fun m st=>∃(i:Nat),(m=p.funcs.length-i∧i≤p.funcs.length)∧st=⟨mkS 131 [(1,AV.ptr h.length 0 0),(3,AV.str (sP p.funcs (eP p.c5 (lI p.globals p.globals.length) p.c5.length) i)),(7,AV.int .i64 ((i:Nat):Int))],h++[⟨0,false,27,3,[.vec p.globals.length (s7 p.globals),.vec p.c5.length (j6 p.c5),.vec p.funcs.length (p9 p.funcs)],0⟩]⟩) (.v ⟨0,⟨rfl,by omega⟩,rfl⟩) ?_;rintro m sl h' ⟨i,⟨hm,hi⟩,hst⟩;obtain ⟨rfl,rfl⟩:=St.mk.inj hst;clear hst;have hsz:=(zD hp hmx.1 i hi).2;have hwi:=hwm i hi;refine c1z ?_;refine u2z ?_ ?_
  ·intro e7 qe7;refine c9z ?_;have hfm:=j7 (d:=j9) (l:=p.funcs) (i:=i) (by omega);have hfn:=fC (hp.toGH.EP hfm);have hpn:=hp.toGH.pU hfm;have hbd:=hp.body i (by omega);have hwt:=N7 (l:=p.funcs) (i:=i) (by omega);have hww:=hp.wt;have hlw:=dQ (p.funcs.getD i j9).body;refine .z ?_;refine .c7 [1,3,7,8] ?_;refine c26z ?_;refine .jZ (fun m st=>∃(j:Nat),(m=(p.funcs.getD i j9).params.length-j∧j≤(p.funcs.getD i j9).params.length)∧st=⟨mkS 131 [(1,AV.ptr h.length 0 0),(3,AV.str (gA (p.funcs.getD i j9).params (sP p.funcs (eP p.c5 (lI p.globals p.globals.length) p.c5.length) i++sD++(p.funcs.getD i j9).name++wK) j)),(7,AV.int .i64 ((i:Nat):Int)),(8,AV.ptr (h.length+1) 0 0),(9,AV.int .i64 ((j:Nat):Int))],h++[⟨0,false,27,3,[.vec p.globals.length (s7 p.globals),.vec p.c5.length (j6 p.c5),.vec p.funcs.length (p9 p.funcs)],0⟩,⟨0,false,122,3,[.str (p.funcs.getD i j9).name,.vec (p.funcs.getD i j9).params.length (z9 (p.funcs.getD i j9).params),.vec (p.funcs.getD i j9).body.len (s3 (p.funcs.getD i j9).body)],0⟩]⟩) _ (.v ⟨0,⟨rfl,by omega⟩,rfl⟩ (hs:=t41)) ?_;rintro m sl h' ⟨j,⟨hm,hj⟩,hst⟩;obtain ⟨rfl,rfl⟩:=St.mk.inj hst;have hsp:=V8 (l:=(p.funcs.getD i j9).params) hpn.2 (sP p.funcs (eP p.c5 (lI p.globals p.globals.length) p.c5.length) i++sD++(p.funcs.getD i j9).name++wK) j hj;have hs0:(sP p.funcs (eP p.c5 (lI p.globals p.globals.length) p.c5.length) i++sD++(p.funcs.getD i j9).name++wK).size≤(sP p.funcs (eP p.c5 (lI p.globals p.globals.length) p.c5.length) i).size+30:=by simp only[aR];have e1:sD.size=5:=rfl;have e2:wK.size=1:=rfl;omega
   refine c1z ?_;refine u2z ?_ ?_
   ·intro e8 qe8;refine c9z ?_;refine c1z ?_;refine u2z ?_ ?_
    ·intro e9 qe9;refine c2z ?_;refine .seq ?_;refine .c7 [1,3,7,8,9] ?_;have hpj:=fC (hpn.2 _ (j7 (d:=iO) (l:=(p.funcs.getD i j9).params) (i:=j) (by omega)));refine .z ?_;refine u2z ?_ ?_
     ·intro e10 qe10;refine c2z ?_;refine .c7 [1,3,7,8,9] ?_;refine c229z ?_;refine .rz ?_;exact ⟨_,by omega,.v ⟨(j+1),⟨rfl,by omega⟩,rfl⟩ (hs:=t41)⟩
     intro e10 qe10;refine .sk ?_;refine c229z ?_;refine .rz ?_;exact ⟨_,by omega,.v ⟨(j+1),⟨rfl,by omega⟩,rfl⟩ (hs:=t41)⟩
    intro e9 qe9;refine c100z ?_;have hpj:=fC (hpn.2 _ (j7 (d:=iO) (l:=(p.funcs.getD i j9).params) (i:=j) (by omega)));refine .z ?_;refine u2z ?_ ?_
    ·intro e11 qe11;refine .c7 [1,3,7,8,9] ?_;refine c2z ?_;refine c229z ?_;refine .rz ?_;exact ⟨_,by omega,.v ⟨(j+1),⟨rfl,by omega⟩,rfl⟩ (hs:=t41)⟩
    intro e11 qe11;refine .sk ?_;refine .c7 [1,3,7,8,9] ?_;refine c229z ?_;refine .rz ?_;exact ⟨_,by omega,.v ⟨(j+1),⟨rfl,by omega⟩,rfl⟩ (hs:=t41)⟩
   intro e8 qe8;refine .exit ?_;obtain rfl:j=(p.funcs.getD i j9).params.length:=by omega
   change g7 ..;have htab:iD.size=1:=rfl;have hbs:=(kE (hp.toGH.genv hfm) (p.funcs.getD i j9).body _ iD ByteArray.empty 0 (hp.toGH.VZ hfm) hbd.1 (by omega) F0 Cl.nil).2;have he0:ByteArray.empty.size=0:=rfl;refine c99z ?_;refine .ca rfl rfl (GB (hp.toGH.genv hfm) 1000 _ (by omega) (Nat.le_refl _) _ iD (GX hp.toGH hfm) hbd.1 (by omega) F0 _) ?_;refine c30z ?_;refine .c7 [1,3,7] ?_;refine .rz ?_;exact ⟨_,by omega,.v ⟨(i+1),⟨rfl,by omega⟩,rfl⟩ (he:=t33)⟩
  intro e7 qe7;refine .exit ?_;obtain rfl:i=p.funcs.length:=by omega
  change g7 ..;refine .z ?_;exact .ret (.ex (hq:=by rfl))
theorem c_valid (hp:GP p):CB 46 [.agg [.vec p.globals.length (s7 p.globals),.vec p.c5.length (j6 p.c5),.vec p.funcs.length (p9 p.funcs)]] h (.bool true):=by
  refine .bz Tryz.f46 140 ?_;have hgl0:=hp.gl;have hml0:=hp.ml;have hfl0:=hp.fl;refine c20z ?_;refine c34z ?_;refine .spl 16 rfl rfl (fun e1=>by exfalso;have q:=fact e1;omega) (fun e1=>?_);try simp only[e1]
  have qe1:=fact e1;refine .k 6 [(4,16)] ?_;refine .spl 22 rfl rfl (fun e2=>by exfalso;have q:=fact e2;omega) (fun e2=>?_);try simp only[e2]
  have qe2:=fact e2;refine .m [(10,22)] ?_;refine uFbz ?_;intro e3 qe3;refine c100z ?_;refine .c7 [1] ?_;refine c29z ?_;refine .jZ (fun m st=>∃(i:Nat),(m=p.globals.length-i∧i≤p.globals.length)∧st=⟨mkS 140 [(1,AV.ptr h.length 0 0),(3,AV.int .i64 ((i:Nat):Int))],h++[⟨0,false,27,3,[.vec p.globals.length (s7 p.globals),.vec p.c5.length (j6 p.c5),.vec p.funcs.length (p9 p.funcs)],0⟩]⟩) _ (.v ⟨0,⟨rfl,by omega⟩,rfl⟩) ?_;rintro m sl h' ⟨i,⟨hm,hi⟩,hst⟩;obtain ⟨rfl,rfl⟩:=St.mk.inj hst;refine c1z ?_;refine u2z ?_ ?_
  ·intro e4 qe4;refine c9z ?_;have hgi:=(hp.gn i (by omega)).2;have hgr:tP (p.globals.getD i mE).name=false:=by rw[(hp.gn i (by omega)).1];exact FY i (by omega)
   refine c126z ?_;refine .ca rfl rfl (nB _ (hp.toGH.EO (j7 (d:=mE) (l:=p.globals) (i:=i) (by omega))) hgr) ?_;refine .k 8 [(8,43)] ?_;refine .m [(8,43)] ?_;refine uFbz ?_;intro e5 qe5;refine c8z ?_;refine .c7 [1,3] ?_;refine .rz ?_;exact ⟨_,by omega,.v ⟨(i+1),⟨rfl,by omega⟩,rfl⟩⟩
  intro e4 qe4;refine c10z ?_;refine c7z ?_;refine .aW (fun m st=>∃(i:Nat),(m=p.c5.length-i∧i≤p.c5.length)∧st=⟨mkS 140 [(1,AV.ptr h.length 0 0),(4,AV.int .i64 ((i:Nat):Int))],h++[⟨0,false,27,3,[.vec p.globals.length (s7 p.globals),.vec p.c5.length (j6 p.c5),.vec p.funcs.length (p9 p.funcs)],0⟩]⟩) (.v ⟨0,⟨rfl,by omega⟩,rfl⟩) ?_;rintro m sl h' ⟨i,⟨hm,hi⟩,hst⟩;obtain ⟨rfl,rfl⟩:=St.mk.inj hst;clear hst;refine c1z ?_;refine u2z ?_ ?_
  ·intro e6 qe6;refine c9z ?_;have hmi:=(hp.mn i (by omega)).2;have hmr:tP (p.c5.getD i dC).name=false:=by rw[(hp.mn i (by omega)).1];exact FZ i (by omega)
   refine .z ?_;refine .c7 [1,4,5] ?_;refine c39z ?_;refine .ca rfl rfl (nB _ (hp.toGH.MQ (j7 (d:=dC) (l:=p.c5) (i:=i) (by omega))) hmr) ?_;refine .k 7 [(4,68)] ?_;refine .spl 73 rfl rfl (fun e7=>by exfalso;have q:=fact e7;omega) (fun e7=>?_);try simp only[e7]
   have qe7:=fact e7;refine .k 5 [(9,73)] ?_;refine .spl 78 rfl rfl (fun e8=>by exfalso;have q:=fact e8;omega) (fun e8=>?_);try simp only[e8]
   have qe8:=fact e8;refine .k 3 [(14,78)] ?_;refine .spl 81 rfl rfl (fun e9=>?_) (fun e9=>?_)
   ·try simp only[e9]
    have qe9:=fact e9;refine .m [(14,78),(17,81)] ?_;refine .spl 86 rfl rfl (fun e10=>by exfalso;have q:=fact e10;have:=hmi.2.2 (by assumption);omega) (fun e10=>?_);try simp only[e10]
    have qe10:=fact e10;refine c47z ?_;refine .c7 [1,4] ?_;refine .rz ?_;exact ⟨_,by omega,.v ⟨(i+1),⟨rfl,by omega⟩,rfl⟩ (he:=t33)⟩
   try simp only[e9]
   have qe9:=fact e9;refine .m [(14,78),(17,81)] ?_;refine c47z ?_;refine .c7 [1,4] ?_;refine .rz ?_;exact ⟨_,by omega,.v ⟨(i+1),⟨rfl,by omega⟩,rfl⟩ (he:=t33)⟩
  intro e6 qe6;refine c10z ?_;refine c7z ?_;refine .aW (fun m st=>∃(i:Nat),(m=p.funcs.length-i∧i≤p.funcs.length)∧st=⟨mkS 140 [(1,AV.ptr h.length 0 0),(6,AV.int .i64 ((i:Nat):Int))],h++[⟨0,false,27,3,[.vec p.globals.length (s7 p.globals),.vec p.c5.length (j6 p.c5),.vec p.funcs.length (p9 p.funcs)],0⟩]⟩) (.v ⟨0,⟨rfl,by omega⟩,rfl⟩) ?_;rintro m sl h' ⟨i,⟨hm,hi⟩,hst⟩;obtain ⟨rfl,rfl⟩:=St.mk.inj hst;clear hst;refine c1z ?_;refine u2z ?_ ?_
  ·intro e11 qe11;refine c9z ?_;have hfm:=j7 (d:=j9) (l:=p.funcs) (i:=i) (by omega);have hfn:=fC (hp.toGH.EP hfm);have hpn:=hp.toGH.pU hfm;have hbd:=hp.body i (by omega);have hwt:=N7 (l:=p.funcs) (i:=i) (by omega);have hww:=hp.wt;have hlw:=dQ (p.funcs.getD i j9).body;have hfr:tP (p.funcs.getD i j9).name=false:=by rw[(hp.fn i (by omega)).1];exact GA i (by omega)
   refine c20z ?_;refine .c7 [1,6,7] ?_;refine c39z ?_;refine .ca rfl rfl (nB _ (hp.toGH.EP hfm) hfr) ?_;refine .k 8 [(4,103)] ?_;refine .spl 109 rfl rfl (fun e12=>by exfalso;have q:=fact e12;omega) (fun e12=>?_);try simp only[e12]
   have qe12:=fact e12;refine .k 2 [(10,109)] ?_;refine .ca rfl rfl (c_okS (hp.toGH.genv hfm) (GHgres hp.toGH hfm) 1000 _ (by omega) (Nat.le_refl _) _ 0 (GX hp.toGH hfm) hbd.1 (by omega) (by omega) _) ?_;refine .m [(10,109)] ?_;refine c14z ?_;refine .c7 [1,6,7] ?_;refine c29z ?_;refine .jZ (fun m st=>∃(j:Nat),(m=(p.funcs.getD i j9).params.length-j∧j≤(p.funcs.getD i j9).params.length)∧st=⟨mkS 140 [(1,AV.ptr h.length 0 0),(6,AV.int .i64 ((i:Nat):Int)),(7,AV.ptr (h.length+1) 0 0),(8,AV.int .i64 ((j:Nat):Int))],h++[⟨0,false,27,3,[.vec p.globals.length (s7 p.globals),.vec p.c5.length (j6 p.c5),.vec p.funcs.length (p9 p.funcs)],0⟩,⟨0,false,122,3,[.str (p.funcs.getD i j9).name,.vec (p.funcs.getD i j9).params.length (z9 (p.funcs.getD i j9).params),.vec (p.funcs.getD i j9).body.len (s3 (p.funcs.getD i j9).body)],0⟩]⟩) _ (.v ⟨0,⟨rfl,by omega⟩,rfl⟩) ?_;rintro m sl h' ⟨j,⟨hm,hj⟩,hst⟩;obtain ⟨rfl,rfl⟩:=St.mk.inj hst;refine c1z ?_;refine u2z ?_ ?_
   ·intro e13 qe13;refine c9z ?_;refine c126z ?_;refine .ca rfl rfl (nB _ (hpn.2 _ (j7 (d:=iO) (l:=(p.funcs.getD i j9).params) (i:=j) (by omega))) (GW hp.toGH hfm _ (j7 (d:=iO) (l:=(p.funcs.getD i j9).params) (i:=j) (by omega)))) ?_;refine .n ?_;refine c47z ?_;refine .c7 [1,6,7,8] ?_;refine .rz ?_;exact ⟨_,by omega,.v ⟨(j+1),⟨rfl,by omega⟩,rfl⟩⟩
   intro e13 qe13;refine c10z ?_;refine .rz ?_;exact ⟨_,by omega,.v ⟨(i+1),⟨rfl,by omega⟩,rfl⟩ (he:=t33)⟩
  intro e11 qe11;refine c10z ?_;have htx:=txtP_ok hp;refine c115z ?_;refine .ca rfl rfl (c_progT hp) ?_;refine .e 1 ?_;refine .ca rfl rfl (c_lexB htx.1 htx.2) ?_;refine .n ?_;refine .c7 [11] ?_;refine .z ?_;exact .ret (.ex (hq:=by rfl))
end Go.Proofs.YtapdldekgbbomaaGreatDoor
end
section
namespace Go.Proofs.YtapdldekgbbomaaGreatDoor
open Go.Ab Go.Un
def sc1:AV→AV
  | .bool b=>.bool b
  | .int k n=>.int k n
  | .str s=>.str s
  | _=>.any
def sc2:AV→AV
  | .agg cs=>.agg (cs.map sc1)
  | x=>sc1 x
def YO:AV→AV
  | .tup xs=>.tup (xs.map sc2)
  | x=>sc2 x
section
variable {h1 h2:c8}{φ1 φ2:Map}{w:World}{v:Value}{x:AV}
theorem GZ (r:Rel h1 φ1 w v x):Rel h2 φ2 w v (sc1 x):=by
  unfold sc1;split
  · cases r.bI;exact .bN _
  · cases r.z6;exact .bP _ _
  · cases r.eG;exact .pA _
  · exact .jE _
theorem HA (r:Rel h1 φ1 w v x):Rel h2 φ2 w v (sc2 x):=by
  unfold sc2;split
  · rename_i cs
    obtain ⟨a,rfl,ha,hc,hr⟩:=r.jD;refine .agg a _ (by simp[ha]) hc fun j u z hu hz=>?_;rw[List.getElem?_map]at hz;obtain ⟨y,hy,rfl⟩:=Option.map_eq_some_iff.1 hz;exact GZ (hr j u y hu hy)
  · exact GZ r
theorem HB (r:Rel h1 φ1 w v x):Rel h2 φ2 w v (YO x):=by
  unfold YO;split
  · rename_i xs
    obtain ⟨a,rfl,ha,hr⟩:=r.mR;refine .tup a _ (by simp[ha]) fun j u z hu hz=>?_;rw[List.getElem?_map]at hz;obtain ⟨y,hy,rfl⟩:=Option.map_eq_some_iff.1 hz;exact HA (hr j u y hu hy)
  · exact HA r
end
variable {h:c8}
theorem borrowD {f:FuncId}{args args':List AV}{x:AV}(ha:KB 0 h args' args)(r:l6 Tryz.prog cfg f args' (bJ 0 h) fun y _=>y=x):l6 Tryz.prog cfg f args h fun y k=>y=YO x∧k=h:=by
  intro B φ w cargs i hs hr;obtain ⟨i',_⟩:=yL 0 i;obtain ⟨k1,k2⟩:=ha.get;refine (r B φ w cargs i' t214 fun j v y h1 h2=>?_).mono fun e w' hp=>?_
  · have hj:j<args.length:=by rw[←k1];exact (List.getElem?_eq_some_iff.1 h2).1
    have e1:args'.getD j .any=y:=by simp[List.getD,h2]
    have e2:args.getD j .any=args[j]:=by simp[List.getD,hj]
    rcases k2 j with h | h
    · rw[e1]at h
      rw[h];exact .jE _
    · rw[e1,e2]at h
      exact yM i 0 h (hr j v _ h1 (List.getElem?_eq_getElem hj))
  · obtain ⟨v,y,h',φ',rfl,h1,h2,h3,rfl⟩:=hp
    have hfree:∀k,k<w.heap.size→J2 (bJ 0 h) φ w k:=fun k hk=>⟨hk,fun β b hb hv=>by
      rcases dA hb with ⟨hn,_⟩ | ⟨_,b',_,rfl⟩
      · omega
      · cases hv⟩
    have hk:∀k,k<w.heap.size→w'.heap[k]?=w.heap[k]?:=fun k hk=>(h2.fJ k (hfree k hk)).1;have ev:Ev h φ w h φ w':=⟨h2.os,h2.tape,h2.output,h2.size,fun k hs=>⟨hk k hs.1,Nat.lt_of_lt_of_le hs.1 h2.size,hs.2⟩,fun k j hs=>⟨World.cell?_of_block (hk k hs.1),Nat.lt_of_lt_of_le hs.1 h2.size,hs.2⟩,Nat.le_refl _,fun β b b' e1 e2=>by rw[e1]at e2;cases e2;exact ⟨Nat.le_refl _,fun _=>⟨rfl,rfl,rfl⟩⟩⟩;refine ⟨v,_,h,φ,rfl,⟨fun β b hb hv=>?_,i.inj,i.base,i.cL,Nat.le_trans i.room h2.size,fun g=>ev.B6 (i.eK g)⟩,ev,HB h3,rfl,rfl⟩;obtain ⟨cur,q1,q2,q3,q4⟩:=i.blk β b hb hv;exact ⟨cur,(hk _ (Array.getElem?_eq_some_iff.1 q1).1).trans q1,q2,q3,fun j v x a d=>⟨(q4 j v x a d).1,ev.rel (q4 j v x a d).2⟩⟩
variable {g n:Nat}
theorem zY {H:c8}{β:Nat}{l:List Ent}{x:BA}(hb:H[β]?=some (p8 131 3 g (l4 l)))(hn:l.length=n)(hl:l.length<1000000)(hf:cB l x=none):CB 48 [.own β g 0 n,.str x] H (.tup [.agg [.str ByteArray.empty,.int .i64 0,.int .i64 0],.bool false]):=by subst hn;have e:LU 0 H (.own β g 0 l.length)=some (.vec l.length (l4 l)):=eN hb (Nat.zero_le _) (by rw[u7];omega) (by omega) ((rP l).frz _ _ _);have ha:KB 0 H [.vec l.length (l4 l),.str x] [.own β g 0 l.length,.str x]:=And.intro (.inr e) (And.intro (.inr rfl) trivial);exact borrowD ha ((GJ hf hl).mono fun _ _ h=>h.1)
variable {p:Go.Un.Pg}
theorem qF:(bA p).length=p.globals.length+(p.c5.length+p.funcs.length):=by simp[bA]
variable {i:Nat}
theorem PC (h:i<(bA p).length):(bA p).getD i kD=if i<p.globals.length then ⟨(p.globals.getD i mE).name,1,(i:Int)⟩ else if i-p.globals.length<p.c5.length then ⟨(p.c5.getD (i-p.globals.length) dC).name,2,((i-p.globals.length:Nat):Int)⟩ else ⟨(p.funcs.getD (i-p.globals.length-p.c5.length) j9).name,3,((i-p.globals.length-p.c5.length:Nat):Int)⟩:=by
  rw[qF]at h;unfold bA;rw[List.getD_eq_getElem?_getD];by_cases h1:i<p.globals.length
  · rw[if_pos h1,List.getElem?_append_left t157]
    simp[h1]
  · rw[if_neg h1,List.getElem?_append_right (by simpa using Nat.le_of_not_lt h1)]
    simp only[List.length_map,List.length_range];by_cases h2:i-p.globals.length<p.c5.length
    · rw[if_pos h2,List.getElem?_append_left t132]
      simp[h2]
    · rw[if_neg h2,List.getElem?_append_right (by simpa using Nat.le_of_not_lt h2)]
      simp only[List.length_map,List.length_range];have h3:i-p.globals.length-p.c5.length<p.funcs.length:=by omega
      simp[h3]
theorem HC (h:i<(bA p).length):(bA p).getD i kD=if i<p.globals.length then ⟨(p.globals.getD i mE).name,1,(i:Int)⟩ else if (i:Int)-p.globals.length<p.c5.length then ⟨(p.c5.getD ((i:Int)-p.globals.length).toNat dC).name,2,(i:Int)-p.globals.length⟩ else ⟨(p.funcs.getD ((i:Int)-p.globals.length-p.c5.length).toNat j9).name,3,(i:Int)-p.globals.length-p.c5.length⟩:=by
  rw[PC h];by_cases h1:i<p.globals.length
  · rw[if_pos h1,if_pos h1]
  · rw[if_neg h1,if_neg h1,show ((i:Int)-p.globals.length).toNat=i-p.globals.length from by omega,show ((i:Int)-p.globals.length-p.c5.length).toNat=i-p.globals.length-p.c5.length from by omega]
    by_cases h2:i-p.globals.length<p.c5.length
    · rw[if_pos h2,if_pos (by omega),show ((i-p.globals.length:Nat):Int)=(i:Int)-p.globals.length from by omega]
    · rw[if_neg h2,if_neg (by omega),show ((i-p.globals.length-p.c5.length:Nat):Int)=(i:Int)-p.globals.length-p.c5.length from by omega]
theorem HD {l:List Ent}(hn:(l.map (·.name)).Nodup)(hi:i<l.length):cB (l.take i) (l.getD i kD).name=none:=by
  refine uZ fun h=>?_;obtain ⟨e,he,hx⟩:=List.mem_map.1 h;obtain ⟨j,hj,rfl⟩:=List.mem_iff_getElem.1 he;simp only[List.length_take]at hj;have hjl:j<l.length:=by omega
  simp only[List.getElem_take]at hx;have e1:l.getD i kD=l[i]:=by simp[List.getD,hi]
  rw[e1]at hx;have:=(List.pairwise_iff_getElem.1 hn) j i (by simpa using hjl) (by simpa using hi) (by omega);simp only[List.getElem_map]at this;exact this hx
theorem xE (h:GP p):((bA p).map (·.name)).Nodup:=by have h1:=(vB h.toGH (i:=0) (by have:=h.fl;omega)).nodup vA;rw[List.map_append]at h1;exact (List.nodup_append.1 h1).1
theorem takeD {l:List Ent}(h:i<l.length):l.take (i+1)=l.take i++[l.getD i kD]:=by rw[List.take_add_one];simp[List.getD,h]
theorem G8 {l:List Ent}{x:Ent}:l4 (l++[x])=l4 l++[.str x.name,.int .i64 x.kind,.int .i64 x.n]:=by simp[l4,jH]
variable {b0 b2 b3:Blk}{es:List Ent}
theorem app_ent {l:c8}{x:BA}{k m:Int}(hn:es.length=n)(hl:n<100000):j5 cfg 131 (h++(b0::p8 131 3 g (l4 es)::b2::b3::⟨0,false,131,3,[.str x,.int .i64 k,.int .i64 m],0⟩::l)) (.own (h.length+1) g 0 n) (.own (h.length+4) 0 0 1)=some (.own (h.length+1) (g+1) 0 (n+1),h++(b0::p8 131 3 (g+1) (l4 (es++[⟨x,k,m⟩]))::b2::b3::⟨0,false,131,3,[.str x,.int .i64 k,.int .i64 m],0⟩::l)):=by subst hn;rw[aC (C:=cfg) (K:=3) (m:=1) (new:=[.str x,.int .i64 k,.int .i64 m]) (zs:=l4 es) t30 rfl (by omega) (by rw[u7];omega) rfl (by omega) t205 rfl (by decide) (by omega),G8,n7];rfl
theorem PD {l:List Gl}(h:i<l.length):List.take 1 (List.drop (i*2) (s7 l))=[.str (l.getD i mE).name]:=B2 AQ 2 0 (fun _=>rfl) (by omega) mE h
theorem PE {l:List Mx}(h:i<l.length):List.take 1 (List.drop (i*3) (j6 l))=[.str (l.getD i dC).name]:=B2 MD 3 0 (fun _=>rfl) (by omega) dC h
theorem PF {l:List Fu}(h:i<l.length):List.take 1 (List.drop (i*3) (p9 l))=[.str (l.getD i j9).name]:=B2 eO 3 0 (fun _=>rfl) (by omega) j9 h
attribute [local go_sem] rd u7 p7 bT dB w6 bE gD dU q9 bO aZ n6 bV Int.natCast_nonneg Int.natCast_inj List.length_map wrap64 gJ jT jU T8 F3 L9 T9 qS max2 fP dG bW Nat.reduceMul nR kM aN jH qB lR vN PD PE PF app_ent
theorem c_decl (hp:GP p):CB 47 [.agg [.vec p.globals.length (s7 p.globals),.vec p.c5.length (j6 p.c5),.vec p.funcs.length (p9 p.funcs)]] h (.tup [.vec (bA p).length (l4 (bA p)),.int .i64 (-1)]):=by
  refine .bz Tryz.f47 94 ?_;have hdl:=qF (p:=p);have hnd:=xE hp;have hgl:=hp.gl;have hml:=hp.ml;have hfl:=hp.fl;refine c184z ?_;refine c61z ?_;refine .e 8 ?_;refine c44z ?_;refine .c7 [1,4,5,6] ?_;refine c29z ?_;refine g7.yU 4 rfl ?_;refine .aW (fun m st=>∃(i:Nat),(m=(bA p).length-i∧i≤(bA p).length)∧st=⟨mkS 94 [(1,AV.ptr h.length 0 0),(4,AV.own (h.length+1) i 0 i),(5,AV.int .i64 (-1)),(6,AV.int .i64 ((bA p).length:Int)),(7,AV.int .i64 ((i:Nat):Int))],h++[⟨0,false,27,3,[.vec p.globals.length (s7 p.globals),.vec p.c5.length (j6 p.c5),.vec p.funcs.length (p9 p.funcs)],0⟩,p8 131 3 i (l4 ((bA p).take i))]⟩) (.v ⟨0,⟨rfl,by omega⟩,rfl⟩ (hs:=t65)) ?_;rintro m sl h' ⟨i,⟨hm,hi⟩,hst⟩;obtain ⟨rfl,rfl⟩:=St.mk.inj hst;clear hst;have htl:((bA p).take i).length=i:=by simp;omega
  refine c1z ?_;refine u2z ?_ ?_
  ·intro e1 qe1;refine c9z ?_;refine c20z ?_;have hat:=HC (p:=p) (i:=i) (by omega);have hfn:=HD hnd (i:=i) (by omega);refine c29z ?_;refine .c7 [1,4,5,6,7,8,9] ?_;refine .z ?_;refine u2z ?_ ?_
   ·intro e2 qe2;refine c217z ?_;refine .seq ?_;refine .c7 [1,4,5,6,7,8] ?_;rw[if_pos (by omega)]at hat;rw[hat]at hfn;refine c215z ?_;refine .n ?_;refine c241z ?_;refine c14z ?_;refine c2z ?_;refine .c7 [1,4,5,6,7] ?_;refine .rz ?_;exact ⟨_,by omega,.v ⟨(i+1),⟨rfl,by omega⟩,rfl⟩ (he:=t136) (hk:=t133) (hs:=t65)⟩
   intro e2 qe2;refine .z ?_;refine u2z ?_ ?_
   ·intro e3 qe3;refine .c7 [1,4,5,6,7,8,9] ?_;refine c217z ?_;refine .seq ?_;refine .c7 [1,4,5,6,7,8] ?_;rw[if_neg (by omega),if_pos (by omega)]at hat;rw[hat]at hfn;refine c215z ?_;refine .n ?_;refine c241z ?_;refine c14z ?_;refine c2z ?_;refine .c7 [1,4,5,6,7] ?_;refine .rz ?_;exact ⟨_,by omega,.v ⟨(i+1),⟨rfl,by omega⟩,rfl⟩ (he:=t136) (hk:=t133) (hs:=t65)⟩
   intro e3 qe3;refine .c7 [1,4,5,6,7,8,9] ?_;refine .so u9 (mkP 17 [0,1,0,0,8,24,60,127,255,511,0,0,2048,6144,15360,32767,65535] [16]) ?_;refine .k 8 [] ?_;refine .k 8 [] ?_;refine c74z ?_;refine .seq ?_;refine .c7 [1,4,5,6,7,8] ?_;rw[if_neg (by omega),if_neg (by omega)]at hat;rw[hat]at hfn;refine c215z ?_;refine .n ?_;refine c241z ?_;refine c14z ?_;refine c2z ?_;refine .c7 [1,4,5,6,7] ?_;refine .rz ?_;exact ⟨_,by omega,.v ⟨(i+1),⟨rfl,by omega⟩,rfl⟩ (he:=t136) (hk:=t133) (hs:=t65)⟩
  intro e1 qe1;refine .exit ?_;obtain rfl:i=(bA p).length:=by omega
  rw[List.take_length];refine g7.wT (t:=4) (γ:=h.length+1) (len:=(bA p).length) t30 (by rw[u7];omega) (by omega) (rP _) (rB (by decide) rfl) ?_;rw[cM];simp only[n7,List.set_cons_succ,List.set_cons_zero];change g7 ..;refine .z ?_;exact .ret (.ex (hq:=by rfl))
def s0F (p:Go.Un.Pg)(f:Fu):Sco:=⟨p,bA p++mF f.params 0 0,(gH f.params:Int),0,[],[]⟩
def s1F (p:Go.Un.Pg)(f:Fu):Sco:=dD (s0F p f).l (s0F p f) f.body
def s2F (p:Go.Un.Pg)(f:Fu):Sco:=r6 (s1F p f) ⟨8,0,false,n4,cI,[],[]⟩ (s1F p f).st
variable {a b c d:Blk}{s:Sco}{r:c8}
theorem PG:(h++(a::b::c::d::aN (h.length+4) s::p8 105 12 (s).code.length (r8 (s).code)::p8 3 1 (s).sites.length (l5 (s).sites)::r))=hT ⟨h++[a,b,c,d],r⟩ (aN (h.length+4) s) s.code s.sites:=by simp[hT]
theorem hF_k:Frm.k ⟨h++[a,b,c,d],r⟩=h.length+4:=by simp[Frm.k]
theorem PH {E:Env}{cx:Ctx}{S:Sl}(hw:S.wt≤1000){vars:List BA}(sc:SC E cx vars s.l)(hG:GS E S vars)(bd:Bd E cx s.p)(B:Bnd s S.wt):CH 71 [.ptr (h.length+4) 0 0,.vec S.len (s3 S)] (h++(a::b::c::d::aN (h.length+4) s::p8 105 12 (s).code.length (r8 (s).code)::p8 3 1 (s).sites.length (l5 (s).sites)::r)) (.tup []) (h++(a::b::c::d::aN (h.length+4) (dD s.l s S)::p8 105 12 ((dD s.l s S)).code.length (r8 ((dD s.l s S)).code)::p8 3 1 ((dD s.l s S)).sites.length (l5 ((dD s.l s S)).sites)::r)):=by have:=V7 1000 S hw (Nat.le_refl _) vars s sc hG bd B ⟨h++[a,b,c,d],r⟩;rw[hF_k,←PG,←PG]at this;exact this
theorem c_putF (hc:s.code.length<10000)(hs:s.sites.length<10000)(i:Ins)(t:Int){zs:List AV}(hz:oY (eZ i) zs):CH 72 [.ptr (h.length+4) 0 0,.agg zs,.int .i64 t] (h++(a::b::c::d::aN (h.length+4) s::p8 105 12 (s).code.length (r8 (s).code)::p8 3 1 (s).sites.length (l5 (s).sites)::r)) (.int .i64 ((s.code.length:Nat):Int)) (h++(a::b::c::d::aN (h.length+4) (r6 s i t)::p8 105 12 ((r6 s i t)).code.length (r8 ((r6 s i t)).code)::p8 3 1 ((r6 s i t)).sites.length (l5 ((r6 s i t)).sites)::r)):=by have:=nE (e:=⟨h++[a,b,c,d],r⟩) hc hs i t hz;rw[hF_k,←PG,←PG]at this;exact this
variable {b1:Blk}
theorem app_cpF {l:c8}(hz:es.length=n)(h0:0<n)(hn:n<1000):j5 cfg 131 (h++(b0::b1::b2::⟨0,false,131,3,[],0⟩::l)) (.own (h.length+3) 0 0 0) (.vec n (l4 es))=some (.own (h.length+3) 1 0 n,h++(b0::b1::b2::⟨1,false,131,3,l4 es,0⟩::l)):=by
  subst hz;have e1:cfg.sz 131=3:=rfl;have e2:(cfg.ti 131).bytes=32:=rfl;have hm:es.length≤maxLen:=by
    have:(1000:Nat)≤maxLen:=by decide
    omega
  have hb:es.length*32≤140737488355328:=by omega
  have h1:(l4 es).length=es.length*3:=by rw[u7];omega
  have h2:¬es.length=0:=by omega
  have h3:¬es.length*3=0:=by omega
  simp[j5,rd,lenOf,e1,e2,h1,hm,hb,o7,n7,h0,h2,h3]
variable {b4:Blk}
theorem app_onF {b5 b6 b7 b8:Blk}{l:c8}{x:BA}{k m:Int}(hz:es.length=n)(hn:n<1000):j5 cfg 131 (h++(b0::b1::b2::⟨g,false,131,3,l4 es,0⟩::b4::b5::b6::b7::b8::⟨0,false,131,3,[.str x,.int .i64 k,.int .i64 m],0⟩::l)) (.own (h.length+3) g 0 n) (.own (h.length+9) 0 0 1)=some (.own (h.length+3) (g+1) 0 (n+1),h++(b0::b1::b2::⟨g+1,false,131,3,l4 (es++[⟨x,k,m⟩]),0⟩::b4::b5::b6::b7::b8::⟨0,false,131,3,[.str x,.int .i64 k,.int .i64 m],0⟩::l)):=by
  subst hz;have e1:cfg.sz 131=3:=rfl;have e2:(cfg.ti 131).bytes=32:=rfl;have hm:es.length+1≤maxLen:=by
    have:(1001:Nat)≤maxLen:=by decide
    omega
  have hb:(es.length+1)*32≤140737488355328:=by omega
  have h1:(l4 es).length=es.length*3:=by rw[u7];omega
  have ht:List.take (es.length*3) (l4 es)=l4 es:=List.take_of_length_le (by omega);have hnl:¬(es.length+1)*3≤es.length*3:=by omega
  have hs:l4 (es++[⟨x,k,m⟩])=l4 es++[.str x,.int .i64 k,.int .i64 m]:=by simp[l4,jH]
  simp[j5,rd,lenOf,e1,e2,h1,hm,hb,ht,hnl,o7,n7,hs]
theorem qG:∀{l:List Pm} {x:Pm} {a b:Nat},mF (l++[x]) a b=mF l a b++[if x.mu then ⟨x.name,5,((b+bM l:Nat):Int)⟩ else ⟨x.name,4,((a+gH l:Nat):Int)⟩]
  | [],x,a,b=>by simp[mF,bM,gH];split<;>rfl
  | y::l,x,a,b=>by
    simp only[List.cons_append,mF];cases hy:y.mu with
    | true=>
      simp only[if_true,qG (l:=l),List.cons_append,bM,gH,List.filter_cons,hy,Bool.not_true,Bool.false_eq_true,if_false,List.length_cons];rw[show b+1+(l.filter fun x=>x.mu).length=b+((l.filter fun x=>x.mu).length+1) from by omega]
    | false=>
      simp only[Bool.false_eq_true,if_false,qG (l:=l),List.cons_append,bM,gH,List.filter_cons,hy,Bool.not_false,if_true,List.length_cons];rw[show a+1+(l.filter fun x=>!x.mu).length=a+((l.filter fun x=>!x.mu).length+1) from by omega]
variable {l:List Pm}
theorem V9 {a b:Nat}:(mF l a b).length=l.length:=by have:=congrArg List.length (jA l a b);simpa using this
theorem W0:gH l≤l.length:=List.length_filter_le _ _
theorem rR (h:i<l.length):l.take (i+1)=l.take i++[l.getD i iO]:=by rw[List.take_add_one];simp[List.getD,h]
theorem xF {x:Pm}:gH (l++[x])=gH l+(if x.mu then 0 else 1):=by simp only[gH,List.filter_append,List.length_append];cases h:x.mu<;>simp[h]
theorem vS {x:Pm}:bM (l++[x])=bM l+(if x.mu then 1 else 0):=by simp only[bM,List.filter_append,List.length_append];cases h:x.mu<;>simp[h]
theorem drop_pm (hi:i<l.length):l.drop i=l.getD i iO::l.drop (i+1):=by rw[List.drop_eq_getElem_cons hi];simp[List.getD,hi]
theorem findP (hp:GP p){j:Nat}(hj:j<p.funcs.length)(hi:i<(p.funcs.getD j j9).params.length):cB (bA p++mF ((p.funcs.getD j j9).params.take i) 0 0) ((p.funcs.getD j j9).params.getD i iO).name=none:=by
  have hn:=(vB hp.toGH hj).nodup vA;rw[List.map_append,jA]at hn;have hs:((p.funcs.getD j j9).params.map (·.name))=(((p.funcs.getD j j9).params.take i).map (·.name))++((p.funcs.getD j j9).params.getD i iO).name::(((p.funcs.getD j j9).params.drop (i+1)).map (·.name)):=by
    have h1:(p.funcs.getD j j9).params=(p.funcs.getD j j9).params.take i++((p.funcs.getD j j9).params.getD i iO::(p.funcs.getD j j9).params.drop (i+1)):=by have h2:=drop_pm hi;rw[←h2,List.take_append_drop]
    have h3:=congrArg (List.map (fun x:Pm=>x.name)) h1;rw[List.map_append,List.map_cons]at h3;exact h3
  rw[hs,←List.append_assoc]at hn;refine uZ fun hm=>?_;rw[List.map_append,jA]at hm;exact (List.nodup_append.1 hn).2.2 _ hm _ (by simp) rfl
theorem bd_of (hp:GP p){f:Fu}:Bd (ML p f) (ctxP p f) p:=⟨rfl,rfl,rfl,fun x hx=>by obtain ⟨g,hg,rfl⟩:=List.mem_map.1 hx;exact (hp.toGH.pU hg).1⟩
theorem PJ (h:i<l.length):List.take 1 (List.drop (i*2) (z9 l))=[.str (l.getD i iO).name]:=B2 AP 2 0 (fun _=>rfl) (by omega) iO h
section
attribute [local go_sem] app_cpF app_onF zV vO vP zW zX rM nT PJ
theorem c_func (hp:GP p){j:Nat}(hj:j<p.funcs.length):CB 49 [.agg [.vec p.globals.length (s7 p.globals),.vec p.c5.length (j6 p.c5),.vec p.funcs.length (p9 p.funcs)],.vec (bA p).length (l4 (bA p)),.agg (eO (p.funcs.getD j j9))] h (.tup [.agg (uW (nZ p (p.funcs.getD j j9))),.vec (s2F p (p.funcs.getD j j9)).sites.length (l5 (s2F p (p.funcs.getD j j9)).sites),.int .i64 0,.int .i64 0]):=by
  unfold eO;refine .bz Tryz.f49 136 ?_;have hdl:=qF (p:=p);have hgl:=hp.gl;have hml:=hp.ml;have hfl:=hp.fl;have hpn:=(hp.toGH.pU (j7 (d:=j9) hj)).1;have hbd:=hp.body j hj;have hwt:=N7 (l:=p.funcs) hj;have hww:=hp.wt;refine .z ?_;refine .sg u9 (mkH 7 [0,0,0,6,15,31,63] [1,3,5] [] [0,2,10,42] [0]) 0 ?_;refine .rm [true] ?_;refine .en [true] [2,0] [_] ?_;refine .p 1 ?_;refine .en [true,false] [10,2,0] [_] ?_;refine .p 1 ?_;refine .en [true,false,false] [42,10,2,0] [_] ?_;refine .p 1 ?_;refine .po [false,true,true,true] ?_;refine z4.nil rfl ?_;refine .c7 [5,6,10] ?_;refine g7.mL (β:=h.length+4) (k:=8) t30 rfl ?_;simp only[List.append_assoc,List.cons_append,List.nil_append,o7,n7,List.set_cons_succ,List.set_cons_zero,List.length_append,List.length_cons,List.length_nil,Nat.reduceAdd,Nat.zero_add];refine g7.mL (β:=h.length+4) (k:=9) t30 rfl ?_;simp only[List.append_assoc,List.cons_append,List.nil_append,o7,n7,List.set_cons_succ,List.set_cons_zero,List.length_append,List.length_cons,List.length_nil,Nat.reduceAdd,Nat.zero_add];refine c26z ?_;refine .aW (fun m st=>∃(i:Nat),(m=(p.funcs.getD j j9).params.length-i∧i≤(p.funcs.getD j j9).params.length)∧st=⟨mkS 136 [(5,AV.ptr (h.length+1) 0 0),(6,AV.ptr (h.length+2) 0 0),(10,AV.ptr (h.length+4) 0 0),(11,AV.ptr (h.length+7) 0 0),(12,AV.int .i64 ((i:Nat):Int))],h++[⟨0,false,27,3,[.vec p.globals.length (s7 p.globals),.vec p.c5.length (j6 p.c5),.vec p.funcs.length (p9 p.funcs)],0⟩,⟨0,false,122,3,[.str (p.funcs.getD j j9).name,.vec (p.funcs.getD j j9).params.length (z9 (p.funcs.getD j j9).params),.vec (p.funcs.getD j j9).body.len (s3 (p.funcs.getD j j9).body)],0⟩,⟨0,false,108,5,[.str ByteArray.empty,.int .i64 0,.int .i64 0,.int .i64 0,.l7],0⟩,⟨1+i,false,131,3,l4 (bA p++mF ((p.funcs.getD j j9).params.take i) 0 0),0⟩,⟨0,false,161,10,[.vec p.globals.length (s7 p.globals),.vec p.c5.length (j6 p.c5),.vec p.funcs.length (p9 p.funcs),.own (h.length+3) (1+i) 0 ((bA p).length+i),.int .i64 0,.int .i64 0,.int .i64 0,.int .i64 0,.own (h.length+5) 0 0 0,.own (h.length+6) 0 0 0],0⟩,⟨0,true,0,0,[],0⟩,⟨0,true,0,0,[],0⟩,⟨0,false,108,5,[.str (p.funcs.getD j j9).name,.int .i64 ((gH ((p.funcs.getD j j9).params.take i):Nat):Int),.int .i64 ((bM ((p.funcs.getD j j9).params.take i):Nat):Int),.int .i64 0,.l7],0⟩]⟩) (.v ⟨0,⟨rfl,by omega⟩,rfl⟩) ?_ (he:=by (simp[mF,gH,bM]));rintro m sl h' ⟨i,⟨hm,hi⟩,hst⟩;obtain ⟨rfl,rfl⟩:=St.mk.inj hst;clear hst;have hLl:(bA p++mF ((p.funcs.getD j j9).params.take i) 0 0).length=(bA p).length+i:=by simp only[List.length_append,V9,List.length_take];omega
  have hpl:(mF ((p.funcs.getD j j9).params.take i) 0 0).length=i:=by simp only[V9,List.length_take];omega
  have hne:l4 (bA p++mF ((p.funcs.getD j j9).params.take i) 0 0)≠[]:=by intro h0;have:=congrArg List.length h0;rw[u7]at this;simp only[List.length_nil]at this;omega
  have hni:=W0 (l:=(p.funcs.getD j j9).params.take i);have hnl:=F2 (l:=(p.funcs.getD j j9).params.take i);rw[List.length_take]at hni hnl;refine c1z ?_;refine u2z ?_ ?_
  ·intro e1 qe1;refine c9z ?_;refine .seq ?_;have hfn:=findP hp hj (i:=i) (by omega);refine .sg u9 (mkH 17 [0,1,3,7,0,16,0,112,240,496,1023,2047,4095,4095,0,24575,65535] [10,14,15] [(14,0)] [0,1024,16384,17408,50176] [0,1,2,3,4,5,6,7,8,9,10,11,12,13]) 1 ?_;refine z4.aF t36 ?_;refine .p 3 ?_;refine c81z ?_;refine .p 3 ?_;refine .rm [true] ?_;refine .cm [true] [1024,0] [_] rfl rfl (by simp only[kA,and_true,List.cons_append,List.nil_append];exact zY t233 hLl (by omega) hfn) ?_;refine .p 3 ?_;refine .en [true,true] [17408,16384,1024,0] [_,_] ?_;refine .en [true,false,false,false] [50176,17408,16384,1024,0] [_] ?_;refine .p 1 ?_;refine z4.pop [false,false,true,false,true] (by kernel_rfl) (by simp only[pK,and_true,List.cons_append,List.nil_append];exact ⟨cD.s9 rfl rfl rfl rfl hb48 (zY t233 hLl (by omega) hfn) rfl,cD.s9 rfl rfl rfl rfl hb48 (zY t233 hLl (by omega) hfn) rfl⟩) ?_;refine c148z ?_;refine .po [false,false,true,false,true] ?_;refine z4.nil rfl ?_;refine .c7 [5,6,10,11,12,14] ?_;refine c11z ?_;refine c239z ?_;refine u2z ?_ ?_
   ·intro e2 qe2;refine .c7 [5,6,10,11,12] ?_;refine .sg u9 (mkH 19 [0,0,2,6,14,0,32,0,224,480,992,0,2048,8160,16352,32766,65535,131071,262143] [14,15,18] [] [0,16384,49152,311296] [0,1,2,3,4]) 0 ?_;refine .p 4 ?_;refine c96z ?_;refine c63z ?_;refine c203z ?_;refine c170z ?_;refine .p 2 ?_;refine .en [true,false,false] [311296,49152,16384,0] [_] ?_;refine c242z ?_;refine .c7 [5,6,10,11,12] ?_;refine c67z ?_;have hmu:((p.funcs.getD j j9).params.getD i iO).mu=true:=by simp_all
    have hs1:mF ((p.funcs.getD j j9).params.take (i+1)) 0 0=mF ((p.funcs.getD j j9).params.take i) 0 0++[⟨((p.funcs.getD j j9).params.getD i iO).name,5,((bM ((p.funcs.getD j j9).params.take i):Nat):Int)⟩]:=by rw[rR (by omega),qG,hmu];simp
    have hs2:gH ((p.funcs.getD j j9).params.take (i+1))=gH ((p.funcs.getD j j9).params.take i)+0:=by rw[rR (by omega),xF,hmu];rfl
    have hs3:bM ((p.funcs.getD j j9).params.take (i+1))=bM ((p.funcs.getD j j9).params.take i)+1:=by rw[rR (by omega),vS,hmu];rfl
    exact ⟨_,by omega,.v ⟨(i+1),⟨rfl,by omega⟩,rfl⟩ (he:=t160) (hk:=t95)⟩
   intro e2 qe2;refine .c7 [5,6,10,11,12] ?_;refine .sg u9 (mkH 19 [0,0,2,6,14,0,32,0,224,480,992,0,2048,8160,16352,32766,65535,131071,262143] [14,15,18] [] [0,16384,49152,311296] [0,1,2,3,4]) 0 ?_;refine .p 4 ?_;refine c96z ?_;refine c63z ?_;refine c203z ?_;refine c170z ?_;refine .p 2 ?_;refine .en [true,false,false] [311296,49152,16384,0] [_] ?_;refine c242z ?_;refine .c7 [5,6,10,11,12] ?_;refine c67z ?_;have hmu:((p.funcs.getD j j9).params.getD i iO).mu=false:=by simp_all
   have hs1:mF ((p.funcs.getD j j9).params.take (i+1)) 0 0=mF ((p.funcs.getD j j9).params.take i) 0 0++[⟨((p.funcs.getD j j9).params.getD i iO).name,4,((gH ((p.funcs.getD j j9).params.take i):Nat):Int)⟩]:=by rw[rR (by omega),qG,hmu];simp
   have hs2:gH ((p.funcs.getD j j9).params.take (i+1))=gH ((p.funcs.getD j j9).params.take i)+1:=by rw[rR (by omega),xF,hmu];rfl
   have hs3:bM ((p.funcs.getD j j9).params.take (i+1))=bM ((p.funcs.getD j j9).params.take i)+0:=by rw[rR (by omega),vS,hmu];rfl
   exact ⟨_,by omega,.v ⟨(i+1),⟨rfl,by omega⟩,rfl⟩ (he:=t160) (hk:=t95)⟩
  intro e1 qe1;refine .exit ?_;obtain rfl:i=(p.funcs.getD j j9).params.length:=by omega
  rw[List.take_length]at hLl hne ⊢;rw[←hLl];refine g7.uR (γ:=h.length+3) (β:=h.length+4) (k:=3) (off:=0) (len:=(bA p++mF (p.funcs.getD j j9).params 0 0).length) (cs:=l4 (bA p++mF (p.funcs.getD j j9).params 0 0)) t30 rfl (by simp only[u7];omega) (by rw[List.drop_zero,List.take_of_length_le (by simp only[u7];omega)];exact (rP _).KC) t30 (by omega) rfl ?_;refine c22z ?_;refine .z ?_;refine .c7 [5,6,10,11] ?_;refine g7.aF (h++[⟨0,false,27,3,[.vec p.globals.length (s7 p.globals),.vec p.c5.length (j6 p.c5),.vec p.funcs.length (p9 p.funcs)],0⟩,⟨0,false,122,3,[.str (p.funcs.getD j j9).name,.vec (p.funcs.getD j j9).params.length (z9 (p.funcs.getD j j9).params),.vec (p.funcs.getD j j9).body.len (s3 (p.funcs.getD j j9).body)],0⟩,⟨0,false,108,5,[.str ByteArray.empty,.int .i64 0,.int .i64 0,.int .i64 0,.l7],0⟩,dN ⟨1+(p.funcs.getD j j9).params.length,false,131,3,l4 (bA p++mF (p.funcs.getD j j9).params 0 0),0⟩ (0+(bA p++mF (p.funcs.getD j j9).params 0 0).length*3),aN (h.length+4) (s0F p (p.funcs.getD j j9)),p8 105 12 (s0F p (p.funcs.getD j j9)).code.length (r8 (s0F p (p.funcs.getD j j9)).code),p8 3 1 (s0F p (p.funcs.getD j j9)).sites.length (l5 (s0F p (p.funcs.getD j j9)).sites),⟨0,false,108,5,[.str (p.funcs.getD j j9).name,.int .i64 ((gH (p.funcs.getD j j9).params:Nat):Int),.int .i64 ((bM (p.funcs.getD j j9).params:Nat):Int),.int .i64 0,.l7],0⟩]) (by simp only[s0F,aN,List.length_append,Nat.zero_add];rfl) ?_;generalize dN ⟨1+(p.funcs.getD j j9).params.length,false,131,3,l4 (bA p++mF (p.funcs.getD j j9).params 0 0),0⟩ (0+(bA p++mF (p.funcs.getD j j9).params 0 0).length*3)=Lb;have hni2:=W0 (l:=(p.funcs.getD j j9).params);have hB0:Bnd (s0F p (p.funcs.getD j j9)) (p.funcs.getD j j9).body.wt:=⟨by show 0<(bA p++mF (p.funcs.getD j j9).params 0 0).length;omega,by show (bA p++mF (p.funcs.getD j j9).params 0 0).length+_≤_;omega,by show 0+_≤_;omega,by show 0+_≤_;omega,by show 0≤((gH (p.funcs.getD j j9).params:Nat):Int);omega,by show ((gH (p.funcs.getD j j9).params:Nat):Int)+_≤_;omega,Int.le_refl _,by show 0+_≤_;omega⟩;refine c17z ?_;refine .ch rfl rfl (PH (s:=(s0F p (p.funcs.getD j j9))) (by omega) (sc_of hp.toGH hj) hbd.1 (bd_of hp) hB0) ?_;refine .nil ?_;have hc1:=jJ (l0:=(s0F p (p.funcs.getD j j9)).l) (s:=(s0F p (p.funcs.getD j j9))) (S:=(p.funcs.getD j j9).body);have hc2:=jC (l0:=(s0F p (p.funcs.getD j j9)).l) (s:=(s0F p (p.funcs.getD j j9))) (S:=(p.funcs.getD j j9).body);change _≤(s1F p (p.funcs.getD j j9)).code.length∧(s1F p (p.funcs.getD j j9)).code.length≤0+_ at hc1;change _≤(s1F p (p.funcs.getD j j9)).sites.length∧(s1F p (p.funcs.getD j j9)).sites.length≤0+_ at hc2;refine g7.aF (h++[⟨0,false,27,3,[.vec p.globals.length (s7 p.globals),.vec p.c5.length (j6 p.c5),.vec p.funcs.length (p9 p.funcs)],0⟩,⟨0,false,122,3,[.str (p.funcs.getD j j9).name,.vec (p.funcs.getD j j9).params.length (z9 (p.funcs.getD j j9).params),.vec (p.funcs.getD j j9).body.len (s3 (p.funcs.getD j j9).body)],0⟩,⟨0,false,108,5,[.str ByteArray.empty,.int .i64 0,.int .i64 0,.int .i64 0,.l7],0⟩,Lb,aN (h.length+4) (s1F p (p.funcs.getD j j9)),p8 105 12 (s1F p (p.funcs.getD j j9)).code.length (r8 (s1F p (p.funcs.getD j j9)).code),p8 3 1 (s1F p (p.funcs.getD j j9)).sites.length (l5 (s1F p (p.funcs.getD j j9)).sites),⟨0,false,108,5,[.str (p.funcs.getD j j9).name,.int .i64 ((gH (p.funcs.getD j j9).params:Nat):Int),.int .i64 ((bM (p.funcs.getD j j9).params:Nat):Int),.int .i64 0,.l7],0⟩]) rfl ?_;refine c126z ?_;refine .ch rfl rfl (c_putF (s:=(s1F p (p.funcs.getD j j9))) (by omega) (by omega) ⟨8,0,false,n4,cI,[],[]⟩ _ (by repeat' (first | exact trivial | exact oY.refl _ | exact .inl rfl | exact .inr ⟨rfl,rfl⟩ | refine ⟨?_,?_⟩))) ?_;refine .nil ?_;refine .c7 [6,10,11,108] ?_;refine g7.aF (h++[⟨0,false,27,3,[.vec p.globals.length (s7 p.globals),.vec p.c5.length (j6 p.c5),.vec p.funcs.length (p9 p.funcs)],0⟩,⟨0,false,122,3,[.str (p.funcs.getD j j9).name,.vec (p.funcs.getD j j9).params.length (z9 (p.funcs.getD j j9).params),.vec (p.funcs.getD j j9).body.len (s3 (p.funcs.getD j j9).body)],0⟩,⟨0,false,108,5,[.str ByteArray.empty,.int .i64 0,.int .i64 0,.int .i64 0,.l7],0⟩,Lb,aN (h.length+4) (s2F p (p.funcs.getD j j9)),p8 105 12 (s2F p (p.funcs.getD j j9)).code.length (r8 (s2F p (p.funcs.getD j j9)).code),p8 3 1 (s2F p (p.funcs.getD j j9)).sites.length (l5 (s2F p (p.funcs.getD j j9)).sites),⟨0,false,108,5,[.str (p.funcs.getD j j9).name,.int .i64 ((gH (p.funcs.getD j j9).params:Nat):Int),.int .i64 ((bM (p.funcs.getD j j9).params:Nat):Int),.int .i64 0,.l7],0⟩]) rfl ?_;refine g7.pR (γ:=h.length+5) (β:=h.length+4) (k:=8) (len:=(s2F p (p.funcs.getD j j9)).code.length) t30 (by rw[w6];omega) (by omega) (SY _) t30 (by omega) rfl ?_;simp only[zV,vO,vP,zW,zX,rM,List.append_assoc,List.cons_append,List.nil_append,o7,n7,List.set_cons_succ,List.set_cons_zero,List.length_append,List.length_cons,List.length_nil,Nat.reduceAdd,Nat.zero_add];generalize iC 105 12 (s2F p (p.funcs.getD j j9)).code.length (r8 (s2F p (p.funcs.getD j j9)).code) ((s2F p (p.funcs.getD j j9)).code.length*12)=Cb;refine g7.pR (γ:=h.length+6) (β:=h.length+4) (k:=9) (len:=(s2F p (p.funcs.getD j j9)).sites.length) t30 (by rw[n6];omega) (by omega) (oR _) t30 (by omega) rfl ?_;simp only[List.append_assoc,List.cons_append,List.nil_append,o7,n7,List.set_cons_succ,List.set_cons_zero,List.length_append,List.length_cons,List.length_nil,Nat.reduceAdd,Nat.zero_add];generalize iC 3 1 (s2F p (p.funcs.getD j j9)).sites.length (l5 (s2F p (p.funcs.getD j j9)).sites) ((s2F p (p.funcs.getD j j9)).sites.length*1)=Sb;refine .sg u9 (mkH 12 [0,1,3,7,0,16,48,112,15,271,1023,2047] [9,11] [] [0,512,2560] [4,5,6,7]) 0 ?_;refine .p 3 ?_;refine c63z ?_;refine c96z ?_;refine .en [true] [512,0] [_] ?_;refine .p 1 ?_;refine .en [true,false] [2560,512,0] [_] ?_;refine c70z ?_;refine .c7 [6,10,11,108] ?_;refine .sg u9 (mkH 17 [0,0,2,6,14,0,32,96,224,0,512,1536,3584,1,8223,25087,65535] [13] [] [0,8192] [1,2,3,4,5,6,7,8,9,10,11,12]) 0 ?_;refine c63z ?_;refine c149z ?_;refine c149z ?_;refine .rm [true] ?_;refine .en [true] [8192,0] [_] ?_;refine .p 3 ?_;refine .po [true,true] ?_;refine .po [true,true] ?_;refine .po [true,true] ?_;refine z4.nil rfl ?_;exact .ret (.ex (hq:=by rfl))
end
theorem plnMx (l:List Mx):aO (j6 l):=aO.flat fun _=>aO.cons .str (aO.cons .bool (aO.cons .int .nil))
theorem plnPr (l:List Pr):aO (n8 l):=aO.flat fun _=>aO.cons .str (aO.cons .int (aO.cons .int (aO.cons .int (aO.cons .vec .nil))))
theorem N8 {l:List Pr}{x:Pr}:n8 (l++[x])=n8 l++uW x:=by simp[n8]
theorem BM {l:List Gl}(h:i<l.length):List.take 1 (List.drop (i*2+1) (s7 l))=[.int .i64 (l.getD i mE).init]:=B2 AQ 2 1 (fun _=>rfl) (by omega) mE h
theorem app_cpM {l:c8}{ms:List Mx}(hz:ms.length=n)(h0:0<n)(hn:n<1000):j5 cfg 115 (h++(b0::b1::b2::⟨1,false,115,3,[],0⟩::l)) (.own (h.length+3) 1 0 0) (.vec n (j6 ms))=some (.own (h.length+3) 2 0 n,h++(b0::b1::b2::⟨2,false,115,3,j6 ms,0⟩::l)):=by
  subst hz;have e1:cfg.sz 115=3:=rfl;have e2:(cfg.ti 115).bytes=32:=rfl;have hm:ms.length≤maxLen:=by
    have:(1000:Nat)≤maxLen:=by decide
    omega
  have hb:ms.length*32≤140737488355328:=by omega
  have h1:(j6 ms).length=ms.length*3:=by rw[q9];omega
  have h2:¬ms.length=0:=by omega
  have h3:¬ms.length*3=0:=by omega
  simp[j5,rd,lenOf,e1,e2,h1,hm,hb,o7,n7,h0,h2,h3]
theorem app_gi {l:c8}{is:List Int}{x:Int}(hn:is.length=n)(hl:n<100000):j5 cfg 3 (h++(b0::b1::b2::b3::b4::p8 3 1 g (l5 is)::⟨0,false,3,1,[.int .i64 x],0⟩::l)) (.own (h.length+5) g 0 n) (.own (h.length+6) 0 0 1)=some (.own (h.length+5) (g+1) 0 (n+1),h++(b0::b1::b2::b3::b4::p8 3 1 (g+1) (l5 (is++[x]))::⟨0,false,3,1,[.int .i64 x],0⟩::l)):=by subst hn;rw[aC (C:=cfg) (K:=1) (m:=1) (new:=[.int .i64 x]) (zs:=l5 is) t30 rfl (by omega) (by rw[n6,Nat.mul_one]) rfl (by omega) t205 rfl (by decide) (by omega),←qC,n7];rfl
theorem app_pr {b5 b7:Blk}{l:c8}{ps:List Pr}{x:Pr}(hn:ps.length=n)(hl:n<100000):j5 cfg 108 (h++(b0::b1::b2::b3::b4::b5::p8 108 5 g (n8 ps)::b7::⟨0,false,108,5,uW x,0⟩::l)) (.own (h.length+6) g 0 n) (.own (h.length+8) 0 0 1)=some (.own (h.length+6) (g+1) 0 (n+1),h++(b0::b1::b2::b3::b4::b5::p8 108 5 (g+1) (n8 (ps++[x]))::b7::⟨0,false,108,5,uW x,0⟩::l)):=by subst hn;rw[aC (C:=cfg) (K:=5) (m:=1) (new:=uW x) (zs:=n8 ps) t30 rfl (by omega) (by rw[aJ,Nat.mul_comm]) rfl (by omega) (by simp[rd,o7,uW]) rfl (by decide) (by omega),←N8,n7];rfl
theorem PK {l:List Fu}(h:0<l.length):List.take 1 (List.drop 1 (p9 l))=[AV.vec (l.getD 0 j9).params.length (z9 (l.getD 0 j9).params)]:=nT (i:=0) h
theorem HE (hp:GP p):cB (bA p) ⟨#[109,97,105,110]⟩=some ⟨⟨#[109,97,105,110]⟩,3,0⟩:=by have hf:=hp.fl.1;have hn:(p.funcs.getD 0 j9).name=⟨#[109,97,105,110]⟩:=(hp.fn 0 (by omega)).1;have:=rI (xE hp) (e:=⟨(p.funcs.getD 0 j9).name,3,((0:Nat):Int)⟩) (List.mem_append.2 (.inr (List.mem_append.2 (.inr (List.mem_map.2 ⟨0,List.mem_range.2 (by omega),rfl⟩)))));rw[hn]at this;exact this
theorem taken {α:Type}{l:List α}{d:α}(h:i<l.length):l.take (i+1)=l.take i++[l.getD i d]:=by rw[List.take_add_one];simp[List.getD,h]
theorem HF {x:Pr}:(uW x).length=5:=rfl
theorem takePr {x:Pr}:List.take 5 (uW x)=uW x:=rfl
section
attribute [local go_sem] app_cpM app_gi app_pr nT PK BM uV HF takePr
theorem c_lower (hp:GP p):CB 26 [.agg [.vec p.globals.length (s7 p.globals),.vec p.c5.length (j6 p.c5),.vec p.funcs.length (p9 p.funcs)]] h (.tup [.agg (encUn (dP p)),.int .i64 0,.int .i64 0,.int .i64 0]):=by
  refine .bz Tryz.f26 112 ?_;have hdl:=qF (p:=p);have hgl:=hp.gl;have hml:=hp.ml;have hfl:=hp.fl;have hmain:=HE hp;have hz0:(p.funcs.getD 0 j9).params.length=0:=by rw[(hp.fn 0 (by omega)).2.1 rfl];rfl
  refine c20z ?_;refine c115z ?_;refine .ca rfl rfl (c_valid hp) ?_;refine .n ?_;refine c14z ?_;refine c115z ?_;refine .ca rfl rfl (c_decl hp) ?_;refine c44z ?_;refine .c7 [1,2,6,7] ?_;refine c11z ?_;refine .sk ?_;refine c115z ?_;refine .ca rfl rfl (N4 hmain (by omega)) ?_;refine c44z ?_;refine .s ?_;refine .k 8 [(2,37)] ?_;refine .k 8 [(7,42)] ?_;refine .m [(7,42)] ?_;refine uFbz ?_;intro e1 qe1;refine .sk ?_;refine .c7 [1,2,6,8,30] ?_;refine .sg u9 (mkH 9 [0,1,0,0,8,28,63,0,255] [2,5,7,8] [(2,0),(7,1)] [0,4,36,128,132,164,420] [0,1,2,3,4,5,6]) 2 ?_;refine c24z ?_;refine .em [true] [4,0] [_] ?_;refine .p 1 ?_;refine .rm [true,true] ?_;refine .em [true,false] [36,4,0] [_] ?_;refine .p 1 ?_;refine .en [true,true,true] [164,132,128,36,4,0] [_,_,_] ?_;refine .en [true,false,false,false,false,false] [420,164,132,128,36,4,0] [_] ?_;refine .po [false,false,true,false,false,true,false] ?_;refine .po [false,false,true,true,false,true,true] ?_;refine .po [false,false,false,true,false,false,true] ?_;refine .po [false,true,true,true,true,true,true] ?_;refine z4.nil rfl ?_;refine .seq ?_;refine .c7 [1,2,6,10,30] ?_;refine c29z ?_;refine g7.mL (β:=h.length+4) (k:=0) t30 rfl ?_;simp only[List.append_assoc,List.cons_append,List.nil_append,o7,n7,List.set_cons_succ,List.set_cons_zero,List.length_append,List.length_cons,List.length_nil,Nat.reduceAdd,Nat.zero_add];refine .aW (fun m st=>∃(i:Nat),(m=p.globals.length-i∧i≤p.globals.length)∧st=⟨mkS 112 [(1,AV.ptr h.length 0 0),(2,AV.ptr (h.length+1) 0 0),(6,AV.vec (bA p).length (l4 (bA p))),(10,AV.ptr (h.length+4) 1 0),(11,AV.int .i64 ((i:Nat):Int))],h++[⟨0,false,27,3,[.vec p.globals.length (s7 p.globals),.vec p.c5.length (j6 p.c5),.vec p.funcs.length (p9 p.funcs)],0⟩,⟨0,false,30,4,[.l7,.l7,.l7,.int .i64 0],0⟩,⟨0,false,131,3,[.str ⟨#[109,97,105,110]⟩,.int .i64 3,.int .i64 0],0⟩,⟨2,false,115,3,j6 p.c5,0⟩,⟨1,false,30,4,[.own (h.length+5) i 0 i,.own (h.length+3) 2 0 p.c5.length,.l7,.int .i64 0],0⟩,p8 3 1 i (l5 ((dP p).globals.take i))]⟩) (.v ⟨0,⟨rfl,by omega⟩,rfl⟩) ?_;rintro m sl h' ⟨i,⟨hm,hi⟩,hst⟩;obtain ⟨rfl,rfl⟩:=St.mk.inj hst;clear hst;have htl:((dP p).globals.take i).length=i:=by simp[dP];omega
  refine c1z ?_;refine u2z ?_ ?_
  ·intro e2 qe2;refine c9z ?_;refine .og u9 (mkH 12 [0,1,0,4,0,28,60,124,252,511,1023,2047] [8,9,11] [] [0,256,768,2816] [0,1]) 0 ?_;refine c24z ?_;refine .p 1 ?_;refine c63z ?_;refine .rn [true] ?_;refine .en [true] [256,0] [_] ?_;refine .en [true,false] [768,256,0] [_] ?_;refine .p 1 ?_;refine .en [true,false,false] [2816,768,256,0] [_] ?_;refine c270z ?_;refine .c7 [1,2,6,10,11] ?_;refine .rz ?_;exact ⟨_,by omega,.v ⟨(i+1),⟨rfl,by omega⟩,rfl⟩ (he:=by (rw[taken (d:=0) (l:=(dP p).globals) (by simp[dP];omega),show (dP p).globals.getD i 0=(p.globals.getD i mE).init from getD_map (by omega)];simp only[List.append_assoc,List.cons_append,List.nil_append];rfl)) (hk:=by exact (z8.refl _).app rfl ⟨.inl rfl,.inl rfl,.inl rfl,.inl rfl,.inr (dK.get ⟨.own _ _ _ _ (by simp),.own _ _ _ _ (by simp),.l7,.int _ _,trivial⟩),.inr (by rw[o9];exact (oR _).refs _),trivial⟩)⟩
  intro e2 qe2;refine .exit ?_;obtain rfl:i=p.globals.length:=by omega
  change g7 ..;refine c7z ?_;refine g7.mL (β:=h.length+4) (k:=2) t30 rfl ?_;simp only[List.append_assoc,List.cons_append,List.nil_append,o7,n7,List.set_cons_succ,List.set_cons_zero,List.length_append,List.length_cons,List.length_nil,Nat.reduceAdd,Nat.zero_add];refine .aW (fun m st=>∃(i:Nat),(m=p.funcs.length-i∧i≤p.funcs.length)∧st=⟨mkS 112 [(1,AV.ptr h.length 0 0),(2,AV.ptr (h.length+1) 0 0),(6,AV.vec (bA p).length (l4 (bA p))),(10,AV.ptr (h.length+4) 1 0),(12,AV.int .i64 ((i:Nat):Int))],h++[⟨0,false,27,3,[.vec p.globals.length (s7 p.globals),.vec p.c5.length (j6 p.c5),.vec p.funcs.length (p9 p.funcs)],0⟩,⟨0,false,30,4,[.l7,.l7,.l7,.int .i64 0],0⟩,⟨0,false,131,3,[.str ⟨#[109,97,105,110]⟩,.int .i64 3,.int .i64 0],0⟩,⟨2,false,115,3,j6 p.c5,0⟩,⟨1,false,30,4,[.own (h.length+5) p.globals.length 0 p.globals.length,.own (h.length+3) 2 0 p.c5.length,.own (h.length+6) i 0 i,.int .i64 0],0⟩,p8 3 1 p.globals.length (l5 ((dP p).globals.take p.globals.length)),p8 108 5 i (n8 ((dP p).procs.take i))]⟩) (.v ⟨0,⟨rfl,by omega⟩,rfl⟩) ?_;rintro m sl h' ⟨i,⟨hm,hi⟩,hst⟩;obtain ⟨rfl,rfl⟩:=St.mk.inj hst;clear hst;have htl:((dP p).procs.take i).length=i:=by simp[dP];omega
  refine c1z ?_;refine u2z ?_ ?_
  ·intro e3 qe3;refine c9z ?_;refine .sg u9 (mkH 18 [0,0,0,4,0,28,60,127,255,511,511,511,511,0,9215,26623,61439,131071] [13,14] [] [0,8192,24576] [0,1,2,3,4,5,6,7,8,9,10,11,12]) 0 ?_;refine .rm [true] ?_;refine .p 2 ?_;refine .rm [true] ?_;refine .p 2 ?_;refine .rm [true] ?_;refine .cl rfl rfl (fun _=>c_func hp (by omega)) ?_;refine .p 5 ?_;refine .en [true] [8192,0] [_] ?_;refine .en [true,false] [24576,8192,0] [_] ?_;refine .p 3 ?_;refine c233z ?_;refine .seq ?_;refine .c7 [1,2,6,10,12,13,15,16] ?_;refine c11z ?_;refine .sk ?_;refine c2z ?_;refine .c7 [1,2,6,10,12] ?_;refine .rz ?_;exact ⟨_,by omega,.v ⟨(i+1),⟨rfl,by omega⟩,rfl⟩ (he:=by (rw[taken (d:=pT) (l:=(dP p).procs) (by simp[dP];omega),show (dP p).procs.getD i pT=nZ p (p.funcs.getD i j9) from getD_map (by omega)];simp only[List.append_assoc,List.cons_append,List.nil_append];rfl)) (hk:=by exact (z8.refl _).app rfl ⟨.inl rfl,.inl rfl,.inl rfl,.inl rfl,.inr (dK.get ⟨.own _ _ _ _ (by simp),.own _ _ _ _ (by simp),.own _ _ _ _ (by simp),.int _ _,trivial⟩),.inl rfl,.inr (by rw[o9];exact (plnPr _).refs _),trivial⟩)⟩
  intro e3 qe3;refine .exit ?_;obtain rfl:i=p.funcs.length:=by omega
  have hgt:(dP p).globals.take p.globals.length=(dP p).globals:=List.take_of_length_le (by simp[dP]);have hpt:(dP p).procs.take p.funcs.length=(dP p).procs:=List.take_of_length_le (by simp[dP]);rw[hgt,hpt];have hgl2:(dP p).globals.length=p.globals.length:=by simp[dP]
  have hpl2:(dP p).procs.length=p.funcs.length:=by simp[dP]
  refine g7.pR (γ:=h.length+5) (β:=h.length+4) (k:=0) (len:=p.globals.length) t30 (by rw[n6,hgl2,Nat.mul_one]) (by omega) (oR _) t30 (by omega) rfl ?_;simp only[List.append_assoc,List.cons_append,List.nil_append,o7,n7,List.set_cons_succ,List.set_cons_zero,List.length_append,List.length_cons,List.length_nil,Nat.reduceAdd,Nat.zero_add];generalize iC 3 1 p.globals.length (l5 (dP p).globals) (p.globals.length*1)=Gb;refine g7.pR (γ:=h.length+6) (β:=h.length+4) (k:=2) (len:=p.funcs.length) t30 (by rw[aJ,hpl2,Nat.mul_comm]) (by omega) (plnPr _) t30 (by omega) rfl ?_;simp only[List.append_assoc,List.cons_append,List.nil_append,o7,n7,List.set_cons_succ,List.set_cons_zero,List.length_append,List.length_cons,List.length_nil,Nat.reduceAdd,Nat.zero_add];generalize iC 108 5 p.funcs.length (n8 (dP p).procs) (p.funcs.length*5)=Pb;refine g7.uR (γ:=h.length+3) (β:=h.length+4) (k:=1) (off:=0) (len:=p.c5.length) (cs:=j6 p.c5) t30 rfl (by simp only[q9];omega) (by rw[List.drop_zero,List.take_of_length_le (by simp only[q9];omega)];exact (plnMx _).KC) t30 (by omega) rfl ?_;refine c22z ?_;refine .c7 [2,10] ?_;refine .z ?_;exact .ret (.ex (hq:=by (simp only[encUn,hgl2,hpl2];rfl)))
end
end Go.Proofs.YtapdldekgbbomaaGreatDoor
end
section
namespace Go.Proofs.YtapdldekgbbomaaGreatDoor
open Go.Ab Go.Un
variable {a b:List Int}{i:Nat}
theorem ne_at (h:a.getD i 0≠b.getD i 0):¬a=b:=fun e=>h (by rw[e])
theorem eq_all (hl:a.length=b.length)(h:∀d,d<a.length→a.getD d 0=b.getD d 0):a=b:=by refine List.ext_getElem hl fun i h1 h2=>?_;have:=h i h1;simpa [List.getD,h1,h2] using this
theorem all_nx (h:∀d,d<i→a.getD d 0=b.getD d 0)(e:a.getD i 0=b.getD i 0):∀d,d<i+1→a.getD d 0=b.getD d 0:=fun d hd=>by
  by_cases hdi:d=i
  · rw[hdi];exact e
  · exact h d (by omega)
variable {l:List Int}{n:Int}
theorem no_nx (h:∀d,d<i→l.getD d 0≠n)(e:l.getD i 0≠n):∀d,d<i+1→l.getD d 0≠n:=fun d hd=>by
  by_cases hdi:d=i
  · rw[hdi];exact e
  · exact h d (by omega)
theorem no_mem (h:∀d,d<l.length→l.getD d 0≠n):¬n∈l:=fun hm=>by obtain ⟨i,hi,rfl⟩:=cJ (d:=(0:Int)) hm;exact h i hi rfl
theorem take_I {k:Nat}:List.take k (l5 l)=l5 (l.take k):=by simp[l5,List.map_take]
theorem dropt_I {k:Nat}:List.take (l.length-k) (List.drop k (l5 l))=l5 (l.drop k):=by rw[l5,←List.map_drop,List.take_of_length_le (by simp)];rfl
theorem hU (h:i<l.length):List.take 1 (List.drop i (l5 l))=[.int .i64 (l.getD i 0)]:=by
  have h2:i<(l5 l).length:=by rw[n6];exact h
  rw[List.drop_eq_getElem_cons h2];simp[l5,List.getD,h]
def gW (g n:Nat):Nat:=if n=0 then g else g+1
def kW (l:List Int)(n:Int):Nat:=(l.takeWhile fun x=>decide (x<n)).length
def kG (l:List Int)(n:Int):List Int:=if n∈l then l else l.take (kW l n)++n::l.drop (kW l n)
theorem kW_at:∀{k:Nat},k≤l.length→(∀d,d<k→l.getD d 0<n)→(k<l.length→¬l.getD k 0<n)→k=kW l n:=by
  induction l with
  | nil=>intro k hk _ _;simp at hk;subst hk;rfl
  | cons x l ih=>
    intro k hk h1 h2;cases k with
    | zero=>
      have:=h2 (by simp);simp only[List.getD_cons_zero]at this;simp[kW,List.takeWhile,this]
    | succ k=>
      have h0:=h1 0 (by omega);simp only[List.getD_cons_zero]at h0;have:=ih (k:=k) (by simpa using hk) (fun d hd=>by have:=h1 (d+1) (by omega);simpa using this) (fun hl=>by have:=h2 (by simpa using hl);simpa using this);rw[kW,List.takeWhile_cons_of_pos (by simpa using h0),List.length_cons,this];rfl
theorem lt_nx (h:∀d,d<i→l.getD d 0<n)(e:l.getD i 0<n):∀d,d<i+1→l.getD d 0<n:=fun d hd=>by
  by_cases hdi:d=i
  · rw[hdi];exact e
  · exact h d (by omega)
variable {h:c8}{g:Nat}
theorem app_w {l:c8}{n m:Nat}(ha:a.length=n)(hb:b.length=m)(hn:n<150000)(hm:m<100000):j5 cfg 3 (h++(⟨g,false,3,1,l5 a,0⟩::l)) (.own h.length g 0 n) (.vec m (l5 b))=some (.own h.length (gW g m) 0 (n+m),h++(⟨gW g m,false,3,1,l5 (a++b),0⟩::l)):=by
  subst ha hb;have e1:cfg.sz 3=1:=rfl;have e2:(cfg.ti 3).bytes=8:=rfl;have h1:a.length+b.length≤maxLen:=by
    have:(300000:Nat)≤maxLen:=by decide
    omega
  have h2:(a.length+b.length)*8≤140737488355328:=by omega
  have ht:List.take a.length (l5 a)=l5 a:=List.take_of_length_le t224;have hs:l5 (a++b)=l5 a++l5 b:=by simp[l5]
  cases b with
  | nil=>
    simp only[List.length_nil,Nat.add_zero]at h1 h2;simp[j5,rd,lenOf,e1,e2,gW,hs,l5,h1,h2]
  | cons x b=>
    simp only[List.length_cons]at h1 h2;have h3:¬a.length+(b.length+1)≤a.length:=by omega
    simp[j5,rd,lenOf,e1,e2,n6,h1,h2,ht,h3,gW,hs,fK,lC]
theorem app_w0 {l:c8}{m:Nat}(hb:b.length=m)(hm:m<100000):j5 cfg 3 (h++(⟨g,false,3,1,[],0⟩::l)) (.own h.length g 0 0) (.vec m (l5 b))=some (.own h.length (gW g m) 0 m,h++(⟨gW g m,false,3,1,l5 b,0⟩::l)):=by have:=app_w (h:=h) (l:=l) (a:=[]) (b:=b) (g:=g) (n:=0) rfl hb (by omega) hm;rw[Nat.zero_add]at this;exact this
theorem app_w1 {l:c8}{x:Int}{n:Nat}(ha:a.length=n)(hn:n<100000):j5 cfg 3 (h++(⟨g,false,3,1,l5 a,0⟩::⟨1,false,3,1,[.int .i64 x],0⟩::l)) (.own h.length g 0 n) (.own (h.length+1) 1 0 1)=some (.own h.length (g+1) 0 (n+1),h++(⟨g+1,false,3,1,l5 (a++[x]),0⟩::⟨1,false,3,1,[.int .i64 x],0⟩::l)):=by
  subst ha;have e1:cfg.sz 3=1:=rfl;have e2:(cfg.ti 3).bytes=8:=rfl;have h1:a.length+1≤maxLen:=by
    have:(200000:Nat)≤maxLen:=by decide
    omega
  have h2:(a.length+1)*8≤140737488355328:=by omega
  have ht:List.take a.length (l5 a)=l5 a:=List.take_of_length_le t224;have hs:l5 (a++[x])=l5 a++[.int .i64 x]:=qC;have h3:¬a.length+1≤a.length:=by omega
  simp[j5,rd,lenOf,e1,e2,n6,h1,h2,ht,h3,hs,o7,fK,lC]
theorem frz_I {n d:Nat}{H:c8}:s5 (mC n H (d+1)) (l5 l)=some (l5 l):=(oR l).frz _ _ _
theorem BN {n β len:Nat}{H:c8}(hb:H[β]?=some ⟨g,false,3,1,l5 a,0⟩)(hn:n≤β)(hl:a.length=len):gT n H 6 (.own β g 0 len)=some (.vec len (l5 a)):=by subst hl;rw[cW,if_neg (by omega),gQ,hb];simp only[hn,and_self,if_true,Bool.false_eq_true,if_false,Nat.zero_add,Nat.mul_one,n6,Nat.le_refl,List.drop_zero];rw[List.take_of_length_le t224,frz_I]
def fI:List aD→aD→Int
  | [],_ => -1
  | a::l,x=>if a=x then 0 else if fI l x<0 then -1 else fI l x+1
theorem fI_at:∀{l:List aD} {x:aD} {i:Nat},i<l.length→(∀d,d<i→l.getD d c9≠x)→l.getD i c9=x→fI l x=i
  | [],x,i,h,_,_=>by simp at h
  | a::l,x,0,_,_,h=>by simp only[List.getD_cons_zero]at h;rw[fI,if_pos h];rfl
  | a::l,x,i+1,hi,h1,h2=>by have h0:=h1 0 (by omega);simp only[List.getD_cons_zero]at h0;have ih:=fI_at (l:=l) (x:=x) (i:=i) (by simpa using hi) (fun d hd=>by have:=h1 (d+1) (by omega);simpa using this) (by simpa using h2);rw[fI,if_neg h0,ih,if_neg (by omega)];omega
theorem YX:∀{l:List aD} {x:aD},(∀d,d<l.length→l.getD d c9≠x)→fI l x = -1
  | [],x,_=>rfl
  | a::l,x,h=>by have h0:=h 0 (by simp);simp only[List.getD_cons_zero]at h0;have ih:=YX (l:=l) (x:=x) (fun d hd=>by have:=h (d+1) (by simpa using hd);simpa using this);rw[fI,if_neg h0,ih,if_pos (by omega)]
theorem W2:∀{l:List aD} {x:aD},x∈l→0≤fI l x∧fI l x<l.length∧l.getD (fI l x).toNat c9=x
  | [],x,h=>by simp at h
  | a::l,x,h=>by
    by_cases hx:a=x
    · rw[fI,if_pos hx];simp[hx]
    · have ih:=W2 (l:=l) (x:=x) (by simpa [Ne.symm hx] using h)
      rw[fI,if_neg hx,if_neg (by omega)];refine ⟨by omega,t81,?_⟩;rw[show (fI l x+1).toNat=(fI l x).toNat+1 from by omega];simpa using ih.2.2
variable {x:aD}
theorem fI_not {l:List aD}(h:x∉l):fI l x = -1:=YX fun d hd e=>h (e▸j7 hd)
theorem it_ne {l:List aD}(h:∀d,d<i→l.getD d c9≠x)(e:l.getD i c9≠x):∀d,d<i+1→l.getD d c9≠x:=fun d hd=>by
  by_cases hdi:d=i
  · rw[hdi];exact e
  · exact h d (by omega)
theorem it_ne1 {l:List aD}(h:¬(l.getD i c9).proc=x.proc):l.getD i c9≠x:=fun e=>h (by rw[e])
theorem it_ne2 {l:List aD}(h:¬(l.getD i c9).n5=x.n5):l.getD i c9≠x:=fun e=>h (by rw[e])
theorem dW {l:List aD}(h:i<l.length):List.take 1 (List.drop (i*2) (p6 l))=[.int .i64 (l.getD i c9).proc]:=B2 AS 2 0 (fun _=>rfl) (by omega) c9 h
theorem W3 {l:List aD}(h:i<l.length):List.take 1 (List.drop (i*2+1) (p6 l))=[.vec (l.getD i c9).n5.length (l5 (l.getD i c9).n5)]:=B2 AS 2 1 (fun _=>rfl) (by omega) c9 h
theorem dX {l:List aD}(h:i<l.length):List.take 2 (List.drop (i*2) (p6 l))=[.int .i64 (l.getD i c9).proc,.vec (l.getD i c9).n5.length (l5 (l.getD i c9).n5)]:=read_it h
variable {u:Un}{it:aD}
theorem cP (h:it.proc.toNat<u.procs.length):List.take 1 (List.drop (it.proc.toNat*5+4) (n8 u.procs))=[.vec (g5 u it).length (r8 (g5 u it))]:=B2 uW 5 4 (fun _=>rfl) (by omega) pT h
theorem fV {l:List Ins}(h:i<l.length):List.take 1 (List.drop (i*12) (r8 l))=[.int .i64 (l.getD i j4).op]:=by rw[show i*12=i*12+0 from rfl,r8,B2 eZ 12 0 bE (by omega) j4 h,lS];rfl
theorem PL {l:List Ins}(h:i<l.length):List.take 1 (List.drop (i*12+1) (r8 l))=[.int .i64 (l.getD i j4).target]:=by rw[r8,B2 eZ 12 1 bE (by omega) j4 h,lS];rfl
theorem PM {l:List Ins}(h:i<l.length):List.take 1 (List.drop (i*12+11) (r8 l))=[.vec (l.getD i j4).places.length (eD (l.getD i j4).places)]:=by rw[r8,B2 eZ 12 11 bE (by omega) j4 h,lS];rfl
theorem PN {l:List Pl}(h:i<l.length):List.take 3 (List.drop (i*3) (eD l))=[.bool (l.getD i cI).param,.int .i64 (l.getD i cI).index,.vec (l.getD i cI).at'.length (o8 (l.getD i cI).at')]:=read_pl h
theorem app_lk {b0 b1 b2 b3:Blk}{l:c8}{is:List Int}{x:Int}{n:Nat}(hn:is.length=n)(hl:n<100000):j5 cfg 3 (h++(b0::b1::b2::b3::p8 3 1 g (l5 is)::⟨0,false,3,1,[.int .i64 x],0⟩::l)) (.own (h.length+4) g 0 n) (.own (h.length+5) 0 0 1)=some (.own (h.length+4) (g+1) 0 (n+1),h++(b0::b1::b2::b3::p8 3 1 (g+1) (l5 (is++[x]))::⟨0,false,3,1,[.int .i64 x],0⟩::l)):=by subst hn;rw[aC (C:=cfg) (K:=1) (m:=1) (new:=[.int .i64 x]) (zs:=l5 is) t30 rfl (by omega) (by rw[n6,Nat.mul_one]) rfl (by omega) t205 rfl (by decide) (by omega),←qC,n7];rfl
attribute [local go_sem] rd u7 p7 bT dB w6 bE gD dU q9 bO aZ n6 bV Int.natCast_nonneg Int.natCast_inj List.length_map wrap64 gJ jT jU T8 F3 L9 T9 qS max2 fP dG bW Nat.reduceMul nR kM jH vN hU app_w app_w0 app_w1 Nat.sub_zero Option.bind_eq_bind take_I dropt_I dW W3 dX cP fV PL PM PN app_lk w8 aJ
theorem c_same (a b:List Int)(hl:a.length<1000000):CB 73 [.vec a.length (l5 a),.vec b.length (l5 b)] h (.bool (decide (a=b))):=by
  refine .bz Tryz.f73 26 ?_;refine c54z ?_;refine u2z ?_ ?_
  ·intro e1 qe1;refine c228z ?_;exact ⟨[],_,(List.append_nil _).symm,t67,t75⟩
  intro e1 qe1;refine .sk ?_;refine c7z ?_;refine .jZ (fun m st=>∃(i:Nat),(m=a.length-i∧((∀d,d<i→a.getD d 0=b.getD d 0)∧i≤a.length))∧st=⟨mkS 26 [(0,AV.vec a.length (l5 a)),(1,AV.vec b.length (l5 b)),(5,AV.int .i64 ((i:Nat):Int))],h⟩) _ (.v ⟨0,⟨rfl,⟨t106,by omega⟩⟩,rfl⟩) ?_;rintro m sl h' ⟨i,⟨hm,⟨hI,hi⟩⟩,hst⟩;obtain ⟨rfl,rfl⟩:=St.mk.inj hst;refine c1z ?_;refine u2z ?_ ?_
  ·intro e2 qe2;refine c9z ?_;refine .ss u9 (mkP 9 [0,0,3,7,0,0,48,112,255] []) ?_;refine c159z ?_;refine u2z ?_ ?_
   ·intro e3 qe3;refine c228z ?_;exact ⟨[],_,(List.append_nil _).symm,t67,t75⟩
   intro e3 qe3;refine c8z ?_;refine c172z ?_;exact ⟨_,by omega,.v ⟨(i+1),⟨rfl,⟨all_nx hI (by omega),by omega⟩⟩,rfl⟩⟩
  intro e2 qe2;refine c173z ?_;exact ⟨[],_,(List.append_nil _).symm,t67,t75⟩
theorem TA (l:List Int)(n:Int)(hl:l.length<1000000):CB 74 [.vec l.length (l5 l),.int .i64 n] h (.bool (decide (n∈l))):=by
  refine .bz Tryz.f74 18 ?_;refine c26z ?_;refine .jZ (fun m st=>∃(i:Nat),(m=l.length-i∧((∀d,d<i→l.getD d 0≠n)∧i≤l.length))∧st=⟨mkS 18 [(0,AV.vec l.length (l5 l)),(1,AV.int .i64 n),(5,AV.int .i64 ((i:Nat):Int))],h⟩) _ (.v ⟨0,⟨rfl,⟨t106,by omega⟩⟩,rfl⟩) ?_;rintro m sl h' ⟨i,⟨hm,⟨hI,hi⟩⟩,hst⟩;obtain ⟨rfl,rfl⟩:=St.mk.inj hst;refine c1z ?_;refine u2z ?_ ?_
  ·intro e1 qe1;refine c207z ?_;refine u2z ?_ ?_
   ·intro e2 qe2;refine c228z ?_;exact ⟨[],_,(List.append_nil _).symm,t67,t131⟩
   intro e2 qe2;refine c8z ?_;refine c172z ?_;exact ⟨_,by omega,.v ⟨(i+1),⟨rfl,⟨no_nx hI (by omega),by omega⟩⟩,rfl⟩⟩
  intro e1 qe1;refine c173z ?_;exact ⟨[],_,(List.append_nil _).symm,t67,t131⟩
theorem c_hasY (hm:n∈l)(hl:l.length<1000000):CB 74 [.vec l.length (l5 l),.int .i64 n] h (.bool true):=by have:=TA (h:=h) l n hl;rw[decide_eq_true hm]at this;exact this
theorem c_hasN (hm:n∉l)(hl:l.length<1000000):CB 74 [.vec l.length (l5 l),.int .i64 n] h (.bool false):=by have:=TA (h:=h) l n hl;rw[decide_eq_false hm]at this;exact this
theorem c_withY (l:List Int)(n:Int)(hl:l.length<100000)(hmem:n∈l):CB 52 [.vec l.length (l5 l),.int .i64 n] h (.vec (kG l n).length (l5 (kG l n))):=by refine .bz Tryz.f52 36 ?_;refine c20z ?_;refine c39z ?_;refine .ca rfl rfl (c_hasY hmem (by omega)) ?_;refine .nil ?_;refine .T ?_;refine .z ?_;exact .ret (.ex (hq:=by (rw[kG,if_pos hmem])))
theorem c_withN (l:List Int)(n:Int)(hl:l.length<100000)(hmem:n∉l):CB 52 [.vec l.length (l5 l),.int .i64 n] h (.vec (kG l n).length (l5 (kG l n))):=by
  refine .bz Tryz.f52 36 ?_;refine c20z ?_;refine c39z ?_;refine .ca rfl rfl (c_hasN hmem (by omega)) ?_;refine .nil ?_;refine c142z ?_;refine .sb ?_;refine .jZ (fun m st=>∃(i:Nat),(m=l.length-i∧((∀d,d<i→l.getD d 0<n)∧i≤l.length))∧st=⟨mkS 36 [(0,AV.vec l.length (l5 l)),(1,AV.int .i64 n),(5,AV.int .i64 ((i:Nat):Int))],h⟩) _ (.v ⟨0,⟨rfl,⟨t106,by omega⟩⟩,rfl⟩) ?_;rintro m sl h' ⟨i,⟨hm,⟨hI,hi⟩⟩,hst⟩;obtain ⟨rfl,rfl⟩:=St.mk.inj hst;refine .seq ?_;refine c34z ?_;refine .spl 14 rfl rfl (fun e1=>?_) (fun e1=>?_)
  ·try simp only[e1]
   have qe1:=fact e1;refine .m [(4,14)] ?_;refine u2z ?_ ?_
   ·intro e2 qe2;refine .sk ?_;refine .block ?_;refine c172z ?_;exact ⟨_,by omega,.v ⟨(i+1),⟨rfl,⟨lt_nx hI (by omega),by omega⟩⟩,rfl⟩⟩
   intro e2 qe2;refine .exit ?_;have hkw:i=kW l n:=kW_at hi hI (by intro _;omega);have hdl:(l.drop i).length=l.length-i:=List.length_drop;have htl:(l.take i).length=i:=by rw[List.length_take];omega
   have hcl:(l.take i++[n]).length=i+1:=by rw[List.length_append,htl];rfl
   change g7 ..;refine .c7 [0,1,5] ?_;refine .sg u9 (mkH 13 [0,0,0,6,15,0,32,127,0,0,768,2047,4095] [0,4,6,7,11] [(0,0),(6,1)] [0,1,17,64,65,81,209,2257] [0,1,2,3,4]) 2 ?_;refine .em [true] [1,0] [_] ?_;refine .p 3 ?_;refine .em [true,false] [17,1,0] [_] ?_;refine .p 1 ?_;refine .en [true,true,true] [81,65,64,17,1,0] [_,_,_] ?_;refine .en [true,false,false,false,false,false] [209,81,65,64,17,1,0] [_] ?_;refine .p 3 ?_;refine .en [true,false,false,false,false,false,false] [2257,209,81,65,64,17,1,0] [_] ?_;refine .p 1 ?_;refine c101z ?_;refine z4.nil rfl ?_;refine c3z ?_;exact ⟨_,_,rfl,BN t188 (Nat.le_refl _) t138,t181⟩
  try simp only[e1]
  have qe1:=fact e1;refine .m [(4,14)] ?_;refine .F ?_;refine .exit ?_;have hkw:i=kW l n:=kW_at hi hI (by intro _;omega);have hdl:(l.drop i).length=l.length-i:=List.length_drop;have htl:(l.take i).length=i:=by rw[List.length_take];omega
  have hcl:(l.take i++[n]).length=i+1:=by rw[List.length_append,htl];rfl
  change g7 ..;refine .c7 [0,1,5] ?_;refine .sg u9 (mkH 13 [0,0,0,6,15,0,32,127,0,0,768,2047,4095] [0,4,6,7,11] [(0,0),(6,1)] [0,1,17,64,65,81,209,2257] [0,1,2,3,4]) 2 ?_;refine .em [true] [1,0] [_] ?_;refine .p 3 ?_;refine .em [true,false] [17,1,0] [_] ?_;refine .p 1 ?_;refine .en [true,true,true] [81,65,64,17,1,0] [_,_,_] ?_;refine .en [true,false,false,false,false,false] [209,81,65,64,17,1,0] [_] ?_;refine .p 3 ?_;refine .en [true,false,false,false,false,false,false] [2257,209,81,65,64,17,1,0] [_] ?_;refine .p 1 ?_;refine c101z ?_;refine z4.nil rfl ?_;refine c3z ?_;exact ⟨_,_,rfl,BN t188 (Nat.le_refl _) t138,t181⟩
theorem HG (l:List Int)(n:Int)(hl:l.length<100000):CB 52 [.vec l.length (l5 l),.int .i64 n] h (.vec (kG l n).length (l5 (kG l n))):=by
  by_cases hm:n∈l
  · exact c_withY l n hl hm
  · exact c_withN l n hl hm
theorem HH (it:aD)(p:Pl)(hp:p.param=true→0≤p.index∧p.index.toNat<it.n5.length):CB 44 [.agg [.int .i64 it.proc,.vec it.n5.length (l5 it.n5)],.agg [.bool p.param,.int .i64 p.index,.vec p.at'.length (o8 p.at')]] h (.int .i64 (wW it p)):=by
  refine .bz Tryz.f44 15 ?_;refine c54z ?_;refine u2z ?_ ?_
  ·intro e1 qe1;have hpp:=hp (by assumption);refine .z ?_;exact .ret (.ex (hq:=by (unfold wW;simp_all)))
  intro e1 qe1;refine c239z ?_;exact .ret (.ex (hq:=by (unfold wW;simp_all)))
theorem aI (hu:WU u)(w:WIt u it):(g5 u it).length≤1664:=by have:=(vC hu (l:=[it]) (by simp) (by simpa using w)).2;simpa using this
variable {pc:Nat}
theorem HI (hu:WU u)(w:WIt u it)(hpc:pc<(g5 u it).length)(hc:jI ((g5 u it).getD pc j4)):∀p∈((g5 u it).getD pc j4).places,p.param=true→0≤p.index∧p.index.toNat<it.n5.length:=by
  obtain ⟨_,_,_,hh⟩:=(lK hu w).2.2 pc hpc;intro p hp hpar;obtain ⟨h0,⟨_,h2⟩ | ⟨h1,_⟩⟩:=(hh hc).2.2 p hp
  · refine ⟨h0,?_⟩
    rw[w.len];simp only at h2;omega
  · rw[hpar]at h1;cases h1
theorem BO (hu:WU u)(w:WIt u it)(hpc:pc<(g5 u it).length)(hc:jI ((g5 u it).getD pc j4)):((g5 u it).getD pc j4).places.length≤2:=by have h1:=wX hu w hpc hc;have h2:=h1.len;have h3:=hu.n5 (eJ u it pc).proc.toNat (by have:=h1.lo;have:=h1.hi;omega);simp only[eJ,List.length_map]at h2 h3;omega
theorem HJ (hu:WU u)(w:WIt u it)(hpc:pc<(g5 u it).length)(hc:¬jI ((g5 u it).getD pc j4)):CB 50 [.agg [.vec u.globals.length (l5 u.globals),.vec u.c5.length (j6 u.c5),.vec u.procs.length (n8 u.procs),.int .i64 u.main],.agg [.int .i64 it.proc,.vec it.n5.length (l5 it.n5)],.int .i64 ((pc:Nat):Int)] h (.tup [.agg [.int .i64 0,.vec 0 []],.bool false]):=by
  refine .bz Tryz.f50 75 ?_;have w1:=w.lo;have w2:=w.hi;have hsz:(g5 u it).length≤1664:=aI hu w;refine c135z ?_;refine .c7 [2,4,6,8] ?_;refine c17z ?_;refine .spl 20 rfl rfl (fun e1=>by exfalso;have q:=fact e1;omega) (fun e1=>?_);try simp only[e1]
  have qe1:=fact e1;refine .k 6 [(2,20)] ?_;refine .spl 26 rfl rfl (fun e2=>by exfalso;have q:=fact e2;omega) (fun e2=>?_);try simp only[e2]
  have qe2:=fact e2;refine .k 7 [(8,26)] ?_;refine .spl 33 rfl rfl (fun e3=>?_) (fun e3=>by exfalso;have q:=fact e3;exact hc (.inl (by omega)));try simp only[e3]
  have qe3:=fact e3;refine .m [(8,26),(15,33)] ?_;refine .spl 41 rfl rfl (fun e4=>?_) (fun e4=>by exfalso;have q:=fact e4;exact hc (.inr (by omega)));try simp only[e4]
  have qe4:=fact e4;refine .T ?_;refine .c7 [6] ?_;refine .z ?_;exact .ret (.ex (hq:=by rfl))
theorem HK (hu:WU u)(w:WIt u it)(hpc:pc<(g5 u it).length)(hc:jI ((g5 u it).getD pc j4)):CB 50 [.agg [.vec u.globals.length (l5 u.globals),.vec u.c5.length (j6 u.c5),.vec u.procs.length (n8 u.procs),.int .i64 u.main],.agg [.int .i64 it.proc,.vec it.n5.length (l5 it.n5)],.int .i64 ((pc:Nat):Int)] h (.tup [.agg [.int .i64 (eJ u it pc).proc,.vec (eJ u it pc).n5.length (l5 (eJ u it pc).n5)],.bool true]):=by
  refine .bz Tryz.f50 75 ?_;have w1:=w.lo;have w2:=w.hi;have hsz:(g5 u it).length≤1664:=aI hu w;have hpl:=HI hu w hpc hc;have hpn:=BO hu w hpc hc;refine c135z ?_;refine .c7 [2,4,6,8] ?_;refine c17z ?_;refine .spl 20 rfl rfl (fun e1=>by exfalso;have q:=fact e1;omega) (fun e1=>?_);try simp only[e1]
  have qe1:=fact e1;refine .k 6 [(2,20)] ?_;refine .spl 26 rfl rfl (fun e2=>by exfalso;have q:=fact e2;omega) (fun e2=>?_);try simp only[e2]
  have qe2:=fact e2;refine .k 7 [(8,26)] ?_;refine .spl 33 rfl rfl (fun e3=>?_) (fun e3=>?_)
  ·try simp only[e3]
   have qe3:=fact e3;refine .m [(8,26),(15,33)] ?_;refine .spl 41 rfl rfl (fun e4=>by exfalso;have q:=fact e4;rcases hc with hc | hc<;>omega) (fun e4=>?_);try simp only[e4]
   have qe4:=fact e4;refine c14z ?_;refine .c7 [2,4,6,8] ?_;refine c26z ?_;refine g7.mL (β:=h.length+3) (k:=1) t30 rfl ?_;simp only[List.append_assoc,List.cons_append,List.nil_append,o7,n7,List.set_cons_succ,List.set_cons_zero,List.length_append,List.length_cons,List.length_nil,Nat.reduceAdd,Nat.zero_add];refine .aW (fun m st=>∃(q:Nat),(m=((g5 u it).getD pc j4).places.length-q∧q≤((g5 u it).getD pc j4).places.length)∧st=⟨mkS 75 [(2,AV.int .i64 ((pc:Nat):Int)),(4,AV.ptr (h.length+1) 0 0),(6,AV.ptr (h.length+2) 0 0),(8,AV.vec (g5 u it).length (r8 (g5 u it))),(9,AV.ptr (h.length+3) 0 0),(10,AV.int .i64 ((q:Nat):Int))],h++[⟨0,false,30,4,[.vec u.globals.length (l5 u.globals),.vec u.c5.length (j6 u.c5),.vec u.procs.length (n8 u.procs),.int .i64 u.main],0⟩,⟨0,false,69,2,[.int .i64 it.proc,.vec it.n5.length (l5 it.n5)],0⟩,⟨0,false,69,2,[.int .i64 0,.l7],0⟩,⟨0,false,69,2,[.int .i64 ((g5 u it).getD pc j4).target,.own (h.length+4) q 0 q],0⟩,p8 3 1 q (l5 ((((g5 u it).getD pc j4).places.take q).map (wW it)))]⟩) (.v ⟨0,⟨rfl,by omega⟩,rfl⟩) ?_;rintro m sl h' ⟨q,⟨hm,hq⟩,hst⟩;obtain ⟨rfl,rfl⟩:=St.mk.inj hst;clear hst;have htl:((((g5 u it).getD pc j4).places.take q).map (wW it)).length=q:=by rw[List.length_map,List.length_take];omega
   refine c1z ?_;refine u2z ?_ ?_
   ·intro e5 qe5;refine c9z ?_;refine .c7 [2,4,6,8,9,10] ?_;refine .og u9 (mkH 16 [0,1,0,0,0,24,56,120,0,504,1016,2044,4092,8191,16383,32767] [12,13,15] [] [0,4096,12288,45056] [0,1]) 0 ?_;refine c24z ?_;refine c136z ?_;refine c62z ?_;refine .rn [true] ?_;refine .cl rfl rfl (fun _=>HH it (((g5 u it).getD pc j4).places.getD q cI) (hpl _ (j7 (d:=cI) (i:=q) (by omega)))) ?_;refine .en [true] [4096,0] [_] ?_;refine .en [true,false] [12288,4096,0] [_] ?_;refine .p 1 ?_;refine .en [true,false,false] [45056,12288,4096,0] [_] ?_;refine c270z ?_;refine .c7 [2,4,6,8,9,10,69] ?_;refine .rz ?_;exact ⟨_,by omega,.v ⟨(q+1),⟨rfl,by omega⟩,rfl⟩ (he:=t155) (hk:=t140)⟩
   intro e5 qe5;refine .exit ?_;obtain rfl:q=((g5 u it).getD pc j4).places.length:=by omega
   rw[List.take_length]at htl ⊢;refine g7.pR (γ:=h.length+4) (β:=h.length+3) (k:=1) (len:=((g5 u it).getD pc j4).places.length) t30 (by rw[n6,htl,Nat.mul_one]) (by omega) (oR _) t30 (by omega) rfl ?_;refine c22z ?_;refine c251z ?_;exact .ret (.ex (hq:=by (simp only[eJ,List.length_map])))
  try simp only[e3]
  have qe3:=fact e3;refine .m [(8,26),(15,33)] ?_;refine c14z ?_;refine .c7 [2,4,6,8] ?_;refine c26z ?_;refine g7.mL (β:=h.length+3) (k:=1) t30 rfl ?_;simp only[List.append_assoc,List.cons_append,List.nil_append,o7,n7,List.set_cons_succ,List.set_cons_zero,List.length_append,List.length_cons,List.length_nil,Nat.reduceAdd,Nat.zero_add];refine .aW (fun m st=>∃(q:Nat),(m=((g5 u it).getD pc j4).places.length-q∧q≤((g5 u it).getD pc j4).places.length)∧st=⟨mkS 75 [(2,AV.int .i64 ((pc:Nat):Int)),(4,AV.ptr (h.length+1) 0 0),(6,AV.ptr (h.length+2) 0 0),(8,AV.vec (g5 u it).length (r8 (g5 u it))),(9,AV.ptr (h.length+3) 0 0),(10,AV.int .i64 ((q:Nat):Int))],h++[⟨0,false,30,4,[.vec u.globals.length (l5 u.globals),.vec u.c5.length (j6 u.c5),.vec u.procs.length (n8 u.procs),.int .i64 u.main],0⟩,⟨0,false,69,2,[.int .i64 it.proc,.vec it.n5.length (l5 it.n5)],0⟩,⟨0,false,69,2,[.int .i64 0,.l7],0⟩,⟨0,false,69,2,[.int .i64 ((g5 u it).getD pc j4).target,.own (h.length+4) q 0 q],0⟩,p8 3 1 q (l5 ((((g5 u it).getD pc j4).places.take q).map (wW it)))]⟩) (.v ⟨0,⟨rfl,by omega⟩,rfl⟩) ?_;rintro m sl h' ⟨q,⟨hm,hq⟩,hst⟩;obtain ⟨rfl,rfl⟩:=St.mk.inj hst;clear hst;have htl:((((g5 u it).getD pc j4).places.take q).map (wW it)).length=q:=by rw[List.length_map,List.length_take];omega
  refine c1z ?_;refine u2z ?_ ?_
  ·intro e6 qe6;refine c9z ?_;refine .c7 [2,4,6,8,9,10] ?_;refine .og u9 (mkH 16 [0,1,0,0,0,24,56,120,0,504,1016,2044,4092,8191,16383,32767] [12,13,15] [] [0,4096,12288,45056] [0,1]) 0 ?_;refine c24z ?_;refine c136z ?_;refine c62z ?_;refine .rn [true] ?_;refine .cl rfl rfl (fun _=>HH it (((g5 u it).getD pc j4).places.getD q cI) (hpl _ (j7 (d:=cI) (i:=q) (by omega)))) ?_;refine .en [true] [4096,0] [_] ?_;refine .en [true,false] [12288,4096,0] [_] ?_;refine .p 1 ?_;refine .en [true,false,false] [45056,12288,4096,0] [_] ?_;refine c270z ?_;refine .c7 [2,4,6,8,9,10,69] ?_;refine .rz ?_;exact ⟨_,by omega,.v ⟨(q+1),⟨rfl,by omega⟩,rfl⟩ (he:=t155) (hk:=t140)⟩
  intro e6 qe6;refine .exit ?_;obtain rfl:q=((g5 u it).getD pc j4).places.length:=by omega
  rw[List.take_length]at htl ⊢;refine g7.pR (γ:=h.length+4) (β:=h.length+3) (k:=1) (len:=((g5 u it).getD pc j4).places.length) t30 (by rw[n6,htl,Nat.mul_one]) (by omega) (oR _) t30 (by omega) rfl ?_;refine c22z ?_;refine c251z ?_;exact .ret (.ex (hq:=by (simp only[eJ,List.length_map])))
theorem c_findI (l:List aD)(x:aD){n2 n3:Nat}{z2 z3:List AV}(hl:l.length<1000000)(hk:∀y∈l,y.n5.length<1000000):CB 51 [.agg [.vec l.length (p6 l),.vec n2 z2,.vec n3 z3],.agg [.int .i64 x.proc,.vec x.n5.length (l5 x.n5)]] h (.int .i64 (fI l x)):=by
  refine .bz Tryz.f51 34 ?_;refine c26z ?_;refine .jZ (fun m st=>∃(i:Nat),(m=l.length-i∧((∀d,d<i→l.getD d c9≠x)∧i≤l.length))∧st=⟨mkS 34 [(2,AV.ptr h.length 0 0),(3,AV.ptr (h.length+1) 0 0),(5,AV.int .i64 ((i:Nat):Int))],h++[⟨0,false,34,3,[.vec l.length (p6 l),.vec n2 z2,.vec n3 z3],0⟩,⟨0,false,69,2,[.int .i64 x.proc,.vec x.n5.length (l5 x.n5)],0⟩]⟩) _ (.v ⟨0,⟨rfl,⟨t106,by omega⟩⟩,rfl⟩) ?_;rintro m sl h' ⟨i,⟨hm,⟨hI,hi⟩⟩,hst⟩;obtain ⟨rfl,rfl⟩:=St.mk.inj hst;refine c1z ?_;refine u2z ?_ ?_
  ·intro e1 qe1;refine c9z ?_;refine .ss u9 (mkP 20 [0,1,0,7,15,31,0,64,255,511,1023,2047,1023,8191,16383,32767,1023,66559,262143,524287] []) ?_;refine .k 8 [] ?_;refine .k 2 [] ?_;refine .spl 22 rfl rfl (fun e2=>?_) (fun e2=>?_)
   ·try simp only[e2]
    have qe2:=fact e2;refine .k 8 [(9,22)] ?_;refine .ca rfl rfl (c_same _ _ (hk _ (j7 (by omega)))) ?_;refine .n [] ?_;refine u2z ?_ ?_
    ·intro e3 qe3;refine .c7 [5] ?_;refine .z ?_;exact .ret (.ex (hq:=t139))
    intro e3 qe3;refine c8z ?_;refine .c7 [2,3,5] ?_;refine .rz ?_;exact ⟨_,by omega,.v ⟨(i+1),⟨rfl,⟨it_ne hI t231,by omega⟩⟩,rfl⟩⟩
   try simp only[e2]
   have qe2:=fact e2;refine .k 8 [(9,22)] ?_;refine .n [(9,22)] ?_;refine c47z ?_;refine .c7 [2,3,5] ?_;refine .rz ?_;exact ⟨_,by omega,.v ⟨(i+1),⟨rfl,⟨it_ne hI t231,by omega⟩⟩,rfl⟩⟩
  intro e1 qe1;refine c10z ?_;refine c4z ?_;exact .ret (.ex (hq:=t139))
end Go.Proofs.YtapdldekgbbomaaGreatDoor
end
section
namespace Go.Proofs.YtapdldekgbbomaaGreatDoor
open Go.Ab Go.Un
theorem n9.cx {P:Program}{C:Cfg}{h:c8}{ops:Array Oper}{o:Oper}{rest:List Oper}{Q:St→Prop}{n d:Nat}{l:List (Nat×AV)}{c:Call}{f:FuncId}{args:List AV}{K:AV→c8→Prop}(ho:o.op=.call c)(ht:aB C (AN C n l) c=some (f,args))(hb:r7 C f=true)
    (hc:l6 P C f args h K) (hk:∀y h',K y h'→n9 P C ops rest ⟨mkS n ((d,y)::l),h'⟩ Q) (hw:yV ops n l o=some true:=by rfl) (hd:o.dst=some d:=by rfl):n9 P C ops (o::rest) ⟨mkS n l,h⟩ Q:=
  n9.call (tC▸hw) ho (rC▸ht) hb (hc.mono fun y h' hq=>by rw[hd];show n9 P C ops rest ⟨(mkS n l).set d y,h'⟩ Q;rw[cM];exact hk y h' hq)
def qH (u:Un)(L:List aD)(it:aD)(cs:List Int)(n:Nat):Prop:=∀j,j<n→
  (jI ((g5 u it).getD j j4)→0≤cs.getD j 0∧cs.getD j 0<L.length∧L.getD (cs.getD j 0).toNat c9=eJ u it j)∧(¬jI ((g5 u it).getD j j4)→cs.getD j 0 = -1)
structure LI (u:Un)(L:List aD):Prop where
  w:∀it∈L,WIt u it
  nd:L.Nodup
  z:0<L.length∧L.getD 0 c9=⟨0,[]⟩
structure RI (L:List aD)(R:List Int):Prop where
  p:1≤R.length
  r:∀x∈R,0≤x∧x<L.length
  s:R.Pairwise (·<·)
def PI (u:Un)(L:List aD)(CS:List (List Int))(i:Nat):Prop:=∀j,j<i→(CS.getD j []).length=(g5 u (L.getD j c9)).length∧qH u L (L.getD j c9) (CS.getD j []) (g5 u (L.getD j c9)).length
def kO (u:Un)(L:List aD)(i:Nat):Nat:=((L.take i).map fun it=>(g5 u it).length).sum
variable {i:Nat}
theorem nV {α:Type}{l m:List α}{d:α}(h:i<l.length):(l++m).getD i d=l.getD i d:=by simp[List.getD,List.getElem?_append_left h]
variable {u:Un}{L M:List aD}{it:aD}{n:Nat}
theorem qH.app {cs:List Int}(h:qH u L it cs n):qH u (L++M) it cs n:=fun j hj=>by obtain ⟨h1,h2⟩:=h j hj;refine ⟨fun hc=>?_,h2⟩;obtain ⟨q1,q2,q3⟩:=h1 hc;exact ⟨q1,by rw[List.length_append];omega,by rw[nV (by omega),q3]⟩
theorem qH.set {cs:List Int}{x:Int}(h:qH u L it cs n)(hn:n<cs.length)(hx:(jI ((g5 u it).getD n j4)→0≤x∧x<L.length∧L.getD x.toNat c9=eJ u it n)∧(¬jI ((g5 u it).getD n j4)→x = -1)):qH u L it (cs.set n x) (n+1):=fun j hj=>by
  by_cases hjn:j=n
  · subst hjn
    have:(cs.set j x).getD j 0=x:=by simp[List.getD,hn]
    rw[this];exact hx
  · have:(cs.set n x).getD j 0=cs.getD j 0:=by simp[List.getD,List.getElem?_set_ne (Ne.symm hjn)]
    rw[this];exact h j (by omega)
variable {x:aD}
theorem LI.snoc (h:LI u L)(hx:WIt u x)(hn:x∉L):LI u (L++[x]):=by
  refine ⟨fun it hit=>?_,?_,by simp,?_⟩
  · rcases List.mem_append.1 hit with hit | hit
    · exact h.w it hit
    · replace hit:=s7z hit
      subst hit;exact hx
  · rw[List.nodup_append]
    exact ⟨h.nd,by simp,fun a ha b hb=>by replace hb:=s7z hb;subst hb;exact fun e=>hn (e▸ha)⟩
  · rw[nV h.z.1];exact h.z.2
theorem LI.few (hu:WU u)(h:LI u L):L.length≤64:=(vC hu h.nd h.w).1
theorem LI.sites (hu:WU u)(h:LI u L)(i:Nat):kO u L i≤1664:=by have h1:=(vC hu (l:=L.take i) (h.nd.sublist (List.take_sublist _ _)) (fun it hit=>h.w it (List.mem_of_mem_take hit))).2;exact h1
theorem LI.n5 (hu:WU u)(h:LI u L):∀y∈L,y.n5.length≤2:=fun y hy=>by have w:=h.w y hy;have h1:=w.len;have h3:=hu.n5 y.proc.toNat (by have:=w.lo;have:=w.hi;omega);omega
variable {R:List Int}
theorem RI.app (h:RI L R):RI (L++M) R:=⟨h.p,fun x hx=>by have:=h.r x hx;rw[List.length_append];omega,h.s⟩
variable {l:List Int}
theorem HL {n x:Int}:x∈kG l n↔x∈l∨x=n:=by
  unfold kG;split
  · rename_i h
    constructor
    · exact .inl
    · rintro (h1 | rfl)
      · exact h1
      · exact h
  · rw[List.mem_append,List.mem_cons]
    constructor
    · rintro (h | h | h)
      · exact .inl (List.mem_of_mem_take h)
      · exact .inr h
      · exact .inl (List.mem_of_mem_drop h)
    · rintro (h | h)
      · rw[←List.take_append_drop (kW l n) l,List.mem_append]at h
        rcases h with h | h
        · exact .inl h
        · exact .inr (.inr h)
      · exact .inr (.inl h)
theorem take_kW {n:Int}:l.take (kW l n)=l.takeWhile fun x=>decide (x<n):=by
  conv=>lhs;rw[←List.takeWhile_append_dropWhile (p:=fun x=>decide (x<n)) (l:=l)]
  rw[List.take_append_of_le_length (by simp[kW])];exact List.take_of_length_le (by simp[kW])
theorem drop_kW {n:Int}:l.drop (kW l n)=l.dropWhile fun x=>decide (x<n):=by
  conv=>lhs;rw[←List.takeWhile_append_dropWhile (p:=fun x=>decide (x<n)) (l:=l)]
  rw[List.drop_append_of_le_length (by simp[kW])];rw[List.drop_of_length_le (by simp[kW]),List.nil_append]
theorem sH:∀{l:List Int} {n:Int},l.Pairwise (·<·)→n∉l→(l.takeWhile (fun x=>decide (x<n))++n::l.dropWhile (fun x=>decide (x<n))).Pairwise (·<·)
  | [],n,_,_=>by simp
  | x::l,n,h,hn=>by
    rw[List.pairwise_cons]at h;by_cases hx:x<n
    · have ih:=sH (l:=l) (n:=n) h.2 (fun hm=>hn (List.mem_cons_of_mem _ hm))
      rw[List.takeWhile_cons_of_pos t227,List.dropWhile_cons_of_pos t227,List.cons_append,List.pairwise_cons];refine ⟨fun y hy=>?_,ih⟩;rcases List.mem_append.1 hy with hy | hy
      · exact h.1 y ((List.takeWhile_sublist _).subset hy)
      · rcases List.mem_cons.1 hy with rfl | hy
        · exact hx
        · exact h.1 y ((List.dropWhile_sublist _).subset hy)
    · have hne:n≠x:=fun e=>hn (by rw[e];simp)
      rw[List.takeWhile_cons_of_neg t227,List.dropWhile_cons_of_neg t227,List.nil_append,List.pairwise_cons];refine ⟨fun y hy=>?_,List.pairwise_cons.2 h⟩;rcases List.mem_cons.1 hy with rfl | hy
      · omega
      · have:=h.1 y hy;omega
theorem RI.with (h:RI L R){n:Int}(hn:0≤n∧n<L.length):RI L (kG R n):=by
  refine ⟨?_,fun x hx=>?_,?_⟩
  · unfold kG
    split
    · exact h.p
    · simp only[List.length_append,List.length_cons];omega
  · rcases HL.1 hx with hx | rfl
    · exact h.r x hx
    · exact hn
  · unfold kG
    split
    · exact h.s
    · rename_i hm
      rw[take_kW,drop_kW];exact sH h.s hm
theorem xG:∀{R:List Int} {a b:Int},R.Pairwise (·<·)→(∀x∈R,a≤x∧x<b)→R.length≤(b-a).toNat
  | [],a,b,_,_=>by simp
  | x::R,a,b,h,hr=>by rw[List.pairwise_cons]at h;have h0:=hr x (by simp);have ih:=xG (R:=R) (a:=x+1) (b:=b) h.2 (fun y hy=>⟨by have:=h.1 y hy;omega,(hr y (by simp[hy])).2⟩);simp only[List.length_cons];omega
theorem RI.len (hu:WU u)(hl:LI u L)(h:RI L R):R.length≤64:=by have h1:=xG h.s (a:=0) (b:=(L.length:Int)) h.r;have h2:=hl.few hu;omega
theorem BP (h:i<L.length):kO u L (i+1)=kO u L i+(g5 u (L.getD i c9)).length:=by unfold kO;rw[taken (d:=c9) h];simp
variable {CS:List (List Int)}
theorem PI.step {v:List Int}(h:PI u L CS i)(hc:CS.length=i)(hi:i<L.length)(hv:v.length=(g5 u (L.getD i c9)).length)(hok:qH u (L++M) (L.getD i c9) v (g5 u (L.getD i c9)).length):PI u (L++M) (CS++[v]) (i+1):=fun j hj=>by
  by_cases hji:j=i
  · subst hji
    have e1:(CS++[v]).getD j []=v:=by subst hc;simp[List.getD]
    rw[e1,nV hi];exact ⟨hv,hok⟩
  · have e1:(CS++[v]).getD j []=CS.getD j []:=nV (by omega)
    obtain ⟨h1,h2⟩:=h j (by omega);rw[e1,nV (by omega)];exact ⟨h1,h2.app⟩
theorem N9 {l:List (List Int)}{x:List Int}:s6 (l++[x])=s6 l++[.vec x.length (l5 x)]:=by simp[s6]
theorem O0 {l:List aD}:p6 (l++[x])=p6 l++[.int .i64 x.proc,.vec x.n5.length (l5 x.n5)]:=by simp[p6,AS]
theorem PO (l:List (List Int)):aO (s6 l):=aO.map fun _=>.vec
theorem PQ (l:List aD):aO (p6 l):=aO.flat fun _=>aO.cons .int (aO.cons .vec .nil)
variable {h:c8}{g:Nat}
theorem app_its {b0 b1 b3 b4 b5 b6 b7:Blk}{l:c8}(hz:L.length=n)(hn:n<1000):j5 cfg 69 (h++(b0::b1::⟨g,false,69,2,p6 L,0⟩::b3::b4::b5::b6::b7::⟨0,false,69,2,[.int .i64 x.proc,.vec x.n5.length (l5 x.n5)],0⟩::l)) (.own (h.length+2) g 0 n) (.own (h.length+8) 0 0 1)=some (.own (h.length+2) (g+1) 0 (n+1),h++(b0::b1::⟨g+1,false,69,2,p6 (L++[x]),0⟩::b3::b4::b5::b6::b7::⟨0,false,69,2,[.int .i64 x.proc,.vec x.n5.length (l5 x.n5)],0⟩::l)):=by
  subst hz;have e1:cfg.sz 69=2:=rfl;have e2:(cfg.ti 69).bytes=32:=rfl;have hm:L.length+1≤maxLen:=by
    have:(1001:Nat)≤maxLen:=by decide
    omega
  have hb:(L.length+1)*32≤140737488355328:=by omega
  have h1:(p6 L).length=L.length*2:=by rw[w8];omega
  have ht:List.take (L.length*2) (p6 L)=p6 L:=List.take_of_length_le (by omega);have hnl:¬(L.length+1)*2≤L.length*2:=by omega
  simp[j5,rd,lenOf,e1,e2,h1,hm,hb,ht,hnl,o7,n7,O0]
theorem app_cs {b0 b1 b2 b3 b4 b6:Blk}{l:c8}{x:List Int}{m:Nat}(hn:CS.length=n)(hx:x.length=m)(hl:n<100000):j5 cfg 22 (h++(b0::b1::b2::b3::b4::p8 22 1 g (s6 CS)::b6::⟨0,false,22,1,[.vec m (l5 x)],0⟩::l)) (.own (h.length+5) g 0 n) (.own (h.length+7) 0 0 1)=some (.own (h.length+5) (g+1) 0 (n+1),h++(b0::b1::b2::b3::b4::p8 22 1 (g+1) (s6 (CS++[x]))::b6::⟨0,false,22,1,[.vec m (l5 x)],0⟩::l)):=by subst hn hx;rw[aC (C:=cfg) (K:=1) (m:=1) (new:=[.vec x.length (l5 x)]) (zs:=s6 CS) t30 rfl (by omega) (by simp[s6]) rfl (by omega) t205 rfl (by decide) (by omega),←N9,n7];rfl
theorem W4:∀{v:List Int} {i:Nat} {x:Int},i<v.length→List.take i (l5 v)++AV.int .i64 x::List.drop (i+1) (l5 v)=l5 (v.set i x)
  | y::v,0,x,_=>rfl
  | y::v,i+1,x,h=>by have ih:=W4 (v:=v) (i:=i) (x:=x) (by simpa using h);simp only[l5,List.map_cons,List.set_cons_succ,List.take_succ_cons,List.drop_succ_cons,List.cons_append]at ih ⊢;rw[ih]
theorem zeros_I:(List.replicate n [AV.int .i64 0]).flatten=l5 (List.replicate n 0):=by
  induction n with
  | zero=>rfl
  | succ n ih=>rw[List.replicate_succ,List.flatten_cons,ih];simp[l5,List.replicate_succ]
theorem frz_its {d:Nat}{H:c8}{l:List aD}:s5 (mC n H (d+1)) (p6 l)=some (p6 l):=(PQ l).frz _ _ _
theorem O1 {H:c8}{β γ n1 n2 n3:Nat}{z3:List AV}(hb:H[β]?=some ⟨g,false,69,2,p6 L,0⟩)(hc:H[γ]?=some (p8 22 1 i (s6 CS)))(h1:L.length=n1)(h2:CS.length=n2)(hl:L.length<1000000)(hk:∀y∈L,y.n5.length<1000000):CB 51 [.agg [.own β g 0 n1,.own γ i 0 n2,.vec n3 z3],.agg [.int .i64 x.proc,.vec x.n5.length (l5 x.n5)]] H (.int .i64 (fI L x)):=by
  subst h1 h2;have e1:mC 0 H 6 (.own β g 0 L.length)=some (.vec L.length (p6 L)):=by rw[gQ,hb];simp only[Nat.zero_le,and_self,if_true,Bool.false_eq_true,if_false,Nat.zero_add];rw[if_pos (by rw[w8];omega),List.drop_zero,List.take_of_length_le (by rw[w8];omega),frz_its]
  have e2:mC 0 H 6 (.own γ i 0 CS.length)=some (.vec CS.length (s6 CS)):=eN hc (Nat.zero_le _) (by simp[s6]) (by omega) ((PO CS).frz _ _ _);have e:LU 0 H (.agg [.own β g 0 L.length,.own γ i 0 CS.length,.vec n3 z3])=some (.agg [.vec L.length (p6 L),.vec CS.length (s6 CS),.vec n3 z3]):=by simp only[LU,s5,e1,e2,nP,Option.map_some]
  have ha:KB 0 H [.agg [.vec L.length (p6 L),.vec CS.length (s6 CS),.vec n3 z3],.agg [.int .i64 x.proc,.vec x.n5.length (l5 x.n5)]] [.agg [.own β g 0 L.length,.own γ i 0 CS.length,.vec n3 z3],.agg [.int .i64 x.proc,.vec x.n5.length (l5 x.n5)]]:=And.intro (.inr e) (And.intro (.inr rfl) trivial);exact l6.borrow ha ((c_findI L x hl hk).mono fun _ _ h=>h.1)
theorem cQ {l:List (List Int)}:(s6 l).length=l.length:=by simp[s6]
variable {pc:Nat}
theorem BQ (hu:WU u)(w:WIt u it)(hpc:pc<(g5 u it).length)(hc:jI ((g5 u it).getD pc j4)){y:aD}(hy:eJ u it pc=y):CB 50 [.agg [.vec u.globals.length (l5 u.globals),.vec u.c5.length (j6 u.c5),.vec u.procs.length (n8 u.procs),.int .i64 u.main],.agg [.int .i64 it.proc,.vec it.n5.length (l5 it.n5)],.int .i64 ((pc:Nat):Int)] h (.tup [.agg [.int .i64 y.proc,.vec y.n5.length (l5 y.n5)],.bool true]):=by subst hy;exact HK hu w hpc hc
theorem BS (hu:WU u)(w:WIt u (L.getD i c9))(hi:L.getD i c9=it)(hpc:pc<(g5 u it).length)(hc:jI ((g5 u it).getD pc j4)){y:aD}(hy:eJ u it pc=y):CB 50 [.agg [.vec u.globals.length (l5 u.globals),.vec u.c5.length (j6 u.c5),.vec u.procs.length (n8 u.procs),.int .i64 u.main],.agg [.int .i64 (L.getD i c9).proc,.vec (L.getD i c9).n5.length (l5 (L.getD i c9).n5)],.int .i64 ((pc:Nat):Int)] h (.tup [.agg [.int .i64 y.proc,.vec y.n5.length (l5 y.n5)],.bool true]):=by subst hi;exact BQ hu w hpc hc hy
theorem BT (hu:WU u)(w:WIt u (L.getD i c9))(hi:L.getD i c9=it)(hpc:pc<(g5 u it).length)(hc:¬jI ((g5 u it).getD pc j4)):CB 50 [.agg [.vec u.globals.length (l5 u.globals),.vec u.c5.length (j6 u.c5),.vec u.procs.length (n8 u.procs),.int .i64 u.main],.agg [.int .i64 (L.getD i c9).proc,.vec (L.getD i c9).n5.length (l5 (L.getD i c9).n5)],.int .i64 ((pc:Nat):Int)] h (.tup [.agg [.int .i64 0,.vec 0 []],.bool false]):=by subst hi;exact HJ hu w hpc hc
theorem mx2000:(2000:Nat)≤maxLen:=by decide
theorem zZ {v:List Int}{i:Nat}{x:Int}(h:i<v.length):(v.set i x).getD i 0=x:=by simp[List.getD,h]
theorem PR {v:List Int}{x:Int}(h:i<v.length):List.take 1 (List.drop i (l5 (v.set i x)))=[.int .i64 x]:=by rw[hU (by rw[List.length_set];exact h),zZ h]
theorem HM (h:i≤L.length):kO u (L++M) i=kO u L i:=by unfold kO;rw[List.take_append_of_le_length h]
theorem wit0 (hu:WU u):WIt u ⟨0,[]⟩:=by have:=hu.pl;refine ⟨Int.le_refl _,by show (0:Int)<u.procs.length;omega,?_,fun x hx=>by simp at hx⟩;show 0=(u.procs.getD 0 pT).n5.toNat;rw[hu.zero];rfl
theorem wc_of (hu:WU u)(hL:LI u L)(hR:RI L R)(hc:CS.length=L.length)(hP:PI u L CS L.length):WC u ⟨L,CS,R⟩:=
  ⟨⟨hL.z.1,hL.few hu⟩,hL.z.2,hL.w,hL.nd,hc,fun i hi=>(hP i hi).1,fun i hi pc hpc=>(hP i hi).2 pc hpc,hR.p,hR.r,hR.s⟩
attribute [local go_sem] rd u7 p7 bT dB w6 bE gD dU q9 bO aZ n6 bV Int.natCast_nonneg Int.natCast_inj List.length_map wrap64 gJ jT jU T8 F3 L9 T9 qS max2 fP dG bW Nat.reduceMul nR kM jH vN hU dW W3 dX cP fV w8 aJ app_its app_cs W4 zeros_I cQ
section
attribute [local go_sem] PR List.length_set
theorem c_close (hu:WU u):l6 Tryz.prog cfg 27 [.agg [.vec u.globals.length (l5 u.globals),.vec u.c5.length (j6 u.c5),.vec u.procs.length (n8 u.procs),.int .i64 u.main]] h (fun y' h'=>(∃c,WC u c∧y'=.tup [.agg (VP c),.int .i64 0])∧h'=h):=by
  refine .bz Tryz.f27 109 ?_;refine c184z ?_;refine .c7 [1,2,4] ?_;refine g7.kK (β:=h.length+2) [.int .i64 0,.vec 0 []] t30 ?_ ?_;exact ⟨.inl (by rw[hu.main]),.inr ⟨rfl,rfl⟩,trivial⟩;simp only[List.append_assoc,List.cons_append,List.nil_append,o7,n7,List.set_cons_succ,List.set_cons_zero,List.length_append,List.length_cons,List.length_nil,Nat.reduceAdd,Nat.zero_add];refine g7.mL (β:=h.length+4) (k:=1) t30 rfl ?_;simp only[List.append_assoc,List.cons_append,List.nil_append,o7,n7,List.set_cons_succ,List.set_cons_zero,List.length_append,List.length_cons,List.length_nil,Nat.reduceAdd,Nat.zero_add];refine g7.uR (γ:=h.length+3) (β:=h.length+4) (k:=2) (off:=0) (len:=1) (cs:=[.int .i64 0]) t30 rfl (by simp) rfl t30 (by omega) rfl ?_;simp only[List.append_assoc,List.cons_append,List.nil_append,o7,n7,List.set_cons_succ,List.set_cons_zero,List.length_append,List.length_cons,List.length_nil,Nat.reduceAdd,Nat.zero_add];generalize dN _ _=Rb;refine c26z ?_;refine .aW (fun m st=>∃(i:Nat) (L:List aD) (g:Nat) (R:List Int) (CS:List (List Int)),(m=65-i∧(LI u L∧RI L R∧i≤L.length∧CS.length=i∧PI u L CS i))∧st=⟨mkS 109 [(1,AV.ptr h.length 0 0),(2,AV.ptr (h.length+1) 0 0),(4,AV.ptr (h.length+4) 0 0),(5,AV.int .i64 ((kO u L i:Nat):Int)),(6,AV.int .i64 ((i:Nat):Int))],h++[⟨0,false,30,4,[.vec u.globals.length (l5 u.globals),.vec u.c5.length (j6 u.c5),.vec u.procs.length (n8 u.procs),.int .i64 u.main],0⟩,⟨0,false,34,3,[.l7,.l7,.l7],0⟩,⟨g,false,69,2,p6 L,0⟩,Rb,⟨0,false,34,3,[.own (h.length+2) g 0 L.length,.own (h.length+5) i 0 i,.vec R.length (l5 R)],0⟩,p8 22 1 i (s6 CS)]⟩) (.v ⟨0,([⟨0,[]⟩]:List aD),0,([0]:List Int),([]:List (List Int)),⟨rfl,⟨⟨fun it hit=>by replace hit:=s7z hit;subst hit;exact wit0 hu,by simp,by simp⟩,⟨by simp,by simp,by simp⟩,by omega,rfl,fun j hj=>by omega⟩⟩,rfl⟩ (hs:=t119)) ?_;rintro m sl h' ⟨i,L,g,R,CS,⟨hm,⟨hL,hR,hi,hCS,hP⟩⟩,hst⟩;obtain ⟨rfl,rfl⟩:=St.mk.inj hst;clear hst;have hfew:=hL.few hu;have hrl:=hR.len hu hL;refine c1z ?_;refine u2z ?_ ?_
  ·intro e1 qe1;refine c9z ?_;have hw:WIt u (L.getD i c9):=hL.w _ (j7 (by omega));have hw1:=hw.lo;have hw2:=hw.hi;have hcd:=lK hu hw;have hs0:=hL.sites hu i;have hs1:kO u L (i+1)=kO u L i+(g5 u (L.getD i c9)).length:=by rw[BP (by omega)]
   have hs2:=hL.sites hu (i+1);refine .ss u9 (mkP 12 [0,1,0,4,0,28,60,124,255,511,1023,2047] []) ?_;refine c159z ?_;refine .c7 [1,2,4,5,6,7,34] ?_;refine c267z ?_;refine .spl 42 rfl rfl (fun e2=>by exfalso;have q:=fact e2;omega) (fun e2=>?_);try simp only[e2]
   have qe2:=fact e2;refine .m [(2,42)] ?_;refine uFbz ?_;intro e3 qe3;refine .sk ?_;refine .c7 [1,2,4,5,6,7,34] ?_;have hcl1:=hcd.1;have hclm:(g5 u (L.getD i c9)).length≤2000:=by omega
   have hmx:((g5 u (L.getD i c9)).length:Int)≤(maxLen:Int):=Int.ofNat_le.2 (Nat.le_trans hclm mx2000);refine c26z ?_;refine .aW (fun m st=>∃(pc:Nat) (L1:List aD) (g1:Nat) (R1:List Int) (v:List Int),(m=(g5 u (L.getD i c9)).length-pc∧(LI u L1∧RI L1 R1∧(∃M,L1=L++M)∧pc≤(g5 u (L.getD i c9)).length∧v.length=(g5 u (L.getD i c9)).length∧qH u L1 (L.getD i c9) v pc))∧st=⟨mkS 109 [(1,AV.ptr h.length 0 0),(2,AV.ptr (h.length+1) 0 0),(4,AV.ptr (h.length+4) 0 0),(5,AV.int .i64 ((kO u L (i+1):Nat):Int)),(6,AV.int .i64 ((i:Nat):Int)),(7,AV.vec (g5 u (L.getD i c9)).length (r8 (g5 u (L.getD i c9)))),(8,AV.own (h.length+6) 0 0 (g5 u (L.getD i c9)).length),(9,AV.int .i64 ((pc:Nat):Int))],h++[⟨0,false,30,4,[.vec u.globals.length (l5 u.globals),.vec u.c5.length (j6 u.c5),.vec u.procs.length (n8 u.procs),.int .i64 u.main],0⟩,⟨0,false,34,3,[.l7,.l7,.l7],0⟩,⟨g1,false,69,2,p6 L1,0⟩,Rb,⟨0,false,34,3,[.own (h.length+2) g1 0 L1.length,.own (h.length+5) i 0 i,.vec R1.length (l5 R1)],0⟩,p8 22 1 i (s6 CS),⟨0,false,3,1,l5 v,0⟩]⟩) (.v ⟨0,L,g,R,(List.replicate (g5 u (L.getD i c9)).length 0),⟨rfl,⟨hL,hR,⟨[],by simp⟩,by omega,by simp,fun j hj=>by omega⟩⟩,rfl⟩) ?_;rintro m sl h' ⟨pc,L1,g1,R1,v,⟨hm,⟨hL1,hR1,⟨M,hM⟩,hpc,hv,hok⟩⟩,hst⟩;obtain ⟨rfl,rfl⟩:=St.mk.inj hst;clear hst;have hfew1:=hL1.few hu;have hrl1:=hR1.len hu hL1;have hit1:L1.getD i c9=L.getD i c9:=by rw[hM,nV (by omega)]
   have hw1:WIt u (L1.getD i c9):=by rw[hit1];exact hw
   have hil1:i<L1.length:=by rw[hM,List.length_append];omega
   refine c1z ?_;refine u2z ?_ ?_
   ·intro e4 qe4;refine c9z ?_;by_cases hcl:jI ((g5 u (L.getD i c9)).getD pc j4)
    ·generalize hy:eJ u (L.getD i c9) pc=y;have hwy:WIt u y:=by rw[←hy];exact wX hu hw (by omega) hcl
     refine .sg u9 (mkH 14 [0,0,2,0,14,30,0,127,255,511,511,0,3071,8191] [11,12] [] [0,2048,6144] [0,1,2,3,4,5,6,7,8,9,10]) 0 ?_;refine c81z ?_;refine .p 2 ?_;refine c96z ?_;refine .cl rfl rfl (fun _=>BS hu hw1 hit1 (by omega) hcl hy) ?_;refine .p 3 ?_;refine c180z ?_;refine .p 1 ?_;refine c233z ?_;refine .seq ?_;refine .c7 [1,2,4,5,6,7,8,9,10,11] ?_;refine c11z ?_;refine c100z ?_;refine c39z ?_;refine .ca rfl rfl (O1 t30 t30 rfl hCS (by omega) (fun y hy=>Nat.lt_of_le_of_lt (LI.n5 hu hL1 y hy) (by omega))) ?_;refine .n ?_;refine u2z ?_ ?_
     ·intro e5 qe5;refine c2z ?_;refine .c7 [1,2,4,5,6,7,8,9,10] ?_;have hny:y∉L1:=fun hm=>by have:=W2 hm;omega
      have hL2:=hL1.snoc hwy hny;have hfew2:=hL2.few hu;have hmy:y∈L1++[y]:=by simp
      have hR2:=hR1.app (M:=[y]);have hok2:=hok.app (M:=[y]);obtain ⟨hf1,hf2,hf3⟩:=W2 hmy;have hsg:=@zZ v pc (fI (L1++[y]) y) (by omega);refine c28z ?_;refine .ca rfl rfl (O1 (L:=(L1++[y])) t30 t30 (by rw[List.length_append];rfl) hCS (by rw[List.length_append,List.length_singleton];omega) (fun y hy=>Nat.lt_of_le_of_lt (LI.n5 hu hL2 y hy) (by omega))) ?_;refine .n ?_;refine .z ?_;refine u2z ?_ ?_
      ·intro e6 qe6;refine .c7 [1,2,4,5,6,7,8,9] ?_;refine .og u9 (mkH 9 [0,1,0,0,12,28,63,127,255] [8] [] [0,256] []) 0 ?_;refine .p 1 ?_;refine c63z ?_;refine .rn [true] ?_;refine .cl rfl rfl (fun _=>HG _ _ (by omega)) ?_;refine .p 1 ?_;refine .en [true] [256,0] [_] ?_;refine c31z ?_;refine c271z ?_;exact ⟨_,by omega,.v ⟨(pc+1),(L1++[y]),(g1+1),(kG R1 (fI (L1++[y]) y)),(v.set pc (fI (L1++[y]) y)),⟨rfl,⟨hL2,hR2.with ⟨hf1,hf2⟩,⟨M++[y],by rw[hM,List.append_assoc]⟩,by omega,t177,hok2.set (by omega) ⟨fun _=>⟨hf1,hf2,hf3.trans hy.symm⟩,fun hc=>absurd hcl hc⟩⟩⟩,rfl⟩ (he:=t52) (hk:=t49)⟩
      intro e6 qe6;refine c8z ?_;refine c271z ?_;exact ⟨_,by omega,.v ⟨(pc+1),(L1++[y]),(g1+1),R1,(v.set pc (fI (L1++[y]) y)),⟨rfl,⟨hL2,hR2,⟨M++[y],by rw[hM,List.append_assoc]⟩,by omega,t177,hok2.set (by omega) ⟨fun _=>⟨hf1,hf2,hf3.trans hy.symm⟩,fun hc=>absurd hcl hc⟩⟩⟩,rfl⟩ (he:=t52) (hk:=t49)⟩
     intro e5 qe5;refine .sk ?_;have hmy:y∈L1:=Classical.byContradiction fun hm=>by have:=fI_not hm;omega
     have hL2:=hL1;have hR2:=hR1;have hok2:=hok;obtain ⟨hf1,hf2,hf3⟩:=W2 hmy;have hsg:=@zZ v pc (fI L1 y) (by omega);refine c28z ?_;refine .ca rfl rfl (O1 (L:=L1) t30 t30 rfl hCS (by omega) (fun y hy=>Nat.lt_of_le_of_lt (LI.n5 hu hL1 y hy) (by omega))) ?_;refine .n ?_;refine .c7 [1,2,4,5,6,7,8,9] ?_;refine .z ?_;refine u2z ?_ ?_
     ·intro e7 qe7;refine .og u9 (mkH 9 [0,1,0,0,12,28,63,127,255] [8] [] [0,256] []) 0 ?_;refine .p 1 ?_;refine c63z ?_;refine .rn [true] ?_;refine .cl rfl rfl (fun _=>HG _ _ (by omega)) ?_;refine .p 1 ?_;refine .en [true] [256,0] [_] ?_;refine c31z ?_;refine c271z ?_;exact ⟨_,by omega,.v ⟨(pc+1),L1,g1,(kG R1 (fI L1 y)),(v.set pc (fI L1 y)),⟨rfl,⟨hL2,hR2.with ⟨hf1,hf2⟩,⟨M,by rw[hM]⟩,by omega,t177,hok2.set (by omega) ⟨fun _=>⟨hf1,hf2,hf3.trans hy.symm⟩,fun hc=>absurd hcl hc⟩⟩⟩,rfl⟩ (he:=t52) (hk:=t49)⟩
     intro e7 qe7;refine c8z ?_;refine .rz ?_;exact ⟨_,by omega,.v ⟨(pc+1),L1,g1,R1,(v.set pc (fI L1 y)),⟨rfl,⟨hL2,hR2,⟨M,by rw[hM]⟩,by omega,t177,hok2.set (by omega) ⟨fun _=>⟨hf1,hf2,hf3.trans hy.symm⟩,fun hc=>absurd hcl hc⟩⟩⟩,rfl⟩ (he:=t52) (hk:=t49)⟩
    ·skip;refine .sg u9 (mkH 14 [0,0,2,0,14,30,0,127,255,511,511,0,3071,8191] [11,12] [] [0,2048,6144] [0,1,2,3,4,5,6,7,8,9,10]) 0 ?_;refine c81z ?_;refine .p 2 ?_;refine c96z ?_;refine .cl rfl rfl (fun _=>BT hu hw1 hit1 (by omega) hcl) ?_;refine .p 3 ?_;refine c180z ?_;refine .p 1 ?_;refine c233z ?_;refine .seq ?_;refine .c7 [1,2,4,5,6,7,8,9,10,11] ?_;refine c113z ?_;refine .z ?_;refine c10z ?_;refine .rz ?_;exact ⟨_,by omega,.v ⟨(pc+1),L1,g1,R1,(v.set pc (-1)),⟨rfl,⟨hL1,hR1,⟨M,hM⟩,by omega,t177,hok.set (by omega) ⟨fun hc=>absurd hc hcl,fun _=>rfl⟩⟩⟩,rfl⟩ (he:=t52) (hk:=t49)⟩
   intro e4 qe4;refine .exit ?_;obtain rfl:pc=(g5 u (L.getD i c9)).length:=by omega
   refine g7.wT (t:=8) (γ:=h.length+6) (len:=(g5 u (L.getD i c9)).length) (by rw[o7];exact congrArg some (jG (by intro h0;have:=congrArg List.length h0;rw[n6]at this;simp only[List.length_nil]at this;omega)).symm) (by rw[n6,hv,Nat.mul_one]) (by omega) (oR _) (rB (by decide) rfl) ?_;rw[cM];simp only[n7,List.set_cons_succ,List.set_cons_zero];generalize iC _ _ _ _ _=Vb;change g7 ..;refine c2z ?_;refine .c7 [1,2,4,5,6] ?_;refine .rz ?_;have hP1:PI u L1 (CS++[v]) (i+1):=by rw[hM];exact hP.step hCS (by omega) hv (by rw[←hM];exact hok)
   have hs3:kO u L1 (i+1)=kO u L (i+1):=by rw[hM,HM (by omega)]
   exact ⟨_,by omega,.v ⟨(i+1),L1,g1,R1,(CS++[v]),⟨rfl,⟨hL1,hR1,by omega,by simp[hCS],hP1⟩⟩,rfl⟩ (he:=by (simp only[List.append_assoc,List.cons_append,List.nil_append,List.length_append,List.length_cons,List.length_nil,hCS];rfl)) (hk:=by exact (z8.refl _).app rfl ⟨.inl rfl,.inl rfl,.inr ((PQ _).refs _),.inl rfl,.inr (dK.get ⟨.own _ _ _ _ (by simp),.own _ _ _ _ (by simp),.vec _ _,trivial⟩),.inr (by rw[o9];exact (PO _).refs _),trivial⟩) (hs:=t119)⟩
  intro e1 qe1;refine .exit ?_;obtain rfl:i=L.length:=by omega
  refine g7.uR (γ:=h.length+2) (β:=h.length+4) (k:=0) (off:=0) (len:=L.length) (cs:=p6 L) t30 rfl (by simp only[w8];omega) (by rw[List.drop_zero,List.take_of_length_le (by simp only[w8];omega)];exact (PQ _).KC) t30 (by omega) rfl ?_;simp only[List.append_assoc,List.cons_append,List.nil_append,o7,n7,List.set_cons_succ,List.set_cons_zero,List.length_append,List.length_cons,List.length_nil,Nat.reduceAdd,Nat.zero_add];refine g7.pR (γ:=h.length+5) (β:=h.length+4) (k:=1) (len:=L.length) t30 (by rw[cQ,hCS,Nat.mul_one]) (by omega) (PO _) t30 (by omega) rfl ?_;refine c22z ?_;refine .c7 [2,4] ?_;refine .z ?_;exact .ret (.ex (hq:=by exact ⟨⟨L,CS,R⟩,wc_of hu hL hR hCS hP,by simp only[VP,hCS]⟩))
end
end Go.Proofs.YtapdldekgbbomaaGreatDoor
end
section
namespace Go.Un
open Go.Ab
def chI (it:aD)(x:Ins)(m:Int):Int:=if x.op=4∧wW it x.pl=m then 1 else if x.op=5∧wW it x.pl=m then -1 else 0
variable {it:aD}{x:Ins}{m:Int}
theorem chI_1 (h:x.op=4)(h2:wW it x.pl=m):chI it x m=1:=by rw[chI,if_pos ⟨h,h2⟩]
theorem chI_2 (h:x.op=5)(h2:wW it x.pl=m):chI it x m = -1:=by rw[chI,if_neg (by omega),if_pos ⟨h,h2⟩]
theorem chI_0 (h:¬(x.op=4∧wW it x.pl=m))(h2:¬(x.op=5∧wW it x.pl=m)):chI it x m=0:=by rw[chI,if_neg h,if_neg h2]
theorem vT:chI it x m=1∨chI it x m = -1∨chI it x m=0:=by
 unfold chI;split
 ·exact .inl rfl
 ·split
  ·exact .inr (.inl rfl)
  ·exact .inr (.inr rfl)
variable {pc:Nat}
theorem HN {u:Un}(hu:WU u)(w:WIt u it)(hpc:pc<(g5 u it).length)(ho:((g5 u it).getD pc j4).op=4∨((g5 u it).getD pc j4).op=5):((g5 u it).getD pc j4).pl.param=true→0≤((g5 u it).getD pc j4).pl.index∧((g5 u it).getD pc j4).pl.index.toNat<it.n5.length:=by
 obtain ⟨_,_,h3,_⟩:=(lK hu w).2.2 pc hpc;intro hp;obtain ⟨h0,⟨_,h2⟩ | ⟨h1,_⟩⟩:=h3 ho
 ·refine ⟨h0,?_⟩;rw[w.len];simp only at h2;omega
 ·rw[hp]at h1;cases h1
def z5 (x:Ins)(pc:Nat):List Int:=if x.op=8 then [] else if x.op=7 then [x.target] else if x.op=6 then (if x.target=(pc:Int)+1 then [x.target] else [min x.target ((pc:Int)+1),max x.target ((pc:Int)+1)]) else [(pc:Int)+1]
def mP (x:Ins)(pc:Nat):AV:=.vec (z5 x pc).length (l5 (z5 x pc))
theorem HO (h:x.op=8):mP x pc=.vec 0 []:=by simp[mP,z5,h,l5]
theorem HP (h:x.op=7):mP x pc=.vec 1 [.int .i64 x.target]:=by simp[mP,z5,h,l5]
theorem W5 (h:x.op=6)(h2:x.target=(pc:Int)+1):mP x pc=.vec 1 [.int .i64 x.target]:=by simp[mP,z5,h,h2,l5]
theorem HQ (h:x.op=6)(h2:¬x.target=(pc:Int)+1):mP x pc=.vec 2 [.int .i64 (min x.target ((pc:Int)+1)),.int .i64 (max x.target ((pc:Int)+1))]:=by simp[mP,z5,h,h2,l5]
theorem HR (h8:¬x.op=8)(h7:¬x.op=7)(h6:¬x.op=6):mP x pc=.vec 1 [.int .i64 ((pc:Int)+1)]:=by simp[mP,z5,h8,h7,h6,l5]
theorem nF:(z5 x pc).length≤2:=by
 unfold z5;split
 ·simp
 ·split
  ·simp
  ·split
   ·split<;>simp
   ·simp
theorem HS {u:Un}(hu:WU u)(w:WIt u it)(hpc:pc<(g5 u it).length):∀d,d<(z5 ((g5 u it).getD pc j4) pc).length→0≤(z5 ((g5 u it).getD pc j4) pc).getD d 0∧(z5 ((g5 u it).getD pc j4) pc).getD d 0<(g5 u it).length:=by
 obtain ⟨h1,h2,h3⟩:=lK hu w;obtain ⟨_,h4,_⟩:=h3 pc hpc;have h5:¬((g5 u it).getD pc j4).op=8→pc+1<(g5 u it).length:=fun h8=>by
  by_cases e:pc=(g5 u it).length-1
  ·rw[←e]at h2;exact absurd h2 h8
  ·omega
 intro d hd;have key:∀x∈z5 ((g5 u it).getD pc j4) pc,0≤x∧x<(g5 u it).length:=by
  intro x hx;unfold z5 at hx;split at hx
  ·simp at hx
  ·rename_i h8;have h6:=h5 h8;split at hx
   ·rename_i h7;have:=h4 (.inr h7);replace hx:=s7z hx;omega
   ·split at hx
    ·rename_i h7;have:=h4 (.inl h7);split at hx
     ·replace hx:=s7z hx;omega
     ·replace hx:=s6z hx;omega
    ·replace hx:=s7z hx;omega
 exact key _ (j7 hd)
theorem kP (h:¬x.op=8):0<(z5 x pc).length:=by
 unfold z5;rw[if_neg h];split
 ·simp
 ·split
  ·split<;>simp
  ·simp
end Go.Un
end
section
namespace Go.Proofs.YtapdldekgbbomaaGreatDoor
open Go.Ab Go.Un
theorem gR {l:List Ins}{i:Nat}(h:i<l.length):List.take 12 (List.drop (i*12) (r8 l))=[.int .i64 (l.getD i j4).op,.int .i64 (l.getD i j4).target,.bool (l.getD i j4).global,.int .i64 (l.getD i j4).e.op,.int .i64 (l.getD i j4).e.num,.str (l.getD i j4).e.name,.vec (l.getD i j4).e.args.length (o8 (l.getD i j4).e.args),.bool (l.getD i j4).pl.param,.int .i64 (l.getD i j4).pl.index,.vec (l.getD i j4).pl.at'.length (o8 (l.getD i j4).pl.at'),.vec (l.getD i j4).ints.length (o8 (l.getD i j4).ints),.vec (l.getD i j4).places.length (eD (l.getD i j4).places)]:=by rw[read_in h,lS]
theorem TB (n:Nat):(List.replicate n [AV.int .i64 0]).flatten=l5 (List.replicate n 0):=by
  induction n with
  | zero=>rfl
  | succ n ih=>simp only[List.replicate_succ,List.flatten_cons,ih];rfl
variable {h l:c8}{b0:Blk}{g:Nat}{a:Int}
theorem PS:gT h.length (h++(b0::⟨g,false,3,1,[.int .i64 a],0⟩::l)) 6 (.own (h.length+1) g 0 1)=some (.vec 1 [.int .i64 a]):=BN (a:=[a]) t30 (by omega) rfl
theorem frz_2 {b:Int}:gT h.length (h++(b0::⟨g,false,3,1,[.int .i64 a,.int .i64 b],0⟩::l)) 6 (.own (h.length+1) g 0 2)=some (.vec 2 [.int .i64 a,.int .i64 b]):=BN (a:=[a,b]) t30 (by omega) rfl
theorem vec2 {b c d:Int}(h1:a=c)(h2:b=d):AV.vec 2 [.int .i64 a,.int .i64 b]=AV.vec 2 [.int .i64 c,.int .i64 d]:=by rw[h1,h2]
theorem frz_13 {b1 b2:Blk}:gT h.length (h++(b0::b1::b2::⟨g,false,3,1,[.int .i64 a],0⟩::l)) 6 (.own (h.length+3) g 0 1)=some (.vec 1 [.int .i64 a]):=BN (a:=[a]) t30 (by omega) rfl
theorem kQ {C:Cfg}{ρ:Operand→AV}{c:Call}{r:Operand}{name:String}{t:TypeId}{v:AV}{f:FuncId}(hc:c.callee=.invoke r name)(hr:ρ r=.iface t v)(hm:C.CI t name=some f):aB C ρ c=some (f,v::c.args.toList.map ρ):=by simp only[aB,hc,hr,hm]
theorem BU:cfg.CI 199 "lockorder/flow.next" = some 141:=by kernel_rfl
theorem HT:cfg.CI 201 "lockorder/flow.next" = some 142:=by kernel_rfl
theorem vU:cfg.CI 202 "lockorder/flow.next" = some 143:=by kernel_rfl
theorem G9:cfg.CI 203 "lockorder/flow.next" = some 144:=by kernel_rfl
attribute [local go_sem] rd w8 aJ w6 q9 n6 Int.natCast_nonneg Int.natCast_inj dW cP dX gR hU W4 TB List.length_set List.length_replicate Int.toNat_natCast_add_one EY wrap64 qS max2
variable {u:Un}{it:aD}{pc:Nat}
theorem c_fcode (hu:WU u)(w:WIt u it)(hpc:pc<(g5 u it).length):CB 77 [.agg [.vec u.globals.length (l5 u.globals),.vec u.c5.length (j6 u.c5),.vec u.procs.length (n8 u.procs),.int .i64 u.main],.agg [.int .i64 it.proc,.vec it.n5.length (l5 it.n5)],.int .i64 ((pc:Nat):Int)] h (.agg [.int .i64 ((g5 u it).getD pc j4).op,.int .i64 ((g5 u it).getD pc j4).target,.bool ((g5 u it).getD pc j4).global,.int .i64 ((g5 u it).getD pc j4).e.op,.int .i64 ((g5 u it).getD pc j4).e.num,.str ((g5 u it).getD pc j4).e.name,.vec ((g5 u it).getD pc j4).e.args.length (o8 ((g5 u it).getD pc j4).e.args),.bool ((g5 u it).getD pc j4).pl.param,.int .i64 ((g5 u it).getD pc j4).pl.index,.vec ((g5 u it).getD pc j4).pl.at'.length (o8 ((g5 u it).getD pc j4).pl.at'),.vec ((g5 u it).getD pc j4).ints.length (o8 ((g5 u it).getD pc j4).ints),.vec ((g5 u it).getD pc j4).places.length (eD ((g5 u it).getD pc j4).places)]):=by refine .bz Tryz.f77 17 ?_;have w1:=w.lo;have w2:=w.hi;have hsz:(g5 u it).length≤1664:=aI hu w;refine c61z ?_;refine .e 8 ?_;refine .n ?_;exact .ret (.ex (hq:=by rfl))
theorem TC (it:aD)(p:Pl)(hp:p.param=true→0≤p.index∧p.index.toNat<it.n5.length):CB 78 [.agg [.int .i64 it.proc,.vec it.n5.length (l5 it.n5)],.agg [.bool p.param,.int .i64 p.index,.vec p.at'.length (o8 p.at')]] h (.int .i64 (wW it p)):=by
  refine .bz Tryz.f78 28 ?_;refine c267z ?_;refine .spl 7 rfl rfl (fun e1=>?_) (fun e1=>?_)
  ·try simp only[e1]
   have qe1:=fact e1;refine .k 5 [(2,7)] ?_;refine .spl 12 rfl rfl (fun e2=>?_) (fun e2=>?_)
   ·try simp only[e2]
    have qe2:=fact e2;refine .m [(7,12)] ?_;refine u2z ?_ ?_
    ·intro e3 qe3;refine .c7 [2,3] ?_;refine .z ?_;exact .ret (.ex (hq:=t118))
    intro e3 qe3;refine .sk ?_;refine c193z ?_;exact .ret (.ex (hq:=t118))
   try simp only[e2]
   have qe2:=fact e2;refine .m [(7,12)] ?_;refine c14z ?_;refine c193z ?_;exact .ret (.ex (hq:=t118))
  try simp only[e1]
  have qe1:=fact e1;refine .k 8 [(2,7),(7,12)] ?_;refine .m [(7,12)] ?_;refine c14z ?_;refine c193z ?_;exact .ret (.ex (hq:=t118))
theorem PT (hu:WU u)(w:WIt u it)(hpc:pc<(g5 u it).length)(m:Int):CB 58 [.agg [.vec u.globals.length (l5 u.globals),.vec u.c5.length (j6 u.c5),.vec u.procs.length (n8 u.procs),.int .i64 u.main],.agg [.int .i64 it.proc,.vec it.n5.length (l5 it.n5)],.int .i64 ((pc:Nat):Int),.int .i64 m] h (.int .i64 (chI it ((g5 u it).getD pc j4) m)):=by
  refine .bz Tryz.f58 33 ?_;have w1:=w.lo;have w2:=w.hi;have hsz:(g5 u it).length≤1664:=aI hu w;refine c274z ?_;refine c44z ?_;refine c268z ?_;refine .spl 17 rfl rfl (fun e1=>?_) (fun e1=>?_)
  ·try simp only[e1]
   have qe1:=fact e1;refine .k 5 [(3,17)] ?_;refine .spl 22 rfl rfl (fun e2=>?_) (fun e2=>?_)
   ·try simp only[e2]
    have qe2:=fact e2;refine .m [(8,22)] ?_;refine c46z ?_;exact .ret (.ex (hq:=t17))
   try simp only[e2]
   have qe2:=fact e2;refine .k 3 [(8,22)] ?_;refine .ca rfl rfl (TC it ((g5 u it).getD pc j4).pl (HN hu w hpc (by omega))) ?_;refine .m [(8,22)] ?_;refine u2z ?_ ?_
   ·intro e3 qe3;refine c4z ?_;exact .ret (.ex (hq:=t17))
   intro e3 qe3;refine c100z ?_;refine .c7 [9] ?_;refine .z ?_;refine u2z ?_ ?_
   ·intro e4 qe4;refine .z ?_;exact .ret (.ex (hq:=t17))
   intro e4 qe4;refine c239z ?_;exact .ret (.ex (hq:=t17))
  try simp only[e1]
  have qe1:=fact e1;refine .k 8 [(3,17),(8,22)] ?_;refine .ca rfl rfl (TC it ((g5 u it).getD pc j4).pl (HN hu w hpc (by omega))) ?_;refine .m [(8,22)] ?_;refine u2z ?_ ?_
  ·intro e5 qe5;refine c4z ?_;exact .ret (.ex (hq:=t17))
  intro e5 qe5;refine c100z ?_;refine .c7 [9] ?_;refine .z ?_;refine u2z ?_ ?_
  ·intro e6 qe6;refine .z ?_;exact .ret (.ex (hq:=t17))
  intro e6 qe6;refine c239z ?_;exact .ret (.ex (hq:=t17))
theorem HU (hu:WU u)(w:WIt u it)(hpc:pc<(g5 u it).length)(m:Int):CB 24 [.agg [.vec u.globals.length (l5 u.globals),.vec u.c5.length (j6 u.c5),.vec u.procs.length (n8 u.procs),.int .i64 u.main],.agg [.int .i64 it.proc,.vec it.n5.length (l5 it.n5)],.int .i64 ((pc:Nat):Int),.int .i64 m] h (.int .i64 (chI it ((g5 u it).getD pc j4) m)):=by
  refine .bz Tryz.f24 44 ?_;have w1:=w.lo;have w2:=w.hi;have hsz:(g5 u it).length≤1664:=aI hu w;refine c61z ?_;refine .e 8 ?_;refine .n ?_;refine .sb ?_;refine c268z ?_;refine .spl 24 rfl rfl (fun e1=>?_) (fun e1=>?_)
  ·try simp only[e1]
   have qe1:=fact e1;refine .k 3 [(3,24)] ?_;refine .ca rfl rfl (HH it ((g5 u it).getD pc j4).pl (HN hu w hpc (by omega))) ?_;refine .m [(3,24)] ?_;refine u2z ?_ ?_
   ·intro e2 qe2;refine c4z ?_;exact .ret (.ex (hq:=t17))
   intro e2 qe2;refine c268z ?_;refine .spl 36 rfl rfl (fun e3=>?_) (fun e3=>?_)
   ·try simp only[e3]
    have qe3:=fact e3;refine .k 3 [(3,36)] ?_;refine .ca rfl rfl (HH it ((g5 u it).getD pc j4).pl (HN hu w hpc (by omega))) ?_;refine .m [(3,36)] ?_;refine u2z ?_ ?_
    ·intro e4 qe4;refine c4z ?_;exact .ret (.ex (hq:=t17))
    intro e4 qe4;refine c8z ?_;refine c4z ?_;exact .ret (.ex (hq:=t17))
   try simp only[e3]
   have qe3:=fact e3;refine .m [(3,36)] ?_;refine c47z ?_;refine c4z ?_;exact .ret (.ex (hq:=t17))
  try simp only[e1]
  have qe1:=fact e1;refine .m [(3,24)] ?_;refine .F ?_;refine c268z ?_;refine .spl 36 rfl rfl (fun e5=>?_) (fun e5=>?_)
  ·try simp only[e5]
   have qe5:=fact e5;refine .k 3 [(3,36)] ?_;refine .ca rfl rfl (HH it ((g5 u it).getD pc j4).pl (HN hu w hpc (by omega))) ?_;refine .m [(3,36)] ?_;refine u2z ?_ ?_
   ·intro e6 qe6;refine c4z ?_;exact .ret (.ex (hq:=t17))
   intro e6 qe6;refine c8z ?_;refine c4z ?_;exact .ret (.ex (hq:=t17))
  try simp only[e5]
  have qe5:=fact e5;refine .m [(3,36)] ?_;refine c47z ?_;refine c4z ?_;exact .ret (.ex (hq:=t17))
theorem c_ended (pc:Nat):CB 141 [.agg [],.int .i64 ((pc:Nat):Int)] h (.vec 0 []):=by refine .bz Tryz.f141 5 ?_;refine c184z ?_;exact .ret (.ex (hq:=by rfl))
theorem c_jump (pc:Nat)(t:Int):CB 142 [.agg [.int .i64 t],.int .i64 ((pc:Nat):Int)] h (.vec 1 [.int .i64 t]):=by refine .bz Tryz.f142 8 ?_;refine c184z ?_;exact .ret (.ex (hf:=by first | rfl | exact PS) (hq:=by rfl))
theorem HV (pc:Nat)(hp:pc<100000):CB 144 [.agg [],.int .i64 ((pc:Nat):Int)] h (.vec 1 [.int .i64 ((pc:Int)+1)]):=by refine .bz Tryz.f144 8 ?_;refine c184z ?_;exact .ret (.ex (hf:=by first | rfl | exact PS) (hq:=by rfl))
theorem W6 (pc:Nat)(t:Int)(hp:pc<100000):CB 143 [.agg [.int .i64 t],.int .i64 ((pc:Nat):Int)] h (if t=(pc:Int)+1 then AV.vec 1 [AV.int .i64 t] else AV.vec 2 [AV.int .i64 (min t ((pc:Int)+1)),AV.int .i64 (max t ((pc:Int)+1))]):=by
  refine .bz Tryz.f143 24 ?_;refine c54z ?_;refine u2z ?_ ?_
  ·intro e1 qe1;refine .c7 [2] ?_;refine .z ?_;exact .ret (.ex (hf:=by first | rfl | first | exact PS | exact frz_2) (hq:=t111))
  intro e1 qe1;refine .sk ?_;refine c174z ?_;refine .n ?_;exact .ret (.ex (hf:=by first | rfl | first | exact PS | exact frz_2) (hq:=t111))
def TD (x:Ins):AV:=if x.op=8 then .iface 199 (.agg []) else if x.op=7 then .iface 201 (.agg [.int .i64 x.target]) else if x.op=6 then .iface 202 (.agg [.int .i64 x.target]) else .iface 203 (.agg [])
variable {x:Ins}
theorem TE (h:x.op=8):TD x=.iface 199 (.agg []):=if_pos h
theorem TF (h:x.op=7):TD x=.iface 201 (.agg [.int .i64 x.target]):=by rw[TD,if_neg (by omega),if_pos h]
theorem HW (h:x.op=6):TD x=.iface 202 (.agg [.int .i64 x.target]):=by rw[TD,if_neg (by omega),if_neg (by omega),if_pos h]
theorem TG (h8:¬x.op=8)(h7:¬x.op=7)(h6:¬x.op=6):TD x=.iface 203 (.agg []):=by rw[TD,if_neg h8,if_neg h7,if_neg h6]
theorem HX (x:Ins):CB 76 [.agg [.int .i64 x.op,.int .i64 x.target,.bool x.global,.int .i64 x.e.op,.int .i64 x.e.num,.str x.e.name,.vec x.e.args.length (o8 x.e.args),.bool x.pl.param,.int .i64 x.pl.index,.vec x.pl.at'.length (o8 x.pl.at'),.vec x.ints.length (o8 x.ints),.vec x.places.length (eD x.places)]] h (TD x):=by
  refine .bz Tryz.f76 23 ?_;refine c26z ?_;refine .z ?_;refine u2z ?_ ?_
  ·intro e1 qe1;refine .z ?_;exact .ret (.ex (hq:=t84))
  intro e1 qe1;refine .z ?_;refine u2z ?_ ?_
  ·intro e2 qe2;refine c269z ?_;exact .ret (.ex (hq:=t84))
  intro e2 qe2;refine .z ?_;refine u2z ?_ ?_
  ·intro e3 qe3;refine c269z ?_;exact .ret (.ex (hq:=t84))
  intro e3 qe3;refine c8z ?_;refine c4z ?_;exact .ret (.ex (hq:=t84))
theorem c_next8 (hu:WU u)(w:WIt u it)(hpc:pc<(g5 u it).length)(ho:((g5 u it).getD pc j4).op=8):CB 57 [.agg [.vec u.globals.length (l5 u.globals),.vec u.c5.length (j6 u.c5),.vec u.procs.length (n8 u.procs),.int .i64 u.main],.agg [.int .i64 it.proc,.vec it.n5.length (l5 it.n5)],.int .i64 ((pc:Nat):Int)] h (mP ((g5 u it).getD pc j4) pc):=by refine .bz Tryz.f57 16 ?_;have w1:=w.lo;have w2:=w.hi;have hsz:(g5 u it).length≤1664:=aI hu w;refine c274z ?_;refine .ca rfl rfl ((HX ((g5 u it).getD pc j4)).mono fun y k hq=>⟨hq.1.trans (TE ho),hq.2⟩) ?_;refine .n ?_;refine c234z ?_;refine n9.cq rfl (kQ rfl rfl BU) hb141 (c_ended pc) ?_;refine .n ?_;exact .ret (.ex (hq:=by (exact (HO ho).symm)))
theorem c_next7 (hu:WU u)(w:WIt u it)(hpc:pc<(g5 u it).length)(ho:((g5 u it).getD pc j4).op=7):CB 57 [.agg [.vec u.globals.length (l5 u.globals),.vec u.c5.length (j6 u.c5),.vec u.procs.length (n8 u.procs),.int .i64 u.main],.agg [.int .i64 it.proc,.vec it.n5.length (l5 it.n5)],.int .i64 ((pc:Nat):Int)] h (mP ((g5 u it).getD pc j4) pc):=by refine .bz Tryz.f57 16 ?_;have w1:=w.lo;have w2:=w.hi;have hsz:(g5 u it).length≤1664:=aI hu w;refine c274z ?_;refine .ca rfl rfl ((HX ((g5 u it).getD pc j4)).mono fun y k hq=>⟨hq.1.trans (TF ho),hq.2⟩) ?_;refine .n ?_;refine c234z ?_;refine n9.cq rfl (kQ rfl rfl HT) hb142 (c_jump pc _) ?_;refine .n ?_;exact .ret (.ex (hq:=by (exact (HP ho).symm)))
theorem PU (hu:WU u)(w:WIt u it)(hpc:pc<(g5 u it).length)(ho:((g5 u it).getD pc j4).op=6)(ht:((g5 u it).getD pc j4).target=(pc:Int)+1):CB 57 [.agg [.vec u.globals.length (l5 u.globals),.vec u.c5.length (j6 u.c5),.vec u.procs.length (n8 u.procs),.int .i64 u.main],.agg [.int .i64 it.proc,.vec it.n5.length (l5 it.n5)],.int .i64 ((pc:Nat):Int)] h (mP ((g5 u it).getD pc j4) pc):=by refine .bz Tryz.f57 16 ?_;have w1:=w.lo;have w2:=w.hi;have hsz:(g5 u it).length≤1664:=aI hu w;refine c274z ?_;refine .ca rfl rfl ((HX ((g5 u it).getD pc j4)).mono fun y k hq=>⟨hq.1.trans (HW ho),hq.2⟩) ?_;refine .n ?_;refine c234z ?_;refine n9.cq rfl (kQ rfl rfl vU) hb143 ((W6 pc _ (by omega)).mono fun y k hq=>⟨hq.1.trans (if_pos ht),hq.2⟩) ?_;refine .n ?_;exact .ret (.ex (hq:=by (exact (W5 ho ht).symm)))
theorem c_next6 (hu:WU u)(w:WIt u it)(hpc:pc<(g5 u it).length)(ho:((g5 u it).getD pc j4).op=6)(ht:¬((g5 u it).getD pc j4).target=(pc:Int)+1):CB 57 [.agg [.vec u.globals.length (l5 u.globals),.vec u.c5.length (j6 u.c5),.vec u.procs.length (n8 u.procs),.int .i64 u.main],.agg [.int .i64 it.proc,.vec it.n5.length (l5 it.n5)],.int .i64 ((pc:Nat):Int)] h (mP ((g5 u it).getD pc j4) pc):=by refine .bz Tryz.f57 16 ?_;have w1:=w.lo;have w2:=w.hi;have hsz:(g5 u it).length≤1664:=aI hu w;refine c274z ?_;refine .ca rfl rfl ((HX ((g5 u it).getD pc j4)).mono fun y k hq=>⟨hq.1.trans (HW ho),hq.2⟩) ?_;refine .n ?_;refine c234z ?_;refine n9.cq rfl (kQ rfl rfl vU) hb143 ((W6 pc _ (by omega)).mono fun y k hq=>⟨hq.1.trans (if_neg ht),hq.2⟩) ?_;refine .n ?_;exact .ret (.ex (hq:=by (exact (HQ ho ht).symm)))
theorem c_nextn (hu:WU u)(w:WIt u it)(hpc:pc<(g5 u it).length)(h8:¬((g5 u it).getD pc j4).op=8)(h7:¬((g5 u it).getD pc j4).op=7)(h6:¬((g5 u it).getD pc j4).op=6):CB 57 [.agg [.vec u.globals.length (l5 u.globals),.vec u.c5.length (j6 u.c5),.vec u.procs.length (n8 u.procs),.int .i64 u.main],.agg [.int .i64 it.proc,.vec it.n5.length (l5 it.n5)],.int .i64 ((pc:Nat):Int)] h (mP ((g5 u it).getD pc j4) pc):=by refine .bz Tryz.f57 16 ?_;have w1:=w.lo;have w2:=w.hi;have hsz:(g5 u it).length≤1664:=aI hu w;refine c274z ?_;refine .ca rfl rfl ((HX ((g5 u it).getD pc j4)).mono fun y k hq=>⟨hq.1.trans (TG h8 h7 h6),hq.2⟩) ?_;refine .n ?_;refine c234z ?_;refine n9.cq rfl (kQ rfl rfl G9) hb144 (HV pc (by omega)) ?_;refine .n ?_;exact .ret (.ex (hq:=by (exact (HR h8 h7 h6).symm)))
theorem c_nextF (hu:WU u)(w:WIt u it)(hpc:pc<(g5 u it).length):CB 57 [.agg [.vec u.globals.length (l5 u.globals),.vec u.c5.length (j6 u.c5),.vec u.procs.length (n8 u.procs),.int .i64 u.main],.agg [.int .i64 it.proc,.vec it.n5.length (l5 it.n5)],.int .i64 ((pc:Nat):Int)] h (mP ((g5 u it).getD pc j4) pc):=by
  by_cases h8:((g5 u it).getD pc j4).op=8
  · exact c_next8 hu w hpc h8
  by_cases h7:((g5 u it).getD pc j4).op=7
  · exact c_next7 hu w hpc h7
  by_cases h6:((g5 u it).getD pc j4).op=6
  · by_cases ht:((g5 u it).getD pc j4).target=(pc:Int)+1
    · exact PU hu w hpc h6 ht
    · exact c_next6 hu w hpc h6 ht
  exact c_nextn hu w hpc h8 h7 h6
variable {t:Int}
theorem kW_1 (h:a<t):kW [a] t=1:=by simp[kW,List.takeWhile,h]
theorem kW_0 (h:¬a<t):kW [a] t=0:=by simp[kW,List.takeWhile,h]
theorem HY (h:x.op=6):AV.vec (kG [(pc:Int)+1] x.target).length (l5 (kG [(pc:Int)+1] x.target))=mP x pc:=by
  by_cases h2:x.target=(pc:Int)+1
  · rw[W5 h h2,kG,if_pos (by simp[h2])];rw[h2];rfl
  · rw[HQ h h2,kG,if_neg t132]
    by_cases h3:(pc:Int)+1<x.target
    · rw[kW_1 h3,show min x.target ((pc:Int)+1)=(pc:Int)+1 from by omega,show max x.target ((pc:Int)+1)=x.target from by omega];rfl
    · rw[kW_0 h3,show min x.target ((pc:Int)+1)=x.target from by omega,show max x.target ((pc:Int)+1)=(pc:Int)+1 from by omega];rfl
theorem c_with1 {b1 b2:Blk}:CH 52 [.own (h.length+3) g 0 1,.int .i64 t] (h++[b0,b1,b2,⟨g,false,3,1,[.int .i64 a],0⟩]) (.vec (kG [a] t).length (l5 (kG [a] t))) (h++[b0,b1,b2,⟨g,false,3,1,[.int .i64 a],1⟩]):=by refine l6.yP (β:=h.length+3) (off:=0) (len:=1) (b:=⟨g,false,3,1,[.int .i64 a],0⟩) (cs:=l5 [a]) (args':=[.vec 1 (l5 [a]),.int .i64 t]) t30 rfl (by simp) rfl ⟨.inr ⟨rfl,rfl⟩,.inl rfl,trivial⟩ ?_;rw[n7];exact HG (h:=h++[b0,b1,b2,⟨g,false,3,1,[.int .i64 a],1⟩]) [a] t (by simp)
theorem c_nextR (hu:WU u)(w:WIt u it)(hpc:pc<(g5 u it).length):CB 31 [.agg [.vec u.globals.length (l5 u.globals),.vec u.c5.length (j6 u.c5),.vec u.procs.length (n8 u.procs),.int .i64 u.main],.agg [.int .i64 it.proc,.vec it.n5.length (l5 it.n5)],.int .i64 ((pc:Nat):Int)] h (mP ((g5 u it).getD pc j4) pc):=by
  refine .bz Tryz.f31 38 ?_;have w1:=w.lo;have w2:=w.hi;have hsz:(g5 u it).length≤1664:=aI hu w;refine c61z ?_;refine .e 8 ?_;refine c44z ?_;refine .c7 [2,7] ?_;refine c29z ?_;refine .z ?_;refine u2z ?_ ?_
  ·intro e1 qe1;refine .z ?_;exact .ret (.ex (hf:=t216) (hq:=t85))
  intro e1 qe1;refine .z ?_;refine u2z ?_ ?_
  ·intro e2 qe2;refine .z ?_;exact .ret (.ex (hf:=t216) (hq:=t85))
  intro e2 qe2;refine .z ?_;refine u2z ?_ ?_
  ·intro e3 qe3;refine .c7 [2,7] ?_;refine c34z ?_;refine .ch rfl rfl (c_with1) ?_;refine .n ?_;exact .ret (.ex (hf:=t216) (hq:=t85))
  intro e3 qe3;refine c8z ?_;refine .c7 [2] ?_;refine .z ?_;exact .ret (.ex (hf:=t216) (hq:=t85))
end Go.Proofs.YtapdldekgbbomaaGreatDoor
end
section
namespace Go.Un
open Go.Ab
def O2 (p:Int×Int):List AV:=[.int .i64 p.1,.int .i64 p.2]
def j0 (l:List (Int×Int)):List AV:=l.flatMap O2
theorem u3 (l:List (Int×Int)):(j0 l).length=2*l.length:=cE _ 2 (fun _=>rfl) l
theorem lU {l:List (Int×Int)}{i:Nat}(h:i<l.length):List.take 2 (List.drop (i*2) (j0 l))=[.int .i64 (l.getD i (0,0)).1,.int .i64 (l.getD i (0,0)).2]:=bD O2 2 (fun _=>rfl) (0,0) h
def ptI (c:Clo)(p:Int×Int):aD:=c.insts.getD p.1.toNat c9
def ptX (u:Un)(c:Clo)(p:Int×Int):Ins:=(g5 u (ptI c p)).getD p.2.toNat j4
def ptC (c:Clo)(p:Int×Int):Int:=(c.calls.getD p.1.toNat []).getD p.2.toNat 0
structure Ru where
 inst:Int
 op':Bool
 items:List (Int×Int)
def g6:Ru:=⟨0,false,[]⟩
def kR (r:Ru):List AV:=[.int .i64 r.inst,.bool r.op',.vec r.items.length (j0 r.items)]
def g8 (l:List Ru):List AV:=l.flatMap kR
theorem u4 (l:List Ru):(g8 l).length=3*l.length:=cE _ 3 (fun _=>rfl) l
variable {l:List Ru}
theorem kH {i:Nat}(h:i<l.length):List.take 3 (List.drop (i*3) (g8 l))=[.int .i64 (l.getD i g6).inst,.bool (l.getD i g6).op',.vec (l.getD i g6).items.length (j0 (l.getD i g6).items)]:=bD kR 3 (fun _=>rfl) g6 h
structure Ef where
 lo:Int
 hi:Int
 net:Int
deriving DecidableEq
def mG:Ef:=⟨0,0,0⟩
def PV (e:Ef):List AV:=[.int .i64 e.lo,.int .i64 e.hi,.int .i64 e.net]
def y0 (l:List Ef):List AV:=l.flatMap PV
theorem bB (l:List Ef):(y0 l).length=3*l.length:=cE _ 3 (fun _=>rfl) l
theorem lV {l:List Ef}{i:Nat}(h:i<l.length):List.take 3 (List.drop (i*3) (y0 l))=[.int .i64 (l.getD i mG).lo,.int .i64 (l.getD i mG).hi,.int .i64 (l.getD i mG).net]:=bD PV 3 (fun _=>rfl) mG h
def okE (e:Ef):Prop := -8≤e.lo∧e.lo≤0∧0≤e.hi∧e.hi≤8∧e.lo≤e.net∧e.net≤e.hi
instance (e:Ef):Decidable (okE e):=by unfold okE;infer_instance
def brE:Ef:=⟨-9,9,0⟩
def smE (e:Ef):Prop:=okE e∨e=brE
def ofE (n:Int):Ef:=⟨min n 0,max n 0,n⟩
def cmE (a b:Ef):Ef:=⟨min a.lo (a.net+b.lo),max a.hi (a.net+b.hi),a.net+b.net⟩
def thE (a b:Ef):Ef:=if okE a∧okE b∧okE (cmE a b) then cmE a b else brE
theorem brE_no:¬okE brE:=by unfold okE brE;simp
variable {a b:Ef}
theorem TH:smE (thE a b):=by
 unfold thE;split
 ·rename_i h;exact .inl h.2.2
 ·exact .inr rfl
theorem HZ {n:Int}(h1:-1≤n)(h2:n≤1):okE (ofE n):=by unfold okE ofE;simp only;omega
theorem TJ (ha:okE a)(hb:okE b)(hc:okE (cmE a b)):thE a b=cmE a b:=if_pos ⟨ha,hb,hc⟩
theorem thE_no (h:¬(okE a∧okE b∧okE (cmE a b))):thE a b=brE:=if_neg h
theorem thE_inv (h:thE a b≠brE):okE a∧okE b∧okE (cmE a b)∧thE a b=cmE a b:=by
 unfold thE at h ⊢;split at h
 ·rename_i h1;exact ⟨h1.1,h1.2.1,h1.2.2,if_pos h1⟩
 ·exact absurd rfl h
theorem IA (a b d:Ef):cmE (cmE a b) d=cmE a (cmE b d):=by unfold cmE;simp only[Ef.mk.injEq];omega
theorem PW (h:okE b):cmE mG b=b:=by obtain ⟨lo,hi,net⟩:=b;unfold okE at h;unfold cmE mG;simp only[Ef.mk.injEq]at h ⊢;omega
theorem cmE_pre (ha:a.lo≤0∧0≤a.hi∧a.lo≤a.net∧a.net≤a.hi)(h:okE (cmE a b)):okE a:=by unfold okE cmE at h;unfold okE;simp only at h;omega
def xH (u:Un)(c:Clo)(r:Ru):Nat→List Int
 | 0=>[0]
 | i+1=>z5 (ptX u c (r.inst,(r.items.getD i (0,0)).1)) (r.items.getD i (0,0)).1.toNat
def oT (u:Un)(c:Clo)(l:List Ru)(k:Nat)(r:Ru)(x:Int×Int)(last:Prop):Prop:=
 if (ptX u c (r.inst,x.1)).op=2 then 0≤x.2∧x.2<k∧(l.getD x.2.toNat g6).inst=ptC c (r.inst,x.1)∧((l.getD x.2.toNat g6).op'=true→last∧r.op'=true) else x.2 = -1
def oB (u:Un)(c:Clo)(l:List Ru)(k:Nat)(r:Ru)(i:Nat):Prop:=
 0≤(r.items.getD i (0,0)).1∧(r.items.getD i (0,0)).1<(g5 u (c.insts.getD r.inst.toNat c9)).length∧(r.items.getD i (0,0)).1∈xH u c r i∧
 ((ptX u c (r.inst,(r.items.getD i (0,0)).1)).op=8↔(i+1=r.items.length∧r.op'=false))∧oT u c l k r (r.items.getD i (0,0)) (i+1=r.items.length)
structure aU (u:Un)(c:Clo)(l:List Ru)(k:Nat):Prop where
 i0:0≤(l.getD k g6).inst
 i1:(l.getD k g6).inst<c.insts.length
 it:∀i,i<(l.getD k g6).items.length→oB u c l k (l.getD k g6) i
 ne:(l.getD k g6).op'=true∨0<(l.getD k g6).items.length
open Classical in
noncomputable def qI (u:Un)(c:Clo)(l:List Ru)(k:Nat):Bool:=decide (aU u c l k)
variable {u:Un}{c:Clo}{k:Nat}
theorem jV:qI u c l k=true↔aU u c l k:=by simp[qI]
theorem fW (h:¬aU u c l k):qI u c l k=false:=by simp[qI,h]
def KH (u:Un)(c:Clo)(m:Int)(bf:List Ef)(r:Ru)(x:Int×Int):Ef:=if x.2 = -1 then ofE (chI (ptI c (r.inst,x.1)) (ptX u c (r.inst,x.1)) m) else bf.getD x.2.toNat mG
def dY (u:Un)(c:Clo)(m:Int)(bf:List Ef)(r:Ru)(j:Nat):Ef:=(r.items.take j).foldl (fun e x=>thE e (KH u c m bf r x)) mG
variable {m:Int}{r:Ru}{j:Nat}
theorem nW {bf:List Ef}(h:j<r.items.length):dY u c m bf r (j+1)=thE (dY u c m bf r j) (KH u c m bf r (r.items.getD j (0,0))):=by unfold dY;rw[List.take_add_one,List.getElem?_eq_getElem h,List.foldl_append];simp[List.getD,h]
theorem nX {bf:List Ef}:∀{j:Nat},j≤r.items.length→smE (dY u c m bf r j)
 | 0,_=>.inl (by unfold dY okE mG;simp)
 | j+1,h=>by rw[nW (by omega)];exact TH
def jL (u:Un)(c:Clo)(m:Int)(l:List Ru):Nat→List Ef
 | 0=>[]
 | k+1=>jL u c m l k++[dY u c m (jL u c m l k) (l.getD k g6) (l.getD k g6).items.length]
theorem dJ {u:Un}{c:Clo}{m:Int}{l:List Ru}:∀{k:Nat},(jL u c m l k).length=k
 | 0=>rfl
 | k+1=>by simp[jL,dJ (k:=k)]
theorem O3 {u:Un}{c:Clo}{m:Int}{l:List Ru}:∀{k:Nat},∀e∈jL u c m l k,smE e
 | 0,e,h=>by simp[jL]at h
 | k+1,e,h=>by
  simp only[jL,List.mem_append,List.mem_singleton]at h;rcases h with h | rfl
  ·exact O3 e h
  ·exact nX (Nat.le_refl _)
theorem tU {u:Un}{c:Clo}{m:Int}{l:List Ru}:∀{k j:Nat},j<k→(jL u c m l k).getD j mG=dY u c m (jL u c m l j) (l.getD j g6) (l.getD j g6).items.length
 | 0,_,h=>absurd h (Nat.not_lt_zero _)
 | k+1,j,h=>by
  by_cases hj:j<k
  ·rw[←tU hj];simp[jL,List.getD,List.getElem?_append_left (show j<(jL u c m l k).length from by rw[dJ];exact hj)]
  ·obtain rfl:j=k:=by omega
   simp[jL,List.getD,dJ]
variable {e:Ef}
theorem tV (h:smE e):-9≤e.lo∧e.lo≤0∧0≤e.hi∧e.hi≤9 ∧ -9≤e.net∧e.net≤9:=by
 rcases h with h | rfl
 ·unfold okE at h;omega
 ·decide
def mxL:Int:=4611686018427387904
def plE (a b:Int):Int:=if a > mxL-b then mxL else a+b
def okN (a:Int):Prop:=0≤a∧a≤mxL
theorem W7 {a b:Int}(ha:okN a)(hb:okN b):okN (plE a b):=by unfold plE okN at*;split<;>omega
def TK (k:Nat)(zs:List Int)(n:Int)(x:Int×Int):Int:=if 0≤x.2∧x.2<k then plE (plE n 1) (zs.getD x.2.toNat 0) else plE n 1
def eS (k:Nat)(zs:List Int)(r:Ru)(j:Nat):Int:=(r.items.take j).foldl (TK k zs) 0
variable {zs:List Int}
theorem lW (h:j<r.items.length):eS k zs r (j+1)=TK k zs (eS k zs r j) (r.items.getD j (0,0)):=by unfold eS;rw[List.take_add_one,List.getElem?_eq_getElem h,List.foldl_append];simp[List.getD,h]
def dZ (l:List Ru):Nat→List Int
 | 0=>[]
 | k+1=>dZ l k++[eS k (dZ l k) (l.getD k g6) (l.getD k g6).items.length]
theorem kS {l:List Ru}:∀{k:Nat},(dZ l k).length=k
 | 0=>rfl
 | k+1=>by simp[dZ,kS (k:=k)]
theorem okN_0:okN 0:=by unfold okN mxL;omega
theorem PX:okN 1:=by unfold okN mxL;omega
theorem W8 (h:∀x∈zs,okN x)(i:Nat):okN (zs.getD i 0):=by
 by_cases hi:i<zs.length
 ·exact h _ (j7 hi)
 ·rw[List.getD_eq_getElem?_getD,List.getElem?_eq_none (by omega)];exact okN_0
variable {x:Int×Int}
theorem lenJ_ok {n:Int}(h:∀x∈zs,okN x)(hn:okN n):okN (TK k zs n x):=by
 unfold TK;split
 ·exact W7 (W7 hn PX) (W8 h _)
 ·exact W7 hn PX
theorem qJ {k:Nat}{zs:List Int}{r:Ru}(h:∀x∈zs,okN x):∀{j:Nat},j≤r.items.length→okN (eS k zs r j)
 | 0,_=>okN_0
 | j+1,hj=>by rw[lW (by omega)];exact lenJ_ok h (qJ h (by omega))
theorem qK {l:List Ru}:∀{k:Nat},∀x∈dZ l k,okN x
 | 0,x,h=>by simp[dZ]at h
 | k+1,x,h=>by
  simp only[dZ,List.mem_append,List.mem_singleton]at h;rcases h with h | rfl
  ·exact qK x h
  ·exact qJ (fun y hy=>qK y hy) (Nat.le_refl _)
def lX (l:List Ru):Int:=(dZ l l.length).getD (l.length-1) 0
def PY (k:Nat)(ps:List (List (Int×Int)))(r:Ru)(x:Int×Int):List (Int×Int):=(x.1,r.inst)::(if 0≤x.2∧x.2<k then ps.getD x.2.toNat [] else [])
def v8 (k:Nat)(ps:List (List (Int×Int)))(r:Ru)(j:Nat):List (Int×Int):=(r.items.take j).flatMap (PY k ps r)
theorem dR {ps:List (List (Int×Int))}(h:j<r.items.length):v8 k ps r (j+1)=v8 k ps r j++PY k ps r (r.items.getD j (0,0)):=by unfold v8;rw[List.take_add_one,List.getElem?_eq_getElem h,List.flatMap_append];simp[List.getD,h]
def u5 (l:List Ru):Nat→List (List (Int×Int))
 | 0=>[]
 | k+1=>u5 l k++[v8 k (u5 l k) (l.getD k g6) (l.getD k g6).items.length]
theorem rS {l:List Ru}:∀{k:Nat},(u5 l k).length=k
 | 0=>rfl
 | k+1=>by simp[u5,rS (k:=k)]
theorem xI {l:List Ru}:∀{k j:Nat},j<k→(u5 l k).getD j []=v8 j (u5 l j) (l.getD j g6) (l.getD j g6).items.length
 | 0,_,h=>absurd h (Nat.not_lt_zero _)
 | k+1,j,h=>by
  by_cases hj:j<k
  ·rw[←xI hj];simp[u5,List.getD,List.getElem?_append_left (show j<(u5 l k).length from by rw[rS];exact hj)]
  ·obtain rfl:j=k:=by omega
   simp[u5,List.getD,rS]
theorem nG {l:List Ru}:∀{k j:Nat},j<k→(dZ l k).getD j 0=eS j (dZ l j) (l.getD j g6) (l.getD j g6).items.length
 | 0,_,h=>absurd h (Nat.not_lt_zero _)
 | k+1,j,h=>by
  by_cases hj:j<k
  ·rw[←nG hj];simp[dZ,List.getD,List.getElem?_append_left (show j<(dZ l k).length from by rw[kS];exact hj)]
  ·obtain rfl:j=k:=by omega
   simp[dZ,List.getD,kS]
def bC (l:List Ru)(k:Nat):List (Int×Int):=v8 k (u5 l k) (l.getD k g6) (l.getD k g6).items.length
def PZ (l:List Ru)(k:Nat):Int:=eS k (dZ l k) (l.getD k g6) (l.getD k g6).items.length
theorem lY:PY k (u5 l k) r x=(x.1,r.inst)::(if 0≤x.2∧x.2<k then bC l x.2.toNat else []):=by
 unfold PY;split
 ·rename_i h;rw[xI (by omega)];rfl
 ·rfl
variable {n:Nat}
theorem IB {a b:Int}{m:Nat}(ha:a=min (n:Int) mxL)(hb:b=min (m:Int) mxL):plE a b=min ((n+m:Nat):Int) mxL:=by unfold plE mxL at*;split<;>omega
theorem xJ {l:List Ru}{k:Nat}(ih:∀j,j<k→PZ l j=min ((bC l j).length:Int) mxL):∀{j:Nat},j≤(l.getD k g6).items.length→eS k (dZ l k) (l.getD k g6) j=min (((v8 k (u5 l k) (l.getD k g6) j).length:Nat):Int) mxL
 | 0,_=>rfl
 | j+1,h=>by
  rw[lW (by omega),dR (by omega),lY,List.length_append];have h1:=xJ ih (j:=j) (by omega);have h2:=IB h1 (show (1:Int)=min ((1:Nat):Int) mxL from rfl);unfold TK;by_cases hc:0≤((l.getD k g6).items.getD j (0,0)).2∧((l.getD k g6).items.getD j (0,0)).2<k
  ·rw[if_pos hc,if_pos hc,nG (by omega)];have h3:=IB h2 (ih ((l.getD k g6).items.getD j (0,0)).2.toNat (by omega));rw[show eS ((l.getD k g6).items.getD j (0,0)).2.toNat (dZ l ((l.getD k g6).items.getD j (0,0)).2.toNat) (l.getD ((l.getD k g6).items.getD j (0,0)).2.toNat g6) (l.getD ((l.getD k g6).items.getD j (0,0)).2.toNat g6).items.length=PZ l ((l.getD k g6).items.getD j (0,0)).2.toNat from rfl,h3,List.length_cons];congr 2;omega
  ·rw[if_neg hc,if_neg hc,h2,List.length_singleton]
theorem QA:∀k,PZ l k=min ((bC l k).length:Int) mxL:=fun k=>by
 induction k using Nat.strongRecOn with
 | ind k ih=>exact xJ (fun j hj=>ih j hj) (Nat.le_refl _)
theorem qL (h:0<l.length):lX l=min ((bC l (l.length-1)).length:Int) mxL:=by unfold lX;rw[nG (by omega)];exact QA (l.length-1)
def chP (u:Un)(c:Clo)(m:Int)(x:Int×Int):Int:=chI (ptI c (x.2,x.1)) (ptX u c (x.2,x.1)) m
def CG (u:Un)(c:Clo)(m:Int)(e:Ef)(l:List (Int×Int)):Ef:=l.foldl (fun e x=>thE e (ofE (chP u c m x))) e
def B4 (u:Un)(c:Clo)(m:Int)(e:Ef)(l:List (Int×Int)):Ef:=l.foldl (fun e x=>cmE e (ofE (chP u c m x))) e
def shE (a:Ef):Prop:=a.lo≤0∧0≤a.hi∧a.lo≤a.net∧a.net≤a.hi
theorem A0:okE (ofE (chP u c m x)):=by have h:=vT (it:=ptI c (x.2,x.1)) (x:=ptX u c (x.2,x.1)) (m:=m);unfold chP;exact HZ (by omega) (by omega)
theorem IC (h:okE e):shE e:=by unfold okE at h;unfold shE;omega
theorem TL (ha:shE a)(hb:shE b):shE (cmE a b):=by unfold shE cmE at*;simp only at*;omega
theorem rawE_cm:∀{l:List (Int×Int)},B4 u c m (cmE a e) l=cmE a (B4 u c m e l):=fun {l}=>by
 induction l generalizing e with
 | nil=>rfl
 | cons x l ih=>
  show B4 u c m (cmE (cmE a e) _) l=cmE a (B4 u c m (cmE e _) l);rw[IA,ih]
theorem QB {l:List (Int×Int)}(h:shE e)(hk:okE (B4 u c m e l)):okE e:=by
 induction l generalizing e with
 | nil=>exact hk
 | cons x l ih=>
  have h1:=ih (e:=cmE e (ofE (chP u c m x))) (TL h (IC A0)) hk;exact cmE_pre h h1
theorem sum_raw {l:List (Int×Int)}(h:okE e)(hk:okE (B4 u c m e l)):CG u c m e l=B4 u c m e l:=by
 induction l generalizing e with
 | nil=>rfl
 | cons x l ih=>
  have h1:okE (cmE e (ofE (chP u c m x))):=QB (TL (IC h) (IC A0)) hk;show CG u c m (thE e (ofE (chP u c m x))) l=B4 u c m (cmE e (ofE (chP u c m x))) l;rw[TJ h A0 h1];exact ih h1 hk
theorem QC {it:aD}{x:Ins}(h:x.op=2):chI it x m=0:=chI_0 (fun e=>by have:=e.1;omega) (fun e=>by have:=e.1;omega)
theorem okE_0:okE mG:=by unfold okE mG;simp
theorem QD (hr:∀k,k<n→aU u c l k)(hv:∀k,k<n→okE (dY u c m (jL u c m l k) (l.getD k g6) (l.getD k g6).items.length)) :
  ∀k,k<n→B4 u c m mG (bC l k)=dY u c m (jL u c m l k) (l.getD k g6) (l.getD k g6).items.length:=fun k=>by
 induction k using Nat.strongRecOn with
 | ind k ih=>
  intro hk;have R:=hr k hk;have key:∀j,j≤(l.getD k g6).items.length→okE (dY u c m (jL u c m l k) (l.getD k g6) j)→B4 u c m mG (v8 k (u5 l k) (l.getD k g6) j)=dY u c m (jL u c m l k) (l.getD k g6) j:=by
   intro j;induction j with
   | zero=>intro _ _;rfl
   | succ j jh=>
    intro hj ho;have hjl:j<(l.getD k g6).items.length:=by omega
    rw[nW hjl]at ho ⊢;have hne:thE (dY u c m (jL u c m l k) (l.getD k g6) j) (KH u c m (jL u c m l k) (l.getD k g6) ((l.getD k g6).items.getD j (0,0)))≠brE:=fun e=>brE_no (e▸ho);obtain ⟨o1,o2,o3,o4⟩:=thE_inv hne;rw[o4,dR hjl,lY];have e1:∀a b:List (Int×Int),B4 u c m mG (a++b)=B4 u c m (B4 u c m mG a) b:=fun a b=>by simp[B4]
    rw[e1,jh (by omega) o1];have e2:dY u c m (jL u c m l k) (l.getD k g6) j=cmE (dY u c m (jL u c m l k) (l.getD k g6) j) mG:=by have h:=o1;unfold okE at h;unfold cmE mG;generalize dY u c m (jL u c m l k) (l.getD k g6) j=e at h ⊢;obtain ⟨a,b,d⟩:=e;simp only[Ef.mk.injEq]at h ⊢;omega
    obtain ⟨q0,q1,q2,q3,q4⟩:=R.it j hjl;have own:B4 u c m mG ((((l.getD k g6).items.getD j (0,0)).1,(l.getD k g6).inst)::(if 0≤((l.getD k g6).items.getD j (0,0)).2∧((l.getD k g6).items.getD j (0,0)).2<k then bC l ((l.getD k g6).items.getD j (0,0)).2.toNat else []))=KH u c m (jL u c m l k) (l.getD k g6) ((l.getD k g6).items.getD j (0,0)):=by
     have hstep:∀t,B4 u c m mG ((((l.getD k g6).items.getD j (0,0)).1,(l.getD k g6).inst)::t)=B4 u c m (ofE (chP u c m (((l.getD k g6).items.getD j (0,0)).1,(l.getD k g6).inst))) t:=fun t=>by show B4 u c m (cmE mG _) t=_;rw[PW A0]
     rw[hstep];unfold oT at q4;by_cases h2:(ptX u c ((l.getD k g6).inst,((l.getD k g6).items.getD j (0,0)).1)).op=2
     ·rw[if_pos h2]at q4;obtain ⟨z0,z1,_,_⟩:=q4;rw[if_pos ⟨z0,z1⟩,KH,if_neg (by omega),tU (by omega)];have hc0:chP u c m (((l.getD k g6).items.getD j (0,0)).1,(l.getD k g6).inst)=0:=QC h2;rw[hc0,show ofE 0=mG from rfl];exact ih _ (by omega) (by omega)
     ·rw[if_neg h2]at q4;rw[if_neg (by omega),KH,if_pos q4];rfl
    rw[e2,rawE_cm,own,←e2]
  exact key _ (Nat.le_refl _) (hv k hk)
theorem QE (hr:∀k,k<n→aU u c l k)(hv:∀k,k<n→okE (dY u c m (jL u c m l k) (l.getD k g6) (l.getD k g6).items.length))(hk:k<n) :
  CG u c m mG (bC l k)=dY u c m (jL u c m l k) (l.getD k g6) (l.getD k g6).items.length:=by
 have h:=QD hr hv k hk;rw[sum_raw okE_0 (by rw[h];exact hv k hk),h]
end Go.Un
end
section
namespace Go.Proofs.YtapdldekgbbomaaGreatDoor
open Go.Ab Go.Un
variable {a b:Int}
theorem mnI:(if b<a then b else a)=min a b:=by split<;>omega
theorem mxI:(if b > a then b else a)=max a b:=by split<;>omega
theorem agEf {d:Int}{e:Ef}(h1:a=e.lo)(h2:b=e.hi)(h3:d=e.net):AV.agg [.int .i64 a,.int .i64 b,.int .i64 d]=AV.agg [.int .i64 e.lo,.int .i64 e.hi,.int .i64 e.net]:=by rw[h1,h2,h3]
theorem agE {a b:Ef}(h:a=b):AV.agg [.int .i64 a.lo,.int .i64 a.hi,.int .i64 a.net]=AV.agg [.int .i64 b.lo,.int .i64 b.hi,.int .i64 b.net]:=by rw[h]
attribute [local go_sem] rd Int.natCast_nonneg Int.natCast_inj Int.toNat_natCast_add_one mnI mxI wrap64 qS max2
variable {h:c8}
theorem QF  : CB 41 [] h (.agg [.int .i64 (-9),.int .i64 9,.int .i64 0]):=by refine .bz Tryz.f41 2 ?_;refine c184z ?_;exact .ret (.ex (hq:=by rfl))
theorem O4 (a b d:Int):CB 42 [.agg [.int .i64 a,.int .i64 b,.int .i64 d]] h (.agg [.int .i64 a,.int .i64 b,.int .i64 d]):=by refine .bz Tryz.f42 10 ?_;refine c184z ?_;exact .ret (.ex (hq:=by rfl))
theorem TM  : CB 21 [] h (.agg [.int .i64 (-9),.int .i64 9,.int .i64 0]):=by refine .bz Tryz.f21 3 ?_;refine c61z ?_;refine .ca rfl rfl (QF) ?_;refine .ca rfl rfl (O4 _ _ _) ?_;refine .n ?_;exact .ret (.ex (hq:=by rfl))
theorem c_rbrok  : CB 61 [] h (.agg [.int .i64 (-9),.int .i64 9,.int .i64 0]):=by refine .bz Tryz.f61 2 ?_;refine c184z ?_;exact .ret (.ex (hq:=by rfl))
theorem ID (a:Ef):CB 43 [.agg [.int .i64 a.lo,.int .i64 a.hi,.int .i64 a.net]] h (.bool (decide (okE a))):=by
  refine .bz Tryz.f43 35 ?_;refine .z ?_;refine c28z ?_;refine .spl 6 rfl rfl (fun e1=>?_) (fun e1=>?_)
  ·try simp only[e1]
   have qe1:=fact e1;refine .k 5 [(3,6)] ?_;refine .spl 11 rfl rfl (fun e2=>?_) (fun e2=>?_)
   ·try simp only[e2]
    have qe2:=fact e2;refine .k 5 [(8,11)] ?_;refine .spl 16 rfl rfl (fun e3=>?_) (fun e3=>?_)
    ·try simp only[e3]
     have qe3:=fact e3;refine .k 5 [(13,16)] ?_;refine .spl 21 rfl rfl (fun e4=>?_) (fun e4=>?_)
     ·try simp only[e4]
      have qe4:=fact e4;refine .k 7 [(18,21)] ?_;refine .spl 28 rfl rfl (fun e5=>?_) (fun e5=>?_)
      ·try simp only[e5]
       have qe5:=fact e5;refine .m [(25,28)] ?_;exact .ret (.ex (hq:=t21))
      try simp only[e5]
      have qe5:=fact e5;refine .m [(25,28)] ?_;exact .ret (.ex (hq:=t21))
     try simp only[e4]
     have qe4:=fact e4;refine c104z ?_;exact .ret (.ex (hq:=t21))
    try simp only[e3]
    have qe3:=fact e3;refine c213z ?_;exact .ret (.ex (hq:=t21))
   try simp only[e2]
   have qe2:=fact e2;refine .k 8 [(8,11),(13,16)] ?_;refine .k 8 [(18,21)] ?_;refine .m [(25,28)] ?_;exact .ret (.ex (hq:=t21))
  try simp only[e1]
  have qe1:=fact e1;refine .k 8 [(3,6),(8,11)] ?_;refine c213z ?_;exact .ret (.ex (hq:=t21))
theorem A1 (a:Ef):CB 60 [.agg [.int .i64 a.lo,.int .i64 a.hi,.int .i64 a.net]] h (.bool (decide (okE a))):=by
  refine .bz Tryz.f60 35 ?_;refine .z ?_;refine c28z ?_;refine .spl 6 rfl rfl (fun e1=>?_) (fun e1=>?_)
  ·try simp only[e1]
   have qe1:=fact e1;refine .k 5 [(3,6)] ?_;refine .spl 11 rfl rfl (fun e2=>?_) (fun e2=>?_)
   ·try simp only[e2]
    have qe2:=fact e2;refine .k 5 [(8,11)] ?_;refine .spl 16 rfl rfl (fun e3=>?_) (fun e3=>?_)
    ·try simp only[e3]
     have qe3:=fact e3;refine .k 5 [(13,16)] ?_;refine .spl 21 rfl rfl (fun e4=>?_) (fun e4=>?_)
     ·try simp only[e4]
      have qe4:=fact e4;refine .k 7 [(18,21)] ?_;refine .spl 28 rfl rfl (fun e5=>?_) (fun e5=>?_)
      ·try simp only[e5]
       have qe5:=fact e5;refine .m [(25,28)] ?_;exact .ret (.ex (hq:=t21))
      try simp only[e5]
      have qe5:=fact e5;refine .m [(25,28)] ?_;exact .ret (.ex (hq:=t21))
     try simp only[e4]
     have qe4:=fact e4;refine c104z ?_;exact .ret (.ex (hq:=t21))
    try simp only[e3]
    have qe3:=fact e3;refine c213z ?_;exact .ret (.ex (hq:=t21))
   try simp only[e2]
   have qe2:=fact e2;refine .k 8 [(8,11),(13,16)] ?_;refine .k 8 [(18,21)] ?_;refine .m [(25,28)] ?_;exact .ret (.ex (hq:=t21))
  try simp only[e1]
  have qe1:=fact e1;refine .k 8 [(3,6),(8,11)] ?_;refine c213z ?_;exact .ret (.ex (hq:=t21))
theorem c_of (n:Int)(h1:-1≤n)(h2:n≤1):CB 23 [.int .i64 n] h (.agg [.int .i64 (ofE n).lo,.int .i64 (ofE n).hi,.int .i64 (ofE n).net]):=by
  refine .bz Tryz.f23 17 ?_;refine c267z ?_;refine .spl 5 rfl rfl (fun e1=>?_) (fun e1=>?_)
  ·try simp only[e1]
   have qe1:=fact e1;refine .m [(2,5)] ?_;refine .T ?_;refine c198z ?_;refine .n ?_;exact .ret (.ex (hq:=t117))
  try simp only[e1]
  have qe1:=fact e1;refine .m [(2,5)] ?_;refine u2z ?_ ?_
  ·intro e2 qe2;refine c198z ?_;refine .n ?_;exact .ret (.ex (hq:=t117))
  intro e2 qe2;refine .sk ?_;refine c126z ?_;refine .ca rfl rfl (O4 _ _ _) ?_;refine .n ?_;exact .ret (.ex (hq:=t117))
theorem c_rof (n:Int)(h1:-1≤n)(h2:n≤1):CB 36 [.int .i64 n] h (.agg [.int .i64 (ofE n).lo,.int .i64 (ofE n).hi,.int .i64 (ofE n).net]):=by
  refine .bz Tryz.f36 16 ?_;refine c267z ?_;refine .spl 5 rfl rfl (fun e1=>?_) (fun e1=>?_)
  ·try simp only[e1]
   have qe1:=fact e1;refine .m [(2,5)] ?_;refine .T ?_;refine c194z ?_;refine .n ?_;exact .ret (.ex (hq:=t117))
  try simp only[e1]
  have qe1:=fact e1;refine .m [(2,5)] ?_;refine u2z ?_ ?_
  ·intro e2 qe2;refine c194z ?_;refine .n ?_;exact .ret (.ex (hq:=t117))
  intro e2 qe2;refine c239z ?_;exact .ret (.ex (hq:=t117))
theorem IE (a b:Ef)(ha:smE a)(hb:smE b):CB 22 [.agg [.int .i64 a.lo,.int .i64 a.hi,.int .i64 a.net],.agg [.int .i64 b.lo,.int .i64 b.hi,.int .i64 b.net]] h (.agg [.int .i64 (thE a b).lo,.int .i64 (thE a b).hi,.int .i64 (thE a b).net]):=by
  refine .bz Tryz.f22 43 ?_;have h1:=tV ha;have h2:=tV hb;refine c20z ?_;refine c115z ?_;refine .ca rfl rfl (ID a) ?_;refine .e 2 ?_;refine .spl 9 rfl rfl (fun e1=>?_) (fun e1=>?_)
  ·try simp only[e1]
   have qe1:=fact e1;refine .m [(3,9)] ?_;refine .T ?_;refine .c7 [4] ?_;refine c198z ?_;refine .n ?_;exact .ret (.ex (hq:=t54))
  try simp only[e1]
  have qe1:=fact e1;refine .k 1 [(3,9)] ?_;refine .ca rfl rfl (ID b) ?_;refine .m [(3,9)] ?_;refine u2z ?_ ?_
  ·intro e2 qe2;refine .c7 [4] ?_;refine c198z ?_;refine .n ?_;exact .ret (.ex (hq:=t54))
  intro e2 qe2;refine .sk ?_;refine .c7 [2,3,4] ?_;refine c174z ?_;refine .e 8 ?_;refine .e 6 ?_;refine .ca rfl rfl (O4 _ _ _) ?_;refine c44z ?_;refine .c7 [4,5] ?_;refine c115z ?_;refine .ca rfl rfl (ID (cmE a b)) ?_;refine .n ?_;refine u2z ?_ ?_
  ·intro e3 qe3;refine c198z ?_;refine .n ?_;exact .ret (.ex (hq:=t54))
  intro e3 qe3;refine c239z ?_;exact .ret (.ex (hq:=t54))
theorem IF (a b:Ef)(ha:smE a)(hb:smE b):CB 35 [.agg [.int .i64 a.lo,.int .i64 a.hi,.int .i64 a.net],.agg [.int .i64 b.lo,.int .i64 b.hi,.int .i64 b.net]] h (.agg [.int .i64 (thE a b).lo,.int .i64 (thE a b).hi,.int .i64 (thE a b).net]):=by
  refine .bz Tryz.f35 42 ?_;have h1:=tV ha;have h2:=tV hb;refine c20z ?_;refine c115z ?_;refine .ca rfl rfl (A1 a) ?_;refine .e 2 ?_;refine .spl 9 rfl rfl (fun e1=>?_) (fun e1=>?_)
  ·try simp only[e1]
   have qe1:=fact e1;refine .m [(3,9)] ?_;refine .T ?_;refine .c7 [4] ?_;refine c194z ?_;refine .n ?_;exact .ret (.ex (hq:=t54))
  try simp only[e1]
  have qe1:=fact e1;refine .k 1 [(3,9)] ?_;refine .ca rfl rfl (A1 b) ?_;refine .m [(3,9)] ?_;refine u2z ?_ ?_
  ·intro e2 qe2;refine .c7 [4] ?_;refine c194z ?_;refine .n ?_;exact .ret (.ex (hq:=t54))
  intro e2 qe2;refine .sk ?_;refine .c7 [2,3,4] ?_;refine c174z ?_;refine .e 8 ?_;refine c44z ?_;refine .c7 [4,5] ?_;refine c115z ?_;refine .ca rfl rfl (A1 (cmE a b)) ?_;refine .n ?_;refine u2z ?_ ?_
  ·intro e3 qe3;refine c194z ?_;refine .n ?_;exact .ret (.ex (hq:=t54))
  intro e3 qe3;refine c239z ?_;exact .ret (.ex (hq:=t54))
end Go.Proofs.YtapdldekgbbomaaGreatDoor
end
section
namespace Go.Proofs.YtapdldekgbbomaaGreatDoor
open Go.Ab Go.Un
variable {i:Nat}
theorem lZ {l:List (List Int)}(h:i<l.length):List.take 1 (List.drop i (s6 l))=[.vec (l.getD i []).length (l5 (l.getD i []))]:=by unfold s6;rw[←List.map_drop,←List.map_take,List.drop_eq_getElem_cons h,List.take_succ_cons,List.take_zero];simp[List.getD,h]
variable {l:List Ru}
theorem iR (h:i<l.length):List.take 1 (List.drop (i*3) (g8 l))=[.int .i64 (l.getD i g6).inst]:=B2 kR 3 0 (fun _=>rfl) (by omega) g6 h
theorem iS (h:i<l.length):List.take 1 (List.drop (i*3+1) (g8 l))=[.bool (l.getD i g6).op']:=B2 kR 3 1 (fun _=>rfl) (by omega) g6 h
theorem iT (h:i<l.length):List.take 1 (List.drop (i*3+2) (g8 l))=[.vec (l.getD i g6).items.length (j0 (l.getD i g6).items)]:=B2 kR 3 2 (fun _=>rfl) (by omega) g6 h
theorem iU {l:List (Int×Int)}(h:i<l.length):List.take 1 (List.drop (i*2) (j0 l))=[.int .i64 (l.getD i (0,0)).1]:=B2 O2 2 0 (fun _=>rfl) (by omega) (0,0) h
theorem iV {l:List (Int×Int)}(h:i<l.length):List.take 1 (List.drop (i*2+1) (j0 l))=[.int .i64 (l.getD i (0,0)).2]:=B2 O2 2 1 (fun _=>rfl) (by omega) (0,0) h
theorem eA {o:Int}(h0:0≤o)(h1:o≤8):List.take 1 (List.drop o.toNat [AV.bool false,AV.bool false,AV.bool true,AV.bool false,AV.bool false,AV.bool false,AV.bool false,AV.bool false,AV.bool false])=[.bool (decide (o=2))]:=by
  have:o=0∨o=1∨o=2∨o=3∨o=4∨o=5∨o=6∨o=7∨o=8:=by omega
  rcases this with rfl | rfl | rfl | rfl | rfl | rfl | rfl | rfl | rfl<;>rfl
variable {u:Un}
theorem W9 (hu:WU u){it:aD}(w:WIt u it){pc:Nat}(hpc:pc<(g5 u it).length):1≤((g5 u it).getD pc j4).op∧((g5 u it).getD pc j4).op≤8:=((lK hu w).2.2 pc hpc).1
open Classical in
noncomputable def rT (u:Un)(c:Clo)(l:List Ru)(k:Nat)(r:Ru)(x:Int×Int)(last:Bool):Bool:=decide (oT u c l k r x (last=true))
variable {c:Clo}{k:Nat}{last:Bool}
theorem mA {r:Ru}{x:Int×Int}:rT u c l k r x last=true↔oT u c l k r x (last=true):=by simp[rT]
theorem citeB_e {r:Ru}{x:Int×Int}{b:Bool}(h:oT u c l k r x (last=true)↔b=true):b=rT u c l k r x last:=by
  cases b
  · have:rT u c l k r x last≠true:=fun e=>by have:=h.1 (mA.1 e);cases this
    cases hc:rT u c l k r x last
    · rfl
    · exact absurd hc this
  · exact (mA.2 (h.2 rfl)).symm
variable {f:List Int}{x:Int}
theorem IG (h:∀d,d<i→f.getD d 0≠x)(hi:f.length≤i):x∉f:=fun hm=>by obtain ⟨j,hj,rfl⟩:=List.mem_iff_getElem.1 hm;exact h j (by omega) (by simp[List.getD,hj])
theorem IH (e:x=f.getD i 0)(hi:i<f.length):x∈f:=e▸j7 hi
theorem TN (h:∀d,d<i→f.getD d 0≠x)(e:f.getD i 0≠x):∀d,d<i+1→f.getD d 0≠x:=fun d hd=>by
  by_cases hdi:d=i
  · rw[hdi];exact e
  · exact h d (by omega)
attribute [local go_sem] rd Int.natCast_nonneg Int.natCast_inj Int.toNat_natCast_add_one mnI mxI wrap64 qS max2 u4 u3 bB kH iR iS iT lU iU iV lV eA w8 aJ w6 q9 cQ n6 dW dX cP gR fV lZ hU List.length_take oF
variable {h:c8}
theorem c_idx (f:List Int)(hf:f.length<1000000):l6 Tryz.prog cfg 75 [.vec f.length (l5 f),.int .i64 x] h (fun y' h'=>(∃k:Int,y'=.int .i64 k∧(0≤k↔x∈f))∧h'=h):=by
  refine .bz Tryz.f75 19 ?_;refine c26z ?_;refine .jZ (fun m st=>∃(i:Nat),(m=f.length-i∧((∀d,d<i→f.getD d 0≠x)∧i≤f.length))∧st=⟨mkS 19 [(0,AV.vec f.length (l5 f)),(1,AV.int .i64 x),(7,AV.int .i64 ((f.length:Nat):Int)),(8,AV.int .i64 ((i:Nat):Int))],h⟩) _ (.v ⟨0,⟨rfl,⟨t106,by omega⟩⟩,rfl⟩) ?_;rintro m sl h' ⟨i,⟨hm,⟨hI,hi⟩⟩,hst⟩;obtain ⟨rfl,rfl⟩:=St.mk.inj hst;refine c20z ?_;refine u2z ?_ ?_
  ·intro e1 qe1;refine c9z ?_;refine c184z ?_;refine u2z ?_ ?_
   ·intro e2 qe2;refine .c7 [5] ?_;refine c15z ?_;exact ⟨[],_,(List.append_nil _).symm,t67,t129⟩
   intro e2 qe2;refine c8z ?_;refine .c7 [0,1,7,8] ?_;refine .rz ?_;exact ⟨_,by omega,.v ⟨(i+1),⟨rfl,⟨TN hI (by omega),by omega⟩⟩,rfl⟩⟩
  intro e1 qe1;refine c173z ?_;exact ⟨[],_,(List.append_nil _).symm,t67,t129⟩
theorem TO (f:List Int)(hf:f.length<1000000):CB 55 [.vec f.length (l5 f),.int .i64 x] h (.bool (decide (x∈f))):=by refine .bz Tryz.f55 9 ?_;refine .z ?_;refine c39z ?_;refine n9.cx rfl rfl hb75 (c_idx f hf) (fun y1 h1 hq1=>?_);obtain ⟨⟨k,rfl,hk⟩,rfl⟩:=hq1;refine c235z ?_;exact ⟨[],_,(List.append_nil _).symm,t67,by (exact congrArg AV.bool (decide_eq_decide.2 hk))⟩
theorem c_in (f:List Int)(hf:f.length<1000000):CB 59 [.vec f.length (l5 f),.int .i64 x] h (.bool (decide (x∈f))):=by
  refine .bz Tryz.f59 18 ?_;refine c26z ?_;refine .jZ (fun m st=>∃(i:Nat),(m=f.length-i∧((∀d,d<i→f.getD d 0≠x)∧i≤f.length))∧st=⟨mkS 18 [(0,AV.vec f.length (l5 f)),(1,AV.int .i64 x),(5,AV.int .i64 ((i:Nat):Int))],h⟩) _ (.v ⟨0,⟨rfl,⟨t106,by omega⟩⟩,rfl⟩) ?_;rintro m sl h' ⟨i,⟨hm,⟨hI,hi⟩⟩,hst⟩;obtain ⟨rfl,rfl⟩:=St.mk.inj hst;refine c1z ?_;refine u2z ?_ ?_
  ·intro e1 qe1;refine c207z ?_;refine u2z ?_ ?_
   ·intro e2 qe2;refine c228z ?_;exact ⟨[],_,(List.append_nil _).symm,t67,t148⟩
   intro e2 qe2;refine c8z ?_;refine c172z ?_;exact ⟨_,by omega,.v ⟨(i+1),⟨rfl,⟨TN hI (by omega),by omega⟩⟩,rfl⟩⟩
  intro e1 qe1;refine c173z ?_;exact ⟨[],_,(List.append_nil _).symm,t67,t148⟩
theorem O5 (hu:WU u)(wc:WC u c){i:Int}(h0:0≤i)(h1:i<c.insts.length):CB 54 [.agg [.vec u.globals.length (l5 u.globals),.vec u.c5.length (j6 u.c5),.vec u.procs.length (n8 u.procs),.int .i64 u.main,.vec c.insts.length (p6 c.insts),.vec c.calls.length (s6 c.calls),.vec c.roots.length (l5 c.roots),.vec l.length (g8 l)],.int .i64 i] h (.vec (g5 u (c.insts.getD i.toNat c9)).length (r8 (g5 u (c.insts.getD i.toNat c9)))):=by refine .bz Tryz.f54 18 ?_;have hml:=hu.ml;have hwl:=wc.len;have w:WIt u (c.insts.getD i.toNat c9):=wc.wi _ (j7 (by omega));have w1:=w.lo;have w2:=w.hi;refine .z ?_;refine .ss u9 (mkP 14 [0,1,3,0,8,24,0,120,248,504,1023,2047,4095,8191] []) ?_;refine c159z ?_;exact .ret (.ex (hq:=by rfl))
theorem c_cites (hu:WU u)(wc:WC u c)(hk:k<l.length)(hl:l.length<1000000)(hit:∀r∈l,r.items.length<1000000)(h0:0≤(l.getD k g6).inst)(h1:(l.getD k g6).inst<c.insts.length){x:Int×Int}(hx0:0≤x.1)(hx1:x.1<(g5 u (c.insts.getD (l.getD k g6).inst.toNat c9)).length)(last:Bool):CB 56 [.agg [.vec u.globals.length (l5 u.globals),.vec u.c5.length (j6 u.c5),.vec u.procs.length (n8 u.procs),.int .i64 u.main,.vec c.insts.length (p6 c.insts),.vec c.calls.length (s6 c.calls),.vec c.roots.length (l5 c.roots),.vec l.length (g8 l)],.int .i64 ((k:Nat):Int),.agg [.int .i64 x.1,.int .i64 x.2],.bool last] h (.bool (rT u c l k (l.getD k g6) x last)):=by
  refine .bz Tryz.f56 75 ?_;have hml:=hu.ml;have hwl:=wc.len;have hwc:=wc.cl;have hri:(l.getD k g6).items.length<1000000:=hit _ (j7 hk);have w:WIt u (c.insts.getD (l.getD k g6).inst.toNat c9):=wc.wi _ (j7 (by omega));have w1:=w.lo;have w2:=w.hi;have hsz:(g5 u (c.insts.getD (l.getD k g6).inst.toNat c9)).length≤1664:=aI hu w;have hwr:=wc.cll (l.getD k g6).inst.toNat (by omega);have hop:=W9 hu w (pc:=x.1.toNat) (by omega);refine c135z ?_;refine .c7 [1,3,4,6,9] ?_;refine .ss u9 (mkP 12 [0,0,2,7,0,16,63,127,255,511,1023,2047] []) ?_;refine .k 3 [] ?_;refine .ca rfl rfl (O5 hu wc h0 h1) ?_;refine .n [] ?_;refine u2z ?_ ?_
  ·intro e1 qe1;refine .c7 [6] ?_;refine .z ?_;exact .ret (.ex (hq:=t19))
  intro e1 qe1;refine c100z ?_;refine .c7 [1,3,4,6,9] ?_;refine .ss u9 (mkP 30 [0,1,3,7,15,31,15,127,255,511,1023,2047,1023,5119,16383,32767,65535,1023,132095,394239,1023,1049599,4064255,8258559,1023,16778239,66978815,134087679,268435455,536870911] []) ?_;refine .k 4 [] ?_;refine .spl 33 rfl rfl (fun e2=>?_) (fun e2=>?_)
  ·try simp only[e2]
   have qe2:=fact e2;refine .k 8 [(3,33),(9,39)] ?_;refine .k 8 [(9,39)] ?_;refine .k 8 [(9,39)] ?_;refine .n [(9,39)] ?_;refine c46z ?_;exact .ret (.ex (hq:=t19))
  try simp only[e2]
  have qe2:=fact e2;refine .k 6 [(3,33)] ?_;refine .spl 39 rfl rfl (fun e3=>?_) (fun e3=>?_)
  ·try simp only[e3]
   have qe3:=fact e3;refine .k 8 [(9,39)] ?_;refine .k 8 [(9,39)] ?_;refine .n [(9,39)] ?_;refine c46z ?_;exact .ret (.ex (hq:=t19))
  try simp only[e3]
  have qe3:=fact e3;refine .k 8 [(9,39)] ?_;refine .k 8 [(9,39)] ?_;refine .n [(9,39)] ?_;refine u2z ?_ ?_
  ·intro e4 qe4;refine c4z ?_;exact .ret (.ex (hq:=t19))
  intro e4 qe4;refine .sk ?_;refine .c7 [3,4,6,9] ?_;refine c174z ?_;refine .e 1 ?_;refine .spl 68 rfl rfl (fun e5=>?_) (fun e5=>?_)
  ·try simp only[e5]
   have qe5:=fact e5;refine .m [(8,68),(10,70)] ?_;exact .ret (.ex (hq:=t19))
  try simp only[e5]
  have qe5:=fact e5;refine .k 2 [(8,68)] ?_;refine .spl 70 rfl rfl (fun e6=>?_) (fun e6=>?_)
  ·try simp only[e6]
   have qe6:=fact e6;refine .m [(8,68),(10,70)] ?_;exact .ret (.ex (hq:=t19))
  try simp only[e6]
  have qe6:=fact e6;refine .m [(8,68),(10,70)] ?_;exact .ret (.ex (hq:=t19))
end Go.Proofs.YtapdldekgbbomaaGreatDoor
end
section
namespace Go.Proofs.YtapdldekgbbomaaGreatDoor
open Go.Ab Go.Un
theorem plE_v {a b:Int}(ha:okN a)(hb:okN b):(a > 4611686018427387904-b→plE a b=4611686018427387904)∧(¬a > 4611686018427387904-b→plE a b=a+b):=⟨fun h=>if_pos h,fun h=>if_neg h⟩
structure LSt (l:List Ru)(k:Nat)(v:Int)(zs:List Int):Prop where
  len:zs.length=l.length
  bef:∀d,d<k→zs.getD d 0=PZ l d
  at':zs.getD k 0=v
  aft:∀d,k<d→zs.getD d 0=0
variable {l:List Ru}
theorem LSt.zero:LSt l 0 0 (List.replicate l.length 0):=by
  have hz:∀d,(List.replicate l.length (0:Int)).getD d 0=0:=fun d=>by rw[List.getD_eq_getElem?_getD,List.getElem?_replicate];split<;>rfl
  exact ⟨by simp,fun d hd=>by omega,hz _,fun d _=>hz d⟩
variable {zs:List Int}{k:Nat}
theorem qM {x:Int}(h:k<zs.length):(zs.set k x).getD k 0=x:=by simp[List.getD,h]
theorem getD_set_ne {d:Nat}{x:Int}(h:d≠k):(zs.set k x).getD d 0=zs.getD d 0:=by simp only[List.getD_eq_getElem?_getD,List.getElem?_set_ne (Ne.symm h)]
theorem LSt.set {v w:Int}(h:LSt l k v zs)(hk:k<l.length):LSt l k w (zs.set k w):=
  ⟨by rw[List.length_set];exact h.len,fun d hd=>by rw[getD_set_ne (by omega)];exact h.bef d hd,qM (by rw[h.len];exact hk),fun d hd=>by rw[getD_set_ne (by omega)];exact h.aft d hd⟩
theorem LSt.next {j:Nat}(h:LSt l k (eS k (dZ l k) (l.getD k g6) j) zs)(hj:(l.getD k g6).items.length≤j)(hi:j≤(l.getD k g6).items.length):LSt l (k+1) 0 zs:=by
  obtain rfl:j=(l.getD k g6).items.length:=by omega
  refine ⟨h.len,fun d hd=>?_,h.aft _ (by omega),fun d hd=>h.aft d (by omega)⟩;by_cases e:d=k
  · rw[e];exact h.at'
  · exact h.bef d (by omega)
theorem LSt.all {v:Int}(h:LSt l k v zs)(hk:l.length≤k):zs=dZ l l.length:=by refine List.ext_getElem (by rw[kS,h.len]) fun d k1 k2=>?_;have h1:=h.bef d (by have:=h.len;omega);have h2:=nG (l:=l) (k:=l.length) (j:=d) (by rw[h.len]at k1;exact k1);have h3:PZ l d=(dZ l l.length).getD d 0:=h2.symm;rw[h3]at h1;simpa [List.getD,k1,k2] using h1
theorem lenR_ok:okN (PZ l k):=qJ (fun x hx=>qK x hx) (Nat.le_refl _)
theorem lenJ_y {n:Int}{x:Int×Int}(h:0≤x.2∧x.2<k):TK k (dZ l k) n x=plE (plE n 1) (PZ l x.2.toNat):=by unfold TK;rw[if_pos h,nG (by omega)];rfl
theorem lenJ_n {n:Int}{x:Int×Int}(h:¬(0≤x.2∧x.2<k)):TK k (dZ l k) n x=plE n 1:=if_neg h
theorem LSt.yes {l:List Ru}{k j:Nat}{zs:List Int}{a b:Int}(h:LSt l k (eS k (dZ l k) (l.getD k g6) j) zs)(hk:k<l.length)(hj:j<(l.getD k g6).items.length)(hx:0≤((l.getD k g6).items.getD j (0,0)).2∧((l.getD k g6).items.getD j (0,0)).2<k)
    (ha:a=plE (eS k (dZ l k) (l.getD k g6) j) 1) (hb:b=plE a (PZ l ((l.getD k g6).items.getD j (0,0)).2.toNat)):LSt l k (eS k (dZ l k) (l.getD k g6) (j+1)) ((zs.set k a).set k b):=by
  have e:eS k (dZ l k) (l.getD k g6) (j+1)=b:=by rw[lW hj,lenJ_y hx,hb,ha]
  rw[e];exact (h.set (w:=a) hk).set hk
theorem LSt.no {l:List Ru}{k j:Nat}{zs:List Int}{a:Int}(h:LSt l k (eS k (dZ l k) (l.getD k g6) j) zs)(hk:k<l.length)(hj:j<(l.getD k g6).items.length)(hx:¬(0≤((l.getD k g6).items.getD j (0,0)).2∧((l.getD k g6).items.getD j (0,0)).2<k))
    (ha:a=plE (eS k (dZ l k) (l.getD k g6) j) 1):LSt l k (eS k (dZ l k) (l.getD k g6) (j+1)) (zs.set k a):=by
  have e:eS k (dZ l k) (l.getD k g6) (j+1)=a:=by rw[lW hj,lenJ_n hx,ha]
  rw[e];exact h.set hk
theorem leng_0 (h:l.length=0):(0:Int)=lX l:=by rw[List.length_eq_zero_iff.1 h];rfl
theorem leng_p {i:Nat}(hk:k=l.length)(h:i=l.length-1):(dZ l k).getD i 0=lX l:=by subst hk h;rfl
theorem eqEf {a b:Ef}:eqA cfg 4 63 (.agg [.int .i64 a.lo,.int .i64 a.hi,.int .i64 a.net]) (.agg [.int .i64 b.lo,.int .i64 b.hi,.int .i64 b.net])=some (decide (a=b)):=by
  have e:eqA cfg 4 63 (.agg [.int .i64 a.lo,.int .i64 a.hi,.int .i64 a.net]) (.agg [.int .i64 b.lo,.int .i64 b.hi,.int .i64 b.net])=(match some (a.lo==b.lo) with
    | some true=>(match some (a.hi==b.hi) with
      | some true=>(match some (a.net==b.net) with
        | some true=>some true
        | some false=>some false
        | none=>none)
      | some false=>some false
      | none=>none)
    | some false=>some false
    | none=>none):=rfl
  rw[e];obtain ⟨a1,a2,a3⟩:=a;obtain ⟨b1,b2,b3⟩:=b;rcases Bool.eq_false_or_eq_true (a1==b1) with h1 | h1<;>rcases Bool.eq_false_or_eq_true (a2==b2) with h2 | h2<;>rcases Bool.eq_false_or_eq_true (a3==b3) with h3 | h3<;>simp only[h1,h2,h3]<;>simp_all
theorem ext_E {a b:List Ef}(hl:a.length=b.length)(h:∀d,d<a.length→a.getD d mG=b.getD d mG):a=b:=by refine List.ext_getElem hl fun d k1 k2=>?_;have:=h d k1;simpa [List.getD,k1,k2] using this
attribute [local go_sem] rd Int.natCast_nonneg Int.natCast_inj Int.toNat_natCast_add_one mnI mxI wrap64 qS max2 u4 u3 bB kH iR iS iT lU iU iV lV eA w8 aJ w6 q9 cQ n6 dW dX cP gR fV lZ hU List.length_take oF eqEf W4 TB EY List.length_set List.length_replicate kS
variable {h:c8}
theorem TP {a b:Int}(ha:okN a)(hb:okN b):CB 63 [.int .i64 a,.int .i64 b] h (.int .i64 (plE a b)):=by
  refine .bz Tryz.f63 12 ?_;have h1:0≤a∧a≤4611686018427387904:=ha;have h2:0≤b∧b≤4611686018427387904:=hb;refine c54z ?_;refine u2z ?_ ?_
  ·intro e1 qe1;refine c15z ?_;exact ⟨[],_,(List.append_nil _).symm,t67,t170⟩
  intro e1 qe1;refine .sk ?_;refine c15z ?_;exact ⟨[],_,(List.append_nil _).symm,t67,t170⟩
theorem keep_z (a b:List Int):z8 (h++[⟨0,false,3,1,l5 a,0⟩]) (h++[⟨0,false,3,1,l5 b,0⟩]):=(z8.refl h).app rfl ⟨.inr ((oR _).refs _),trivial⟩
theorem O6 (a b:List Int)(r:Blk):z8 (h++[⟨0,false,3,1,l5 a,0⟩,r]) (h++[⟨0,false,3,1,l5 b,0⟩,r]):=(z8.refl h).app rfl ⟨.inr ((oR _).refs _),.inl rfl,trivial⟩
theorem II (hl:l.length<1000000)(hit:∀r∈l,r.items.length<1000000):CB 40 [.vec l.length (g8 l)] h (.vec l.length (l5 (dZ l l.length))):=by
  refine .bz Tryz.f40 58 ?_;refine c98z ?_;refine .aW (fun m st=>∃(k:Nat) (zs:List Int),(m=l.length-k∧(LSt l k 0 zs∧k≤l.length))∧st=⟨mkS 58 [(3,AV.own h.length 0 0 l.length),(11,AV.vec l.length (g8 l)),(12,AV.int .i64 ((l.length:Nat):Int)),(13,AV.int .i64 ((k:Nat):Int))],h++[⟨0,false,3,1,l5 zs,0⟩]⟩) (.v ⟨0,(List.replicate l.length 0),⟨rfl,⟨LSt.zero,by omega⟩⟩,rfl⟩) ?_;rintro m sl h' ⟨k,zs,⟨hm,⟨hZ,hk0⟩⟩,hst⟩;obtain ⟨rfl,rfl⟩:=St.mk.inj hst;clear hst;have hzl:=hZ.len;refine c20z ?_;refine u2z ?_ ?_
  ·intro e1 qe1;refine c207z ?_;have hri:(l.getD k g6).items.length<1000000:=hit _ (j7 (by omega));refine c29z ?_;refine .aW (fun m st=>∃(j:Nat) (zs1:List Int),(m=(l.getD k g6).items.length-j∧(LSt l k (eS k (dZ l k) (l.getD k g6) j) zs1∧j≤(l.getD k g6).items.length))∧st=⟨mkS 58 [(3,AV.own h.length 0 0 l.length),(4,AV.int .i64 ((k:Nat):Int)),(11,AV.vec l.length (g8 l)),(12,AV.int .i64 ((l.length:Nat):Int)),(13,AV.int .i64 ((k:Nat):Int)),(19,AV.vec (l.getD k g6).items.length (j0 (l.getD k g6).items)),(20,AV.int .i64 (((l.getD k g6).items.length:Nat):Int)),(21,AV.int .i64 ((j:Nat):Int))],h++[⟨0,false,3,1,l5 zs1,0⟩,⟨0,false,53,3,[.int .i64 (l.getD k g6).inst,.bool (l.getD k g6).op',.vec (l.getD k g6).items.length (j0 (l.getD k g6).items)],0⟩]⟩) (.v ⟨0,zs,⟨rfl,⟨hZ,by omega⟩⟩,rfl⟩) ?_;rintro m sl h' ⟨j,zs1,⟨hm,⟨hZ1,hj⟩⟩,hst⟩;obtain ⟨rfl,rfl⟩:=St.mk.inj hst;clear hst;have hzl1:=hZ1.len;have hn0:okN (eS k (dZ l k) (l.getD k g6) j):=qJ (fun x hx=>qK x hx) (by omega);refine c20z ?_;refine u2z ?_ ?_
   ·intro e2 qe2;refine c9z ?_;refine c61z ?_;refine .e 6 ?_;refine .ca rfl rfl (TP (hZ1.at'.symm▸hn0) PX) ?_;refine .n ?_;refine .c7 [3,4,7,11,12,13,19,20,21] ?_;refine c28z ?_;refine .spl 36 rfl rfl (fun e3=>?_) (fun e3=>?_)
    ·try simp only[e3]
     have qe3:=fact e3;refine .m [(3,36)] ?_;refine u2z ?_ ?_
     ·intro e4 qe4;refine .c7 [3,4,7,11,12,13,19,20,21] ?_;have hzl2:(zs1.set k (plE (zs1.getD k 0) 1)).length=l.length:=by rw[List.length_set];exact hzl1
      have hg2:(zs1.set k (plE (zs1.getD k 0) 1)).getD ((l.getD k g6).items.getD j (0,0)).2.toNat 0=PZ l ((l.getD k g6).items.getD j (0,0)).2.toNat:=by rw[getD_set_ne (by omega)];exact hZ1.bef _ (by omega)
      have hg1:(zs1.set k (plE (zs1.getD k 0) 1)).getD k 0=plE (eS k (dZ l k) (l.getD k g6) j) 1:=by rw[qM (by omega),hZ1.at']
      refine .so u9 (mkP 14 [0,0,0,0,12,28,0,0,128,448,960,2044,4095,8191] [13]) ?_;refine .k 8 [] ?_;refine .k 3 [] ?_;refine .ca rfl rfl (TP (by rw[hg1];exact W7 hn0 PX) (by rw[hg2];exact lenR_ok)) ?_;refine c74z ?_;refine c252z ?_;exact ⟨_,by omega,.v ⟨(j+1),((zs1.set k (plE (zs1.getD k 0) 1)).set k (plE ((zs1.set k (plE (zs1.getD k 0) 1)).getD k 0) ((zs1.set k (plE (zs1.getD k 0) 1)).getD ((l.getD k g6).items.getD j (0,0)).2.toNat 0))),⟨rfl,⟨hZ1.yes (by omega) (by omega) (by omega) (by rw[hZ1.at']) (by rw[hg1,hg2,hZ1.at']),by omega⟩⟩,rfl⟩ (he:=t33) (hk:=by exact O6 _ _ _)⟩
     intro e4 qe4;refine c8z ?_;refine c252z ?_;exact ⟨_,by omega,.v ⟨(j+1),(zs1.set k (plE (zs1.getD k 0) 1)),⟨rfl,⟨hZ1.no (by omega) (by omega) (by omega) (by rw[hZ1.at']),by omega⟩⟩,rfl⟩ (he:=t33) (hk:=by exact O6 _ _ _)⟩
    try simp only[e3]
    have qe3:=fact e3;refine .m [(3,36)] ?_;refine c47z ?_;refine c252z ?_;exact ⟨_,by omega,.v ⟨(j+1),(zs1.set k (plE (zs1.getD k 0) 1)),⟨rfl,⟨hZ1.no (by omega) (by omega) (by omega) (by rw[hZ1.at']),by omega⟩⟩,rfl⟩ (he:=t33) (hk:=by exact O6 _ _ _)⟩
   intro e2 qe2;refine c10z ?_;refine .rz ?_;exact ⟨_,by omega,.v ⟨(k+1),zs1,⟨rfl,⟨hZ1.next (by omega) (by omega),by omega⟩⟩,rfl⟩ (he:=t33) (hk:=by exact keep_z _ _)⟩
  intro e1 qe1;refine c173z ?_;exact ⟨_,_,rfl,BN t188 (Nat.le_refl _) hZ.len,by (rw[hZ.all (by omega)])⟩
theorem A2 {lock xi xp xd:Int}(hl:l.length<1000000)(hit:∀r∈l,r.items.length<1000000):CB 18 [.agg [.int .i64 lock,.int .i64 xi,.int .i64 xp,.int .i64 xd,.vec l.length (g8 l)]] h (.int .i64 (lX l)):=by
  refine .bz Tryz.f18 16 ?_;have hll:=kS (l:=l) (k:=l.length);refine c54z ?_;refine u2z ?_ ?_
  ·intro e1 qe1;refine .z ?_;exact .ret (.ex (hq:=by exact congrArg (AV.int .i64) (leng_0 (by omega))))
  intro e1 qe1;refine .sk ?_;refine .ss u9 (mkP 10 [0,1,3,0,8,24,56,127,255,511] []) ?_;refine .k 2 [] ?_;refine .ca rfl rfl (II hl hit) ?_;refine .n [] ?_;exact .ret (.ex (hq:=by exact congrArg (AV.int .i64) (leng_p rfl (by omega))))
attribute [local go_sem] tB o9
theorem c_sameE (a b:List Ef)(ha:a.length<1000000)(hb:b.length<1000000):CB 12 [.vec a.length (y0 a),.vec b.length (y0 b)] h (.bool (decide (a=b))):=by
  refine .bz Tryz.f12 26 ?_;refine c54z ?_;refine u2z ?_ ?_
  ·intro e1 qe1;refine c228z ?_;exact ⟨[],_,(List.append_nil _).symm,t67,t98⟩
  intro e1 qe1;refine .sk ?_;refine c7z ?_;refine .jZ (fun m st=>∃(i:Nat),(m=a.length-i∧((∀d,d<i→a.getD d mG=b.getD d mG)∧i≤a.length))∧st=⟨mkS 26 [(0,AV.vec a.length (y0 a)),(1,AV.vec b.length (y0 b)),(5,AV.int .i64 ((i:Nat):Int))],h⟩) _ (.v ⟨0,⟨rfl,⟨t106,by omega⟩⟩,rfl⟩) ?_;rintro m sl h' ⟨i,⟨hm,⟨hI,hi⟩⟩,hst⟩;obtain ⟨rfl,rfl⟩:=St.mk.inj hst;refine c1z ?_;refine u2z ?_ ?_
  ·intro e2 qe2;refine c9z ?_;refine .ss u9 (mkP 9 [0,0,3,7,0,0,48,112,255] []) ?_;refine c159z ?_;refine u2z ?_ ?_
   ·intro e3 qe3;refine c228z ?_;exact ⟨[],_,(List.append_nil _).symm,t67,t98⟩
   intro e3 qe3;refine c8z ?_;refine c172z ?_;exact ⟨_,by omega,.v ⟨(i+1),⟨rfl,⟨(fun d hd=>if e:d=i then by rw[e];simp_all else hI d (by omega)),by omega⟩⟩,rfl⟩⟩
  intro e2 qe2;refine c173z ?_;exact ⟨[],_,(List.append_nil _).symm,t67,t98⟩
end Go.Proofs.YtapdldekgbbomaaGreatDoor
end
section
namespace Go.Proofs.YtapdldekgbbomaaGreatDoor
open Go.Ab Go.Un
variable {l:List Ru}{k j:Nat}
theorem X0 {α:List (Int×Int)}(hj:j<(l.getD k g6).items.length)(hx:0≤((l.getD k g6).items.getD j (0,0)).2∧((l.getD k g6).items.getD j (0,0)).2<k):α++(v8 k (u5 l k) (l.getD k g6) (j+1))=α++(v8 k (u5 l k) (l.getD k g6) j)++[(((l.getD k g6).items.getD j (0,0)).1,(l.getD k g6).inst)]++bC l ((l.getD k g6).items.getD j (0,0)).2.toNat:=by rw[dR hj,lY,if_pos hx];simp
theorem X1 {α:List (Int×Int)}(hj:j<(l.getD k g6).items.length)(hx:¬(0≤((l.getD k g6).items.getD j (0,0)).2∧((l.getD k g6).items.getD j (0,0)).2<k)):α++(v8 k (u5 l k) (l.getD k g6) (j+1))=α++(v8 k (u5 l k) (l.getD k g6) j)++[(((l.getD k g6).items.getD j (0,0)).1,(l.getD k g6).inst)]:=by rw[dR hj,lY,if_neg hx];simp
variable {n:Nat}
theorem kT (hj:j<(l.getD k g6).items.length)(hx:0≤((l.getD k g6).items.getD j (0,0)).2∧((l.getD k g6).items.getD j (0,0)).2<k):n+(v8 k (u5 l k) (l.getD k g6) (j+1)).length=n+(v8 k (u5 l k) (l.getD k g6) j).length+1+(bC l ((l.getD k g6).items.getD j (0,0)).2.toNat).length:=by rw[dR hj,lY,if_pos hx,List.length_append,List.length_cons];omega
theorem qN (hj:j<(l.getD k g6).items.length)(hx:¬(0≤((l.getD k g6).items.getD j (0,0)).2∧((l.getD k g6).items.getD j (0,0)).2<k)):n+(v8 k (u5 l k) (l.getD k g6) (j+1)).length=n+(v8 k (u5 l k) (l.getD k g6) j).length+1:=by rw[dR hj,lY,if_neg hx,List.length_append,List.length_singleton];omega
theorem nH {l:List Ru}{k:Nat}:∀{i j:Nat},i≤j→j≤(l.getD k g6).items.length→(v8 k (u5 l k) (l.getD k g6) i).length≤(v8 k (u5 l k) (l.getD k g6) j).length
  | i,0,h,_=>by rw[show i=0 from by omega];exact Nat.le_refl _
  | i,j+1,h,hj=>by
    by_cases e:i=j+1
    · rw[e];exact Nat.le_refl _
    · have:=nH (l:=l) (k:=k) (i:=i) (j:=j) (by omega) (by omega)
      rw[dR (by omega),List.length_append];omega
theorem TQ {β m:Nat}(h:n=m):AV.own β n 0 n=AV.own β m 0 m:=by rw[h]
variable {h Rr:c8}
theorem app_x {xb:Blk}{f:List (Int×Int)}{p q:Int}(hn:f.length=n)(hl:n<100000):j5 cfg 55 (h++(p8 55 2 n (j0 f)::(Rr++[xb,⟨0,false,55,2,[.int .i64 p,.int .i64 q],0⟩]))) (.own h.length n 0 n) (.own (h.length+(Rr.length+1+1)) 0 0 1)=some (.own h.length (n+1) 0 (n+1),h++(p8 55 2 (n+1) (j0 (f++[(p,q)]))::(Rr++[xb,⟨0,false,55,2,[.int .i64 p,.int .i64 q],0⟩]))):=by subst hn;rw[aC (C:=cfg) (K:=2) (m:=1) (new:=[.int .i64 p,.int .i64 q]) (zs:=j0 f) t188 rfl (by omega) (by rw[u3];omega) rfl (by omega) (by simp[rd,o7,fK]) rfl (by decide) (by omega),lC,show j0 f++[.int .i64 p,.int .i64 q]=j0 (f++[(p,q)]) from by simp[j0,O2]];rfl
theorem app_xg {xb:Blk}{f:List (Int×Int)}{p q:Int}{g:Nat}(hn:f.length=n)(hl:n<100000):j5 cfg 55 (h++[p8 55 2 g (j0 f),xb,⟨0,false,55,2,[.int .i64 p,.int .i64 q],0⟩]) (.own h.length g 0 n) (.own (h.length+2) 0 0 1)=some (.own h.length (g+1) 0 (n+1),h++[p8 55 2 (g+1) (j0 (f++[(p,q)])),xb,⟨0,false,55,2,[.int .i64 p,.int .i64 q],0⟩]):=by subst hn;rw[aC (C:=cfg) (K:=2) (m:=1) (new:=[.int .i64 p,.int .i64 q]) (zs:=j0 f) t188 rfl (by omega) (by rw[u3];omega) rfl (by omega) (by simp[rd,o7,fK]) rfl (by decide) (by omega),lC,show j0 f++[.int .i64 p,.int .i64 q]=j0 (f++[(p,q)]) from by simp[j0,O2]];rfl
def gP (g n:Nat):Nat:=if n=0 then g else g+1
theorem vV (l:List (Int×Int)):aO (j0 l):=aO.flat fun _=>aO.cons .int (aO.cons .int aO.nil)
theorem TR {g1 g2:Nat}(a b:List (Int×Int)):z8 (h++(p8 55 2 g1 (j0 a)::Rr)) (h++(p8 55 2 g2 (j0 b)::Rr)):=(z8.refl h).app rfl ⟨.inr (by rw[o9];exact (vV _).refs _),mY.refl _ _⟩
theorem frz_im {β g len:Nat}{H:c8}{a:List (Int×Int)}(hb:H[β]?=some (p8 55 2 g (j0 a)))(hn:n≤β)(hl:a.length=len):gT n H 6 (.own β g 0 len)=some (.vec len (j0 a)):=by rw[cW,if_neg (by omega)];exact eN hb hn (by rw[u3,hl];omega) (by omega) ((vV a).frz _ _ _)
def TS (l:List Ru)(most:Int):List (Int×Int)×Bool:=if most<0∨10000<most∨most<lX l then ([],false) else (bC l (l.length-1),true)
variable {most:Int}
theorem TU (h:most<0∨10000<most∨most<lX l):TS l most=([],false):=if_pos h
theorem X2 (h:¬(most<0∨10000<most∨most<lX l)):TS l most=(bC l (l.length-1),true):=if_neg h
theorem X3 (h0:0<l.length)(h1:most≤10000)(h2:lX l≤most):(bC l (l.length-1)).length≤10000:=by have:=qL h0;unfold mxL at this;omega
attribute [local go_sem] rd Int.natCast_nonneg Int.natCast_inj Int.toNat_natCast_add_one mnI mxI wrap64 qS max2 u4 u3 bB kH iR iS iT lU iU iV lV eA w8 aJ w6 q9 cQ n6 dW dX cP gR fV lZ hU List.length_take oF app_x app_xg
theorem c_expS (hl:l.length<1000000)(hit:∀r∈l,r.items.length<1000000)(hk:k<l.length)(a:List (Int×Int))(hn:a.length=n)(hn0:0<n)(hb:n+(bC l k).length<50000)(ih:∀(x:Int) (h R':c8) (a':List (Int×Int)) (n':Nat),a'.length=n'→0<n'→0≤x→x<k→n'+(bC l x.toNat).length<50000→CH 38 [.vec l.length (g8 l),.int .i64 x,.own h.length n' 0 n'] (h++(p8 55 2 n' (j0 a')::R')) (.own h.length (n'+(bC l x.toNat).length) 0 (n'+(bC l x.toNat).length)) (h++(p8 55 2 (n'+(bC l x.toNat).length) (j0 (a'++bC l x.toNat))::R'))):CH 38 [.vec l.length (g8 l),.int .i64 ((k:Nat):Int),.own h.length n 0 n] (h++(p8 55 2 n (j0 a)::Rr)) (.own h.length (n+(bC l k).length) 0 (n+(bC l k).length)) (h++(p8 55 2 (n+(bC l k).length) (j0 (a++bC l k))::Rr)):=by
  refine .wz Tryz.f38 46 ?_;have hri:(l.getD k g6).items.length<1000000:=hit _ (j7 hk);refine c26z ?_;refine .aW (fun m st=>∃(j:Nat),(m=(l.getD k g6).items.length-j∧(j≤(l.getD k g6).items.length))∧st=⟨mkS 46 [(0,AV.vec l.length (g8 l)),(1,AV.int .i64 ((k:Nat):Int)),(2,AV.own h.length (n+(v8 k (u5 l k) (l.getD k g6) j).length) 0 (n+(v8 k (u5 l k) (l.getD k g6) j).length)),(13,AV.vec (l.getD k g6).items.length (j0 (l.getD k g6).items)),(14,AV.int .i64 (((l.getD k g6).items.length:Nat):Int)),(15,AV.int .i64 ((j:Nat):Int))],(h++(p8 55 2 (n+(v8 k (u5 l k) (l.getD k g6) j).length) (j0 (a++(v8 k (u5 l k) (l.getD k g6) j)))::Rr))⟩) (.v ⟨0,⟨rfl,by omega⟩,rfl⟩ (hs:=t55)) ?_ (he:=by (rw[show n+(v8 k (u5 l k) (l.getD k g6) 0).length=n from rfl,show a++(v8 k (u5 l k) (l.getD k g6) 0)=a from List.append_nil a]));rintro m sl h' ⟨j,⟨hm,hj⟩,hst⟩;obtain ⟨rfl,rfl⟩:=St.mk.inj hst;clear hst;have hal:(a++(v8 k (u5 l k) (l.getD k g6) j)).length=n+(v8 k (u5 l k) (l.getD k g6) j).length:=by rw[List.length_append,hn]
  have hle:=nH (l:=l) (k:=k) (i:=j) (j:=(l.getD k g6).items.length) (by omega) (by omega);have hpr:(bC l k).length=(v8 k (u5 l k) (l.getD k g6) (l.getD k g6).items.length).length:=rfl;refine c20z ?_;refine u2z ?_ ?_
  ·intro e1 qe1;refine c207z ?_;refine .sm u9 (mkP 12 [0,0,2,0,0,24,56,120,254,510,1023,2047] [9,10]) [0] ?_;refine eT.p (pd:=[]) 12 ?_;refine eT.nil t14 ?_;refine .c7 [0,1,2,8,13,14,15] ?_;refine c28z ?_;refine .spl 33 rfl rfl (fun e2=>?_) (fun e2=>?_)
   ·try simp only[e2]
    have qe2:=fact e2;refine .m [(3,33)] ?_;refine u2z ?_ ?_
    ·intro e3 qe3;refine .c7 [0,1,2,8,13,14,15] ?_;refine c99z ?_;refine .ch rfl rfl (ih _ h _ (a++((v8 k (u5 l k) (l.getD k g6) j)++[(((l.getD k g6).items.getD j (0,0)).1,(l.getD k g6).inst)])) _ (by simp only[List.length_append,List.length_cons,List.length_nil];omega) (by omega) (by omega) (by omega) (by have:=kT (n:=n) (l:=l) (k:=k) (j:=j) (by omega) (by omega);have hle2:=nH (l:=l) (k:=k) (i:=j+1) (j:=(l.getD k g6).items.length) (by omega) (by omega);omega)) ?_;refine c30z ?_;refine .rz ?_;exact ⟨_,by omega,.v ⟨(j+1),⟨rfl,by omega⟩,rfl⟩ (he:=by (rw[X0 (by omega) (by omega),kT (by omega) (by omega)];simp only[List.append_assoc,List.cons_append,List.nil_append];rfl)) (hk:=t217) (hs:=t55)⟩
    intro e3 qe3;refine c8z ?_;refine c206z ?_;exact ⟨_,by omega,.v ⟨(j+1),⟨rfl,by omega⟩,rfl⟩ (he:=t158) (hk:=t217) (hs:=t55)⟩
   try simp only[e2]
   have qe2:=fact e2;refine .m [(3,33)] ?_;refine c47z ?_;refine c206z ?_;exact ⟨_,by omega,.v ⟨(j+1),⟨rfl,by omega⟩,rfl⟩ (he:=t158) (hk:=t217) (hs:=t55)⟩
  intro e1 qe1;refine c173z ?_;exact ⟨(h++(p8 55 2 (n+(v8 k (u5 l k) (l.getD k g6) j).length) (j0 (a++(v8 k (u5 l k) (l.getD k g6) j)))::Rr)),_,_,t123,by simp,TR _ _,cW.trans (if_pos (by simp)),by (obtain rfl:j=(l.getD k g6).items.length:=(by omega);exact ⟨rfl,rfl⟩)⟩
theorem c_exp (hl:l.length<1000000)(hit:∀r∈l,r.items.length<1000000)(k:Nat):∀(h R':c8) (a:List (Int×Int)) (n:Nat),k<l.length→a.length=n→0<n→n+(bC l k).length<50000→CH 38 [.vec l.length (g8 l),.int .i64 ((k:Nat):Int),.own h.length n 0 n] (h++(p8 55 2 n (j0 a)::R')) (.own h.length (n+(bC l k).length) 0 (n+(bC l k).length)) (h++(p8 55 2 (n+(bC l k).length) (j0 (a++bC l k))::R')):=by
  induction k using Nat.strongRecOn with
  | ind k ih=>
    intro h R' a n hk hn h0 hb;refine c_expS hl hit hk a hn h0 hb ?_;intro x h R' a' n' h1 h2 h3 h4 h5;obtain ⟨k',rfl⟩:=Int.eq_ofNat_of_zero_le h3;exact ih k' (by omega) h R' a' n' (by omega) h1 h2 h5
theorem heY (j:Nat)(hj:j<(l.getD k g6).items.length)(hx:0≤((l.getD k g6).items.getD j (0,0)).2∧((l.getD k g6).items.getD j (0,0)).2<k):p8 55 2 (v8 k (u5 l k) (l.getD k g6) (j+1)).length (j0 (v8 k (u5 l k) (l.getD k g6) (j+1)))=p8 55 2 ((v8 k (u5 l k) (l.getD k g6) j).length+1+(bC l ((l.getD k g6).items.getD j (0,0)).2.toNat).length) (j0 ((v8 k (u5 l k) (l.getD k g6) j)++[(((l.getD k g6).items.getD j (0,0)).1,(l.getD k g6).inst)]++bC l ((l.getD k g6).items.getD j (0,0)).2.toNat)):=by have h1:=X0 (α:=[]) hj hx;have h2:=kT (n:=0) hj hx;simp only[List.nil_append,Nat.zero_add]at h1 h2;rw[h2,h1]
theorem heN (j:Nat)(hj:j<(l.getD k g6).items.length)(hx:¬(0≤((l.getD k g6).items.getD j (0,0)).2∧((l.getD k g6).items.getD j (0,0)).2<k)):p8 55 2 (v8 k (u5 l k) (l.getD k g6) (j+1)).length (j0 (v8 k (u5 l k) (l.getD k g6) (j+1)))=p8 55 2 ((v8 k (u5 l k) (l.getD k g6) j).length+1) (j0 ((v8 k (u5 l k) (l.getD k g6) j)++[(((l.getD k g6).items.getD j (0,0)).1,(l.getD k g6).inst)])):=by have h1:=X1 (α:=[]) hj hx;have h2:=qN (n:=0) hj hx;simp only[List.nil_append,Nat.zero_add]at h1 h2;rw[h2,h1]
theorem c_expI (hl:l.length<1000000)(hit:∀r∈l,r.items.length<1000000)(x:Int)(h R':c8)(a:List (Int×Int))(n:Nat)(hn:a.length=n)(h0:0<n)(hx:0≤x)(hk:x<l.length)(hb:n+(bC l x.toNat).length<50000):CH 38 [.vec l.length (g8 l),.int .i64 x,.own h.length n 0 n] (h++(p8 55 2 n (j0 a)::R')) (.own h.length (n+(bC l x.toNat).length) 0 (n+(bC l x.toNat).length)) (h++(p8 55 2 (n+(bC l x.toNat).length) (j0 (a++bC l x.toNat))::R')):=by obtain ⟨k',rfl⟩:=Int.eq_ofNat_of_zero_le hx;exact c_exp hl hit k' h R' a n (by omega) hn h0 hb
theorem c_exp0 (hl:l.length<1000000)(hit:∀r∈l,r.items.length<1000000)(hk:k<l.length)(hb:(bC l k).length<20000):CB 38 [.vec l.length (g8 l),.int .i64 ((k:Nat):Int),.l7] h (.vec (bC l k).length (j0 (bC l k))):=by
  refine .bz Tryz.f38 46 ?_;have hri:(l.getD k g6).items.length<1000000:=hit _ (j7 hk);refine c26z ?_;refine g7.yU 2 rfl ?_;refine .aW (fun m st=>∃(j:Nat),(m=(l.getD k g6).items.length-j∧(j≤(l.getD k g6).items.length))∧st=⟨mkS 46 [(0,AV.vec l.length (g8 l)),(1,AV.int .i64 ((k:Nat):Int)),(2,AV.own h.length (v8 k (u5 l k) (l.getD k g6) j).length 0 (v8 k (u5 l k) (l.getD k g6) j).length),(13,AV.vec (l.getD k g6).items.length (j0 (l.getD k g6).items)),(14,AV.int .i64 (((l.getD k g6).items.length:Nat):Int)),(15,AV.int .i64 ((j:Nat):Int))],h++[p8 55 2 (v8 k (u5 l k) (l.getD k g6) j).length (j0 (v8 k (u5 l k) (l.getD k g6) j))]⟩) (.v ⟨0,⟨rfl,by omega⟩,rfl⟩ (hs:=t45)) ?_ (he:=by rfl);rintro m sl h' ⟨j,⟨hm,hj⟩,hst⟩;obtain ⟨rfl,rfl⟩:=St.mk.inj hst;clear hst;have hle:=nH (l:=l) (k:=k) (i:=j) (j:=(l.getD k g6).items.length) (by omega) (by omega);have hpr:(bC l k).length=(v8 k (u5 l k) (l.getD k g6) (l.getD k g6).items.length).length:=rfl;refine c20z ?_;refine u2z ?_ ?_
  ·intro e1 qe1;refine c207z ?_;refine .sm u9 (mkP 12 [0,0,2,0,0,24,56,120,254,510,1023,2047] [9,10]) [0] ?_;refine eT.p (pd:=[]) 12 ?_;refine eT.nil t14 ?_;refine .c7 [0,1,2,8,13,14,15] ?_;refine c28z ?_;refine .spl 33 rfl rfl (fun e2=>?_) (fun e2=>?_)
   ·try simp only[e2]
    have qe2:=fact e2;refine .m [(3,33)] ?_;refine u2z ?_ ?_
    ·intro e3 qe3;refine .c7 [0,1,2,8,13,14,15] ?_;refine c99z ?_;refine .ch rfl rfl (c_expI hl hit _ h _ ((v8 k (u5 l k) (l.getD k g6) j)++[(((l.getD k g6).items.getD j (0,0)).1,(l.getD k g6).inst)]) _ (by simp only[List.length_append,List.length_cons,List.length_nil]) (by omega) (by omega) (by omega) (by have:=kT (n:=0) (l:=l) (k:=k) (j:=j) (by omega) (by omega);have hle2:=nH (l:=l) (k:=k) (i:=j+1) (j:=(l.getD k g6).items.length) (by omega) (by omega);omega)) ?_;refine c30z ?_;refine .rz ?_;exact ⟨_,by omega,.v ⟨(j+1),⟨rfl,by omega⟩,rfl⟩ (he:=by (rw[heY j (by omega) (by omega)];simp only[List.append_assoc,List.cons_append,List.nil_append];rfl)) (hk:=t217) (hs:=t45)⟩
    intro e3 qe3;refine c8z ?_;refine c206z ?_;exact ⟨_,by omega,.v ⟨(j+1),⟨rfl,by omega⟩,rfl⟩ (he:=t186) (hk:=t217) (hs:=t45)⟩
   try simp only[e2]
   have qe2:=fact e2;refine .m [(3,33)] ?_;refine c47z ?_;refine c206z ?_;exact ⟨_,by omega,.v ⟨(j+1),⟨rfl,by omega⟩,rfl⟩ (he:=t186) (hk:=t217) (hs:=t45)⟩
  intro e1 qe1;refine c173z ?_;exact ⟨_,_,rfl,frz_im t188 (Nat.le_refl _) rfl,t230⟩
theorem c_expL (hl:l.length<1000000)(hit:∀r∈l,r.items.length<1000000)(h0:0<l.length)(hb:(bC l (l.length-1)).length<20000):CB 38 [.vec l.length (g8 l),.int .i64 ((l.length:Int)-1),.l7] h (.vec (bC l (l.length-1)).length (j0 (bC l (l.length-1)))):=by rw[show (l.length:Int)-1=((l.length-1:Nat):Int) from by omega];exact c_exp0 hl hit (by omega) hb
theorem expR_0 (h:¬(most<0∨10000<most∨most<lX l))(h0:l.length=0):TS l most=([],true):=by rw[X2 h,List.length_eq_zero_iff.1 h0];rfl
theorem QG {lock xi xp xd:Int}(hl:l.length<1000000)(hit:∀r∈l,r.items.length<1000000)(most:Int):CB 16 [.agg [.int .i64 lock,.int .i64 xi,.int .i64 xp,.int .i64 xd,.vec l.length (g8 l)],.int .i64 most] h (.tup [.vec (TS l most).1.length (j0 (TS l most).1),.bool (TS l most).2]):=by
  refine .bz Tryz.f16 29 ?_;have hlo:0≤lX l∧lX l≤4611686018427387904:=W8 (fun x hx=>qK x hx) _;refine c267z ?_;refine .spl 8 rfl rfl (fun e1=>?_) (fun e1=>?_)
  ·try simp only[e1]
   have qe1:=fact e1;refine .k 8 [(2,8),(6,12)] ?_;refine .n ?_;refine c46z ?_;exact .ret (.ex (hq:=t237))
  try simp only[e1]
  have qe1:=fact e1;refine .k 4 [(2,8)] ?_;refine .spl 12 rfl rfl (fun e2=>?_) (fun e2=>?_)
  ·try simp only[e2]
   have qe2:=fact e2;refine .m [(6,12)] ?_;refine c46z ?_;exact .ret (.ex (hq:=t237))
  try simp only[e2]
  have qe2:=fact e2;refine .k 1 [(6,12)] ?_;refine .ca rfl rfl (A2 hl hit) ?_;refine .m [(6,12)] ?_;refine u2z ?_ ?_
  ·intro e3 qe3;refine c4z ?_;exact .ret (.ex (hq:=t237))
  intro e3 qe3;refine c100z ?_;refine .c7 [2] ?_;refine .z ?_;refine u2z ?_ ?_
  ·intro e4 qe4;refine .z ?_;exact .ret (.ex (hq:=by (rw[expR_0 (by omega) (by omega)];rfl)))
  intro e4 qe4;refine .sk ?_;refine c126z ?_;refine .ca rfl rfl (c_expL hl hit (by omega) (by have:=X3 (l:=l) (most:=most) (by omega) (by omega) (by omega);omega)) ?_;refine .n ?_;exact .ret (.ex (hq:=by (rw[X2 (by omega)])))
end Go.Proofs.YtapdldekgbbomaaGreatDoor
end
