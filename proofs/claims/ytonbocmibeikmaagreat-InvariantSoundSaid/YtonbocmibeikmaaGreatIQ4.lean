/- My own texts, put together by a program of mine. -/
import Derived.Test.YtonbocmibeikmaaGreatIQ3
set_option linter.unusedSimpArgs false
set_option linter.unusedVariables false
set_option maxRecDepth 100000
set_option maxHeartbeats 4000000
section
namespace Go.Proofs.YtonbocmibeikmaaGreat
open Go.Ab Go.Un
theorem ET {l:List Ex}{x:Ex}:n9 (l++[x])=n9 l++u3 x:=by simp[n9]
theorem U5 {l:List Pl}{x:Pl}:dV (l++[x])=dV l++K4 x:=by simp[dV]
section
variable {e:Frm}{b b0 b1 b2 b3 b4 b5 b6:Blk}{c:List Ins}{ss:List Int}{l:c7}{es:List Ex}{x:Ex}{ps:List Pl}{p:Pl}{g n:Nat}
theorem JV (hn:es.length=n)(hl:n<100000):j7 cfg 49 (hT e b c ss++(b0::b1::b2::b3::o8 49 4 g (n9 es)::b5::b6::⟨0,false,49,4,u3 x,0⟩::l)) (.own (e.n+4) g 0 n) (.own (e.n+7) 0 0 1)=some (.own (e.n+4) (g+1) 0 (n+1),hT e b c ss++(b0::b1::b2::b3::o8 49 4 (g+1) (n9 (es++[x]))::b5::b6::⟨0,false,49,4,u3 x,0⟩::l)):=by subst hn;rw[v7 (C:=cfg) (K:=4) (m:=1) (new:=u3 x) (zs:=n9 es) (by rw[eG];rfl) rfl (by omega) (by rw[bD,Nat.mul_comm]) (by rw[o6]) (by omega) (by simp[rd,eG,o6,gC]) rfl (by decide) (by omega),←ET,iG];rfl
theorem JW (hn:ps.length=n)(hl:n<100000):j7 cfg 51 (hT e b c ss++(b0::b1::b2::b3::b4::o8 51 3 g (dV ps)::b6::⟨0,false,51,3,[.bool p.param,.int .i64 p.index,.vec p.at'.length (n9 p.at')],0⟩::l)) (.own (e.n+5) g 0 n) (.own (e.n+7) 0 0 1)=some (.own (e.n+5) (g+1) 0 (n+1),hT e b c ss++(b0::b1::b2::b3::b4::o8 51 3 (g+1) (dV (ps++[p]))::b6::⟨0,false,51,3,[.bool p.param,.int .i64 p.index,.vec p.at'.length (n9 p.at')],0⟩::l)):=by subst hn;rw[v7 (C:=cfg) (K:=3) (m:=1) (new:=K4 p) (zs:=dV ps) (by rw[eG];rfl) rfl (by omega) t216 rfl (by omega) (by simp[rd,eG,K4]) rfl (by decide) (by omega),←U5,iG];rfl
end
theorem hT_same {e:Frm}{b:Blk}{c:List Ins}{ss:List Int}{l l':c7}(hl:oB (e.n+l'.length) l l'):aE (hT e b c ss++l) (hT e b c ss++l'):=
  (aE.refl _).app rfl (by rw[aJ];exact hl)
variable {E:Env}{vars:List BA}{xs:List Ar}
theorem GAs.mu {ps:List Pm}(h:GAs E vars ps xs):ps.length=xs.length∧∀i,i<xs.length→(xs.getD i dU).mu=(ps.getD i iM).mu:=by
  induction ps generalizing xs with
  | nil=>
    cases xs with
    | nil=>exact ⟨rfl,fun i hi=>by simp at hi⟩
    | cons=>exact h.elim
  | cons p ps ih=>
    cases xs with
    | nil=>exact h.elim
    | cons a xs=>
      obtain ⟨⟨h1,_⟩,h3⟩:=h;obtain ⟨i1,i2⟩:=ih h3;refine ⟨by simp[i1],fun i hi=>?_⟩;cases i with
      | zero=>exact h1
      | succ i=>exact i2 i t189
theorem ar_is {ps:List Pm}(h:GAs E vars ps xs){i:Nat}(hi:i<xs.length):((xs.getD i dU).mu=true→GR E vars (xs.getD i dU).r)∧((xs.getD i dU).mu=false→GE vars 2 (xs.getD i dU).e):=by
  induction ps generalizing xs i with
  | nil=>
    cases xs with
    | nil=>simp at hi
    | cons=>exact h.elim
  | cons p ps ih=>
    cases xs with
    | nil=>exact h.elim
    | cons a xs=>
      obtain ⟨⟨h1,h2⟩,h3⟩:=h;cases i with
      | succ i=>exact ih h3 (by simpa using hi)
      | zero=>
        simp only[List.getD_cons_zero];rcases h2 with ⟨q1,q2,_⟩ | ⟨q1,_,q3⟩
        · exact ⟨fun _=>q2,fun h=>absurd ((h1.trans q1).symm.trans h) (by decide)⟩
        · exact ⟨fun h=>absurd ((h1.trans q1).symm.trans h) (by decide),fun _=>q3⟩
variable {i:Nat}
theorem C2 (hi:i<xs.length):xs.drop i=xs.getD i dU::xs.drop (i+1):=by rw[List.drop_eq_getElem_cons hi];simp[List.getD,hi]
theorem cEx_t {l:List Ent}(hi:i<xs.length)(h:(xs.getD i dU).mu=true){es:List Ex}(he:aT l xs=es++aT l (xs.drop i)):aT l xs=es++aT l (xs.drop (i+1)):=by rw[he,C2 hi,aT,if_pos h]
theorem cEx_f {l:List Ent}(hi:i<xs.length)(h:(xs.getD i dU).mu=false){es:List Ex}(he:aT l xs=es++aT l (xs.drop i)):aT l xs=(es++[fY l (xs.getD i dU).e])++aT l (xs.drop (i+1)):=by rw[he,C2 hi,aT,if_neg t207];simp
theorem cPl_t {l:List Ent}(hi:i<xs.length)(h:(xs.getD i dU).mu=true){ps:List Pl}(he:z7 l xs=ps++z7 l (xs.drop i)):z7 l xs=(ps++[rP l (xs.getD i dU).r])++z7 l (xs.drop (i+1)):=by rw[he,C2 hi,z7,if_pos h];simp
theorem cPl_f {l:List Ent}(hi:i<xs.length)(h:(xs.getD i dU).mu=false){ps:List Pl}(he:z7 l xs=ps++z7 l (xs.drop i)):z7 l xs=ps++z7 l (xs.drop (i+1)):=by rw[he,C2 hi,z7,if_neg t207]
theorem BI {l:List Ar}(h:i<l.length):List.take 7 (List.drop (i*7) (bE l))=[.bool (l.getD i dU).mu,.str (l.getD i dU).r.name,.vec (l.getD i dU).r.idx.length (n9 (l.getD i dU).r.idx),.int .i64 (l.getD i dU).e.op,.int .i64 (l.getD i dU).e.num,.str (l.getD i dU).e.name,.vec (l.getD i dU).e.args.length (n9 (l.getD i dU).e.args)]:=by rw[vI h,vY]
variable {s:Sco}
theorem SO (hl:s.l.length<1000000)(t:Int)(hv:∀x∈vars,∃v,bM s.l x=some v∧(v.kind=1∨v.kind=4)){d:Nat}{a:Ex}(g:GE vars d a)(e:Frm):CB 166 [.ptr e.k 0 0,.agg [.int .i64 a.op,.int .i64 a.num,.str a.name,.vec a.args.length (n9 a.args)],.int .i64 t] (hT e (z9 e.k s) s.code s.sites) (.agg (u3 (fY s.l a))):=by rw[←bK];exact Ph hl t hv g e
theorem JX {e:Frm}(hl:s.l.length<1000000)(t:Int){c:Ctx}(sc:SC E c vars s.l)(hE:E.c4=s.p.c4)(hc:c.nm=s.p.c4.length){r:Rf}(g:GR E vars r):CB 169 [.ptr e.k 0 0,.agg [.str r.name,.vec r.idx.length (n9 r.idx)],.int .i64 t] (hT e (z9 e.k s) s.code s.sites) (.agg [.bool (rP s.l r).param,.int .i64 (rP s.l r).index,.vec (rP s.l r).at'.length (n9 (rP s.l r).at')]):=c_refL hl t sc hE hc g
attribute [local go_sem] rd s8 o6 bD cO r6 aS fW dL n7 bA aP l7 bF Int.natCast_nonneg Int.natCast_inj List.length_map wrap64 gC jR jS AP L4 S8 AQ A7 max2 fG cS bG Nat.reduceMul nL kS z9 jB qK lT wC aJ hT_0 hT_1 hT_2 SJ SK SL eG C0 iG U2 SM BE nN M8 BH JV JW
section
attribute [local go_sem] M8 BH
theorem c_put {e:Frm}(hc:s.code.length<10000)(hs:s.sites.length<10000)(i:Ins)(t:Int):CH 134 [.ptr e.k 0 0,.agg (eO i),.int .i64 t] (hT e (z9 e.k s) s.code s.sites) (.int .i64 ((s.code.length:Nat):Int)) (hT e (z9 e.k {s with code:=s.code++[i],sites:=s.sites++[t]}) (s.code++[i]) (s.sites++[t])):=by rw[lU];refine .wz Tryz.f134 33 ?_;refine .z ?_;refine .sg u6 (mkH 22 [0,0,0,4,12,28,0,64,252,0,512,1536,3584,0,8192,32764,65533,131069,262141,524287,1048575,2097151] [7,8,14,15,18,21] [(7,0),(14,1)] [0,128,384,16384,16512,16768,49536,311680,2408832] [0,1,2,3,4,5,6,7,8,9,10,11,12]) 2 ?_;refine .p 5 ?_;refine .rm [true] ?_;refine .rm [true] ?_;refine .em [true] [128,0] [_] ?_;refine .em [true,false] [384,128,0] [_] ?_;refine .p 3 ?_;refine .rm [true,true,true] ?_;refine .p 1 ?_;refine .en [true,true,true] [16768,16512,16384,384,128,0] [_,_,_] ?_;refine .en [true,false,false,false,false,false] [49536,16768,16512,16384,384,128,0] [_] ?_;refine .p 2 ?_;refine .en [true,false,false,false,false,false,false] [311680,49536,16768,16512,16384,384,128,0] [_] ?_;refine .p 2 ?_;refine .en [true,false,false,false,false,false,false,false] [2408832,311680,49536,16768,16512,16384,384,128,0] [_] ?_;refine .po [false,false,false,true,true,true,true,true,true] ?_;refine .po [false,false,false,false,true,false,false,true,false] ?_;refine .po [false,false,false,false,false,true,false,false,true] ?_;refine .po [false,false,false,false,false,true,false,false,true] ?_;refine .po [false,false,false,false,true,true,false,true,true] ?_;refine w8.nil rfl ?_;refine .c6 [0] ?_;refine c27z ?_;exact ⟨hT _ _ _ _,_,_,rfl,by (simp only[aJ];exact Nat.le_refl _),(C1 (gZ.get ⟨.vec _ _,.vec _ _,.vec _ _,.vec _ _,.int _ _,.int _ _,.int _ _,.int _ _,.own _ _ _ _ e.lt.2.1,.own _ _ _ _ e.lt.2.2,trivial⟩)),t2,by exact ⟨congrArg (AV.int .i64) (by omega),by simp only[z9,List.length_append,List.length_cons,List.length_nil]⟩⟩
end
section
attribute [local go_sem] nN BI JV JW
theorem c_call3 {e:Frm}(hl:s.l.length<1000000)(t:Int){c:Ctx}(sc:SC E c vars s.l)(hE:E.c4=s.p.c4)(hc:c.nm=s.p.c4.length){x y:BA}{n:Int}(hf:bM s.l x=some ⟨y,3,n⟩)(hn:0≤n∧n<s.p.funcs.length){ps:List Pm}(hp:(s.p.funcs.getD n.toNat j4).params=ps)(hp2:ps.length≤2)(ha:GAs E vars ps xs):CB 168 [.ptr e.k 0 0,.agg [.int .i64 3,.str x,.int .i64 0,.int .i64 0,.str ByteArray.empty,.vec 0 [],.str ByteArray.empty,.vec 0 [],.vec xs.length (bE xs),.vec 0 [],.vec 0 []],.int .i64 t] (hT e (z9 e.k s) s.code s.sites) (.agg (eO ⟨2,n,false,l6,bU,aT s.l xs,z7 s.l xs⟩)):=by
  refine .bz Tryz.f168 112 ?_;refine .z ?_;refine c89z ?_;refine c19z ?_;refine c26z ?_;refine c118z ?_;refine c245z ?_;refine .sb ?_;refine .c6 [0,2,4,6,7,8,9] ?_;refine c70z ?_;refine c4z ?_;refine c168z ?_;refine .ss u6 (mkP 11 [0,1,3,7,15,0,32,127,255,511,1023] []) ?_;refine c38z ?_;refine .seq ?_;refine .c6 [0,2,4,6,7,10,54] ?_;have hml:=GAs.mu ha;have hml1:=hml.1;rw[hp];refine .z ?_;refine .spl 61 rfl rfl (fun e1=>by exfalso;have hml1:=(GAs.mu ha).1;have q:=fact e1;omega) (fun e1=>?_);try simp only[e1]
  have qe1:=fact e1;refine c19z ?_;refine c7z ?_;refine c9.oC (β:=e.n+2) (k:=10) t100 rfl ?_;simp only[List.append_assoc,List.cons_append,List.nil_append,eG,iG,List.set_cons_succ,List.set_cons_zero,List.length_append,aJ,List.length_cons,List.length_nil,Nat.reduceAdd,Nat.zero_add];refine c9.oC (β:=e.n+2) (k:=11) t100 rfl ?_;simp only[List.append_assoc,List.cons_append,List.nil_append,eG,iG,List.set_cons_succ,List.set_cons_zero,List.length_append,aJ,List.length_cons,List.length_nil,Nat.reduceAdd,Nat.zero_add];refine .aB (fun m st=>∃(q:Nat) (es:List Ex) (ps':List Pl) (gi:Nat) (gp:Nat),(m=ps.length-q∧(q≤ps.length∧aT s.l xs=es++aT s.l (xs.drop q)∧z7 s.l xs=ps'++z7 s.l (xs.drop q)∧es.length≤q∧ps'.length≤q))∧st=⟨mkS 112 [(0,AV.ptr e.k 0 0),(2,AV.int .i64 t),(4,AV.ptr e.n 0 0),(6,AV.ptr (e.n+1) 0 0),(7,AV.ptr (e.n+2) 0 0),(10,AV.vec ps.length (v9 ps)),(11,AV.int .i64 ((q:Nat):Int))],(hT e (z9 e.k s) s.code s.sites)++[⟨0,false,190,11,[.int .i64 3,.str x,.int .i64 0,.int .i64 0,.str ByteArray.empty,.vec 0 [],.str ByteArray.empty,.vec 0 [],.vec xs.length (bE xs),.vec 0 [],.vec 0 []],0⟩,⟨0,false,54,12,[.int .i64 0,.int .i64 0,.bool false,.int .i64 0,.int .i64 0,.str ByteArray.empty,.g9,.bool false,.int .i64 0,.g9,.g9,.g9],0⟩,⟨0,false,54,12,[.int .i64 2,.int .i64 n,.bool false,.int .i64 0,.int .i64 0,.str ByteArray.empty,.g9,.bool false,.int .i64 0,.g9,.own (e.n+4) gi 0 es.length,.own (e.n+5) gp 0 ps'.length],0⟩,⟨0,false,145,3,[.str y,.int .i64 3,.int .i64 n],0⟩,o8 49 4 gi (n9 es),o8 51 3 gp (dV ps')]⟩) (.v ⟨0,([]:List Ex),([]:List Pl),0,0,⟨rfl,⟨by omega,by simp,by simp,by simp,by simp⟩⟩,rfl⟩ (hr:=t18)) ?_;rintro m sl h' ⟨q,es,ps',gi,gp,⟨hm,⟨hq,hes,hps,hel,hpl⟩⟩,hst⟩;obtain ⟨rfl,rfl⟩:=St.mk.inj hst;clear hst;refine c1z ?_;refine u2z ?_ ?_
  ·intro e2 qe2;refine c3z ?_;have har:=ar_is ha (i:=q) (by omega);refine c22z ?_;refine .c6 [0,2,4,6,7,10,11,12] ?_;refine .ss u6 (mkP 8 [0,1,0,0,12,28,60,127] []) ?_;refine .n [] ?_;refine .spl 84 rfl rfl (fun e3=>by exfalso;have hml2:=(GAs.mu ha).2 q (by omega);simp_all) (fun e3=>?_);try simp only[e3]
   have qe3:=fact e3;refine c19z ?_;refine .c6 [0,2,4,6,7,10,11,12] ?_;refine .z ?_;refine u2z ?_ ?_
   ·intro e4 qe4;have hmu:(xs.getD q dU).mu=true:=by assumption
    refine c51z ?_;refine c196z ?_;refine .p 1 ?_;refine .cn [true] [64,0] [_] rfl rfl t161 ?_;refine c91z ?_;refine c109z ?_;refine c54z ?_;refine c188z ?_;refine .rz ?_;exact ⟨_,by omega,.v ⟨(q+1),es,(ps'++[rP s.l (xs.getD q dU).r]),gi,(gp+1),⟨rfl,⟨by omega,cEx_t (by omega) hmu hes,cPl_t (by omega) hmu hps,by omega,t64⟩⟩,rfl⟩ (he:=t39) (hl:=t108) (hk:=t33) (hr:=t18)⟩
   intro e4 qe4;have hmu:(xs.getD q dU).mu=false:=by assumption
   refine c51z ?_;refine c196z ?_;refine .p 1 ?_;refine .cn [true] [64,0] [_] rfl rfl t162 ?_;refine c91z ?_;refine c109z ?_;refine c54z ?_;refine c188z ?_;refine .rz ?_;exact ⟨_,by omega,.v ⟨(q+1),(es++[fY s.l (xs.getD q dU).e]),ps',(gi+1),gp,⟨rfl,⟨by omega,cEx_f (by omega) hmu hes,cPl_f (by omega) hmu hps,t64,by omega⟩⟩,rfl⟩ (he:=t39) (hl:=t108) (hk:=t33) (hr:=t18)⟩
  intro e2 qe2;refine .exit ?_;obtain rfl:q=ps.length:=by omega
  rw[List.drop_of_length_le (by omega)]at hes hps;simp only[aT,z7,List.append_nil]at hes hps;refine c9.qA (γ:=e.n+4) (β:=e.n+2) (k:=10) (len:=es.length) t100 (by rw[bD,Nat.mul_comm]) (by omega) (Cr _) t100 (by omega) rfl ?_;simp only[List.append_assoc,List.cons_append,List.nil_append,eG,iG,List.set_cons_succ,List.set_cons_zero,List.length_append,aJ,List.length_cons,List.length_nil,Nat.reduceAdd,Nat.zero_add];refine c9.qA (γ:=e.n+5) (β:=e.n+2) (k:=11) (len:=ps'.length) t100 t216 (by omega) (JT _) t100 (by omega) rfl ?_;simp only[List.append_assoc,List.cons_append,List.nil_append,eG,iG,List.set_cons_succ,List.set_cons_zero,List.length_append,aJ,List.length_cons,List.length_nil,Nat.reduceAdd,Nat.zero_add];generalize gN 49 4 gi (n9 es) (es.length*4)=Eb;generalize gN 51 3 gp (dV ps') (ps'.length*3)=Pb;change c9 ..;refine c233z ?_;exact .ret (.ex (hf:=t2) (hq:=t217))
end
section
attribute [local go_sem] nN BI JV JW
theorem c_call4 {e:Frm}(hl:s.l.length<1000000)(t:Int){c:Ctx}(sc:SC E c vars s.l)(hE:E.c4=s.p.c4)(hc:c.nm=s.p.c4.length){x y:BA}{n:Int}(hf:bM s.l x=some ⟨y,3,n⟩)(hn:0≤n∧n<s.p.funcs.length){ps:List Pm}(hp:(s.p.funcs.getD n.toNat j4).params=ps)(hp2:ps.length≤2)(ha:GAs E vars ps xs):CB 168 [.ptr e.k 0 0,.agg [.int .i64 4,.str x,.int .i64 0,.int .i64 0,.str ByteArray.empty,.vec 0 [],.str ByteArray.empty,.vec 0 [],.vec xs.length (bE xs),.vec 0 [],.vec 0 []],.int .i64 t] (hT e (z9 e.k s) s.code s.sites) (.agg (eO ⟨3,n,false,l6,bU,aT s.l xs,z7 s.l xs⟩)):=by
  refine .bz Tryz.f168 112 ?_;refine .z ?_;refine c89z ?_;refine .T ?_;refine c2z ?_;refine c26z ?_;refine c118z ?_;refine c245z ?_;refine .sb ?_;refine .c6 [0,2,4,6,7,8,9] ?_;refine c70z ?_;refine c4z ?_;refine c168z ?_;refine .ss u6 (mkP 11 [0,1,3,7,15,0,32,127,255,511,1023] []) ?_;refine c38z ?_;refine .seq ?_;refine .c6 [0,2,4,6,7,10,54] ?_;have hml:=GAs.mu ha;have hml1:=hml.1;rw[hp];refine .z ?_;refine .spl 61 rfl rfl (fun e1=>by exfalso;have hml1:=(GAs.mu ha).1;have q:=fact e1;omega) (fun e1=>?_);try simp only[e1]
  have qe1:=fact e1;refine c19z ?_;refine c7z ?_;refine c9.oC (β:=e.n+2) (k:=10) t100 rfl ?_;simp only[List.append_assoc,List.cons_append,List.nil_append,eG,iG,List.set_cons_succ,List.set_cons_zero,List.length_append,aJ,List.length_cons,List.length_nil,Nat.reduceAdd,Nat.zero_add];refine c9.oC (β:=e.n+2) (k:=11) t100 rfl ?_;simp only[List.append_assoc,List.cons_append,List.nil_append,eG,iG,List.set_cons_succ,List.set_cons_zero,List.length_append,aJ,List.length_cons,List.length_nil,Nat.reduceAdd,Nat.zero_add];refine .aB (fun m st=>∃(q:Nat) (es:List Ex) (ps':List Pl) (gi:Nat) (gp:Nat),(m=ps.length-q∧(q≤ps.length∧aT s.l xs=es++aT s.l (xs.drop q)∧z7 s.l xs=ps'++z7 s.l (xs.drop q)∧es.length≤q∧ps'.length≤q))∧st=⟨mkS 112 [(0,AV.ptr e.k 0 0),(2,AV.int .i64 t),(4,AV.ptr e.n 0 0),(6,AV.ptr (e.n+1) 0 0),(7,AV.ptr (e.n+2) 0 0),(10,AV.vec ps.length (v9 ps)),(11,AV.int .i64 ((q:Nat):Int))],(hT e (z9 e.k s) s.code s.sites)++[⟨0,false,190,11,[.int .i64 4,.str x,.int .i64 0,.int .i64 0,.str ByteArray.empty,.vec 0 [],.str ByteArray.empty,.vec 0 [],.vec xs.length (bE xs),.vec 0 [],.vec 0 []],0⟩,⟨0,false,54,12,[.int .i64 0,.int .i64 0,.bool false,.int .i64 0,.int .i64 0,.str ByteArray.empty,.g9,.bool false,.int .i64 0,.g9,.g9,.g9],0⟩,⟨0,false,54,12,[.int .i64 3,.int .i64 n,.bool false,.int .i64 0,.int .i64 0,.str ByteArray.empty,.g9,.bool false,.int .i64 0,.g9,.own (e.n+4) gi 0 es.length,.own (e.n+5) gp 0 ps'.length],0⟩,⟨0,false,145,3,[.str y,.int .i64 3,.int .i64 n],0⟩,o8 49 4 gi (n9 es),o8 51 3 gp (dV ps')]⟩) (.v ⟨0,([]:List Ex),([]:List Pl),0,0,⟨rfl,⟨by omega,by simp,by simp,by simp,by simp⟩⟩,rfl⟩ (hr:=t18)) ?_;rintro m sl h' ⟨q,es,ps',gi,gp,⟨hm,⟨hq,hes,hps,hel,hpl⟩⟩,hst⟩;obtain ⟨rfl,rfl⟩:=St.mk.inj hst;clear hst;refine c1z ?_;refine u2z ?_ ?_
  ·intro e2 qe2;refine c3z ?_;have har:=ar_is ha (i:=q) (by omega);refine c22z ?_;refine .c6 [0,2,4,6,7,10,11,12] ?_;refine .ss u6 (mkP 8 [0,1,0,0,12,28,60,127] []) ?_;refine .n [] ?_;refine .spl 84 rfl rfl (fun e3=>by exfalso;have hml2:=(GAs.mu ha).2 q (by omega);simp_all) (fun e3=>?_);try simp only[e3]
   have qe3:=fact e3;refine c19z ?_;refine .c6 [0,2,4,6,7,10,11,12] ?_;refine .z ?_;refine u2z ?_ ?_
   ·intro e4 qe4;have hmu:(xs.getD q dU).mu=true:=by assumption
    refine c51z ?_;refine c196z ?_;refine .p 1 ?_;refine .cn [true] [64,0] [_] rfl rfl t161 ?_;refine c91z ?_;refine c109z ?_;refine c54z ?_;refine c188z ?_;refine .rz ?_;exact ⟨_,by omega,.v ⟨(q+1),es,(ps'++[rP s.l (xs.getD q dU).r]),gi,(gp+1),⟨rfl,⟨by omega,cEx_t (by omega) hmu hes,cPl_t (by omega) hmu hps,by omega,t64⟩⟩,rfl⟩ (he:=t39) (hl:=t108) (hk:=t33) (hr:=t18)⟩
   intro e4 qe4;have hmu:(xs.getD q dU).mu=false:=by assumption
   refine c51z ?_;refine c196z ?_;refine .p 1 ?_;refine .cn [true] [64,0] [_] rfl rfl t162 ?_;refine c91z ?_;refine c109z ?_;refine c54z ?_;refine c188z ?_;refine .rz ?_;exact ⟨_,by omega,.v ⟨(q+1),(es++[fY s.l (xs.getD q dU).e]),ps',(gi+1),gp,⟨rfl,⟨by omega,cEx_f (by omega) hmu hes,cPl_f (by omega) hmu hps,t64,by omega⟩⟩,rfl⟩ (he:=t39) (hl:=t108) (hk:=t33) (hr:=t18)⟩
  intro e2 qe2;refine .exit ?_;obtain rfl:q=ps.length:=by omega
  rw[List.drop_of_length_le (by omega)]at hes hps;simp only[aT,z7,List.append_nil]at hes hps;refine c9.qA (γ:=e.n+4) (β:=e.n+2) (k:=10) (len:=es.length) t100 (by rw[bD,Nat.mul_comm]) (by omega) (Cr _) t100 (by omega) rfl ?_;simp only[List.append_assoc,List.cons_append,List.nil_append,eG,iG,List.set_cons_succ,List.set_cons_zero,List.length_append,aJ,List.length_cons,List.length_nil,Nat.reduceAdd,Nat.zero_add];refine c9.qA (γ:=e.n+5) (β:=e.n+2) (k:=11) (len:=ps'.length) t100 t216 (by omega) (JT _) t100 (by omega) rfl ?_;simp only[List.append_assoc,List.cons_append,List.nil_append,eG,iG,List.set_cons_succ,List.set_cons_zero,List.length_append,aJ,List.length_cons,List.length_nil,Nat.reduceAdd,Nat.zero_add];generalize gN 49 4 gi (n9 es) (es.length*4)=Eb;generalize gN 51 3 gp (dV ps') (ps'.length*3)=Pb;change c9 ..;refine c233z ?_;exact .ret (.ex (hf:=t2) (hq:=t217))
end
end Go.Proofs.YtonbocmibeikmaaGreat
end
section
namespace Go.Proofs.YtonbocmibeikmaaGreat
open Go.Ab Go.Un
def cG:Sl→Int→List Int
  | .nil,_=>[]
  | .cons k n e r xs th el rest,t=>
    if k=7 then t::(cG th (t+1)++((if 0<el.len then t::cG el (t+1+(th.wt:Int)) else [])++cG rest (t+1+(th.wt:Int)+(el.wt:Int))))
    else if k=8 then t::(cG th (t+1)++(t::cG rest (t+1+(th.wt:Int))))
    else t::cG rest (t+1)
theorem iX:∀(S:Sl) (t:Int),(cG S t).length≤2*S.wt
  | .nil,t=>by simp[cG]
  | .cons k n e r xs th el rest,t=>by
    have h1:=iX th (t+1);have h2:=iX el (t+1+(th.wt:Int));have h3:=iX rest (t+1+(th.wt:Int)+(el.wt:Int));have h4:=iX rest (t+1+(th.wt:Int));have h5:=iX rest (t+1);unfold cG;simp only[Sl.wt];split
    · split<;>simp only[List.length_cons,List.length_append,List.length_nil]<;>omega
    · split<;>simp only[List.length_cons,List.length_append]<;>omega
def tB (c:List Ins)(i:Nat)(v:Int):List Ins:=c.set i { c.getD i g6 with target:=v }
theorem lV {c:List Ins}{i:Nat}{v:Int}:(tB c i v).length=c.length:=by simp[tB]
theorem C3 {c d:List Ins}{x:Ins}{i:Nat}{v:Int}(hi:i=c.length):tB (c++(x::d)) i v=c++({ x with target:=v }::d):=by subst hi;simp[tB,List.getD]
def bI (s:Sco):Sco:={ s with st:=s.st+1 }
def o7 (s:Sco)(i:Ins)(t:Int):Sco:={ s with code:=s.code++[i],sites:=s.sites++[t] }
def cI (s:Sco)(i:Nat)(v:Int):Sco:={ s with code:=tB s.code i v }
def rT (s:Sco)(n:BA):Sco:={ s with l:=s.l++[⟨n,4,s.loc⟩],loc:=s.loc+1 }
def cQ (l0:List Ent)(s:Sco)(S:Sl):Sco:={ s with l:=l0,loc:=fZ S s.loc,st:=s.st+(S.wt:Int),code:=s.code++o9 S s.l s.loc s.code.length,sites:=s.sites++cG S s.st }
variable {k:Nat}{s:Sco}
theorem uE {i:Nat}{v:Int}:z9 k (cI s i v)=z9 k s:=by simp only[z9,cI,lV]
variable {t:Int}
theorem SP {i:Ins}{n:BA}:z9 k (rT (o7 (bI s) i t) n)=⟨0,false,198,10,[.vec s.p.globals.length (q9 s.p.globals),.vec s.p.c4.length (g0 s.p.c4),.vec s.p.funcs.length (o5 s.p.funcs),.vec (s.l.length+1) (j5 (s.l++[⟨n,4,s.loc⟩])),.int .i64 (s.loc+1),.int .i64 (s.st+1),.int .i64 0,.int .i64 0,.own (k+1) (s.code.length+1) 0 (s.code.length+1),.own (k+2) (s.sites.length+1) 0 (s.sites.length+1)],0⟩:=by simp only[z9,rT,o7,bI,List.length_append,List.length_cons,List.length_nil,Nat.zero_add]
theorem C4:(z9 k s).gen=0:=rfl
theorem wD:(z9 k s).bX=false:=rfl
theorem wE:(z9 k s).elem=198:=rfl
theorem C5:(z9 k s).esz=10:=rfl
theorem C6:(z9 k s).frz=0:=rfl
theorem rU:(z9 k s).cells=[.vec s.p.globals.length (q9 s.p.globals),.vec s.p.c4.length (g0 s.p.c4),.vec s.p.funcs.length (o5 s.p.funcs),.vec s.l.length (j5 s.l),.int .i64 s.loc,.int .i64 s.st,.int .i64 0,.int .i64 0,.own (k+1) s.code.length 0 s.code.length,.own (k+2) s.sites.length 0 s.sites.length]:=rfl
theorem JY:(bI s).l=s.l:=rfl
theorem BJ:(bI s).loc=s.loc:=rfl
theorem stSt_p:(bI s).p=s.p:=rfl
theorem gR:(bI s).code.length=s.code.length:=rfl
theorem eT:(bI s).sites.length=s.sites.length:=rfl
theorem U6 {i:Ins}:(o7 s i t).l=s.l:=rfl
theorem wF {i:Ins}:(o7 s i t).loc=s.loc:=rfl
theorem BK {i:Ins}:(o7 s i t).st=s.st:=rfl
theorem stPut_p {i:Ins}:(o7 s i t).p=s.p:=rfl
theorem cA {i:Ins}:(o7 s i t).code.length=s.code.length+1:=by simp[o7]
theorem bO {i:Ins}:(o7 s i t).sites.length=s.sites.length+1:=by simp[o7]
theorem stTgt_l {i:Nat}:(cI s i t).l=s.l:=rfl
theorem kT {i:Nat}:(cI s i t).code.length=s.code.length:=lV
theorem oX {i:Nat}:(cI s i t).sites.length=s.sites.length:=rfl
variable {l0:List Ent}{S:Sl}
theorem finS_l:(cQ l0 s S).l=l0:=rfl
theorem finS_p:(cQ l0 s S).p=s.p:=rfl
theorem jD:s.code.length≤(cQ l0 s S).code.length∧(cQ l0 s S).code.length≤s.code.length+2*S.wt:=by have:=fE S s.l s.loc s.code.length;simp only[cQ,List.length_append];omega
theorem iY:s.sites.length≤(cQ l0 s S).sites.length∧(cQ l0 s S).sites.length≤s.sites.length+2*S.wt:=by have:=iX S s.st;simp only[cQ,List.length_append];omega
theorem sP:∀(S:Sl) (n:Int),n≤fZ S n∧fZ S n≤n+(S.wt:Int)
  | .nil,n=>by simp[fZ,Sl.wt]
  | .cons k nm e r xs th el rest,n=>by
    have r1:=sP rest (n+1);have r2:=sP rest (fZ el (fZ th n));have r3:=sP rest (fZ th n);have r4:=sP rest n;have t1:=sP th n;have e1:=sP el (fZ th n);simp only[fZ,Sl.wt];split
    · omega
    · split
      · omega
      · split<;>omega
structure Bnd (s:Sco)(W:Nat):Prop where
  lp:0<s.l.length
  lb:s.l.length+W≤900
  cb:s.code.length+2*W≤5000
  sb:s.sites.length+2*W≤5000
  o0:0≤s.loc
  ob:s.loc+(W:Int)≤5000
  t0:0≤s.st
  tb:s.st+(W:Int)≤5000
structure Bd (E:Env)(c:Ctx)(p:Go.Un.Pg):Prop where
  hE:E.c4=p.c4
  hc:c.nm=p.c4.length
  hf:E.funcs=p.funcs.map fun f=>(f.name,f.params)
  fp:∀f∈E.funcs,f.2.length≤2
theorem Sco.eq {a b:Sco}(h1:a.p=b.p)(h2:a.l=b.l)(h3:a.loc=b.loc)(h4:a.st=b.st)(h5:a.code=b.code)(h6:a.sites=b.sites):a=b:=by cases a;cases b;simp_all
variable {rest:Sl}
theorem fin_var {n:BA}{e:Ex}:cQ l0 (rT (o7 (bI s) ⟨1,s.loc,false,fY s.l e,bU,[],[]⟩ s.st) n) rest=cQ l0 s (.cons 1 n e n5 [] .nil .nil rest):=by
  refine Sco.eq rfl rfl ?_ ?_ ?_ ?_
  · simp only[cQ,rT,o7,bI,fZ,if_true]
  · simp only[cQ,rT,o7,bI,Sl.wt];omega
  · simp only[cQ,rT,o7,bI,o9,if_true,List.append_assoc,List.cons_append,List.nil_append,List.length_append,List.length_cons,List.length_nil,Nat.zero_add]
  · simp only[cQ,rT,o7,bI,cG,show ¬(1:Int)=7 from by decide,show ¬(1:Int)=8 from by decide,if_false,List.append_assoc,List.cons_append,List.nil_append]
variable {r:Rf}{xs:List Ar}
theorem rV {i:Ins}{k:Int}{n:BA}{e:Ex}(h:o9 (.cons k n e r xs .nil .nil rest) s.l s.loc s.code.length=i::o9 rest s.l s.loc (s.code.length+1))(hk:k≠1∧k≠7∧k≠8):cQ l0 (o7 (bI s) i s.st) rest=cQ l0 s (.cons k n e r xs .nil .nil rest):=by
  refine Sco.eq rfl rfl ?_ ?_ ?_ ?_
  · simp only[cQ,o7,bI,fZ,hk.1,hk.2.1,hk.2.2,if_false]
  · simp only[cQ,o7,bI,Sl.wt];omega
  · simp only[cQ,h,o7,bI,List.append_assoc,List.cons_append,List.nil_append,List.length_append,List.length_cons,List.length_nil,Nat.zero_add]
  · simp only[cQ,o7,bI,cG,hk.2.1,hk.2.2,if_false,List.append_assoc,List.cons_append,List.nil_append]
theorem len_nil {s:Sl}:¬0<s.len↔s=.nil:=⟨fun h=>Sl.zX (by omega),fun h=>by subst h;simp[Go.Un.Sl.len]⟩
def dW (s:Sco)(e:Ex)(th:Sl):Sco:=cQ s.l (o7 (bI s) ⟨6,0,false,fY s.l e,bU,[],[]⟩ s.st) th
def stJ (s:Sco)(e:Ex)(th:Sl):Sco:=o7 (dW s e th) ⟨7,0,false,l6,bU,[],[]⟩ s.st
def dX (s:Sco)(e:Ex)(th el:Sl):Sco:=cQ s.l (cI (stJ s e th) s.code.length ((stJ s e th).code.length:Int)) el
def F7 (s:Sco)(e:Ex)(th:Sl):Sco:=o7 (dW s e th) ⟨7,((s.code.length:Nat):Int),false,l6,bU,[],[]⟩ s.st
variable {th:Sl}
theorem qM {e:Ex}:(dW s e th).code=s.code++((⟨6,0,false,fY s.l e,bU,[],[]⟩:Ins)::o9 th s.l s.loc (s.code.length+1)):=by simp only[dW,cQ,o7,bI,List.append_assoc,List.cons_append,List.nil_append,List.length_append,List.length_cons,List.length_nil,Nat.zero_add]
theorem qN {e:Ex}:(dW s e th).code.length=s.code.length+1+(o9 th s.l s.loc (s.code.length+1)).length:=by rw[qM];simp;omega
theorem SQ {e:Ex}{v:Int}:(cI (stJ s e th) s.code.length v).code=s.code++((⟨6,v,false,fY s.l e,bU,[],[]⟩:Ins)::(o9 th s.l s.loc (s.code.length+1)++[⟨7,0,false,l6,bU,[],[]⟩])):=by simp only[cI,stJ,o7,qM,List.append_assoc,List.cons_append];exact C3 rfl
variable {el:Sl}
theorem wG {e:Ex}:(dX s e th el).code=s.code++((⟨6,((stJ s e th).code.length:Int),false,fY s.l e,bU,[],[]⟩:Ins)::(o9 th s.l s.loc (s.code.length+1)++(⟨7,0,false,l6,bU,[],[]⟩::o9 el s.l (fZ th s.loc) ((dW s e th).code.length+1)))):=by
  have h1:(cI (stJ s e th) s.code.length ((stJ s e th).code.length:Int)).code.length=(dW s e th).code.length+1:=by simp only[cI,lV,stJ,o7,List.length_append,List.length_cons,List.length_nil,Nat.zero_add]
  show (cI (stJ s e th) s.code.length ((stJ s e th).code.length:Int)).code++o9 el s.l (fZ th s.loc) _=_;rw[h1,SQ];simp only[List.append_assoc,List.cons_append,List.nil_append]
theorem stJ_len {e:Ex}:(stJ s e th).code.length=(dW s e th).code.length+1:=by simp[stJ,o7]
theorem EU {e:Ex}:(dX s e th el).code.length=(dW s e th).code.length+1+(o9 el s.l (fZ th s.loc) ((dW s e th).code.length+1)).length:=by rw[wG,qN];simp;omega
theorem fin_if {n:BA}{e:Ex}:cQ l0 (cI (dW s e th) s.code.length ((dW s e th).code.length:Int)) rest=cQ l0 s (.cons 7 n e r xs th .nil rest):=by
  have hne:¬(7:Int)=1∧¬(7:Int)=2∧¬((7:Int)=3∨(7:Int)=4)∧¬(7:Int)=5∧¬(7:Int)=6:=by decide
  have h0:¬0<Sl.nil.len:=by simp[Go.Un.Sl.len]
  refine Sco.eq rfl rfl ?_ ?_ ?_ ?_
  · simp only[cQ,cI,dW,o7,bI,fZ,hne.1,if_false,if_true]
  · simp only[cQ,cI,dW,o7,bI,Sl.wt];omega
  · show tB (dW s e th).code s.code.length _++o9 rest s.l (fZ th s.loc) (tB (dW s e th).code s.code.length _).length=s.code++o9 _ s.l s.loc s.code.length
    rw[lV,qN,qM,C3 rfl];simp only[o9,fZ,hne.1,hne.2.1,hne.2.2.1,hne.2.2.2.1,hne.2.2.2.2,h0,if_false,if_true,List.append_assoc,List.cons_append]
  · show s.sites++[s.st]++cG th (s.st+1)++cG rest (s.st+1+(th.wt:Int))=s.sites++cG _ s.st
    simp only[cG,Sl.wt,h0,if_true,if_false,List.append_assoc,List.cons_append,List.nil_append,Int.natCast_zero,Int.add_zero]
theorem SR {n:BA}{e:Ex}(hel:0<el.len):cQ l0 (cI (dX s e th el) (dW s e th).code.length ((dX s e th el).code.length:Int)) rest=cQ l0 s (.cons 7 n e r xs th el rest):=by
  have hne:¬(7:Int)=1∧¬(7:Int)=2∧¬((7:Int)=3∨(7:Int)=4)∧¬(7:Int)=5∧¬(7:Int)=6:=by decide
  refine Sco.eq rfl rfl ?_ ?_ ?_ ?_
  · simp only[cQ,cI,dX,stJ,dW,o7,bI,fZ,hne.1,if_false,if_true]
  · simp only[cQ,cI,dX,stJ,dW,o7,bI,Sl.wt];omega
  · show tB (dX s e th el).code (dW s e th).code.length _++o9 rest s.l (fZ el (fZ th s.loc)) (tB (dX s e th el).code (dW s e th).code.length _).length=s.code++o9 _ s.l s.loc s.code.length
    rw[lV,EU,wG];rw[show s.code++((⟨6,((stJ s e th).code.length:Int),false,fY s.l e,bU,[],[]⟩:Ins)::(o9 th s.l s.loc (s.code.length+1)++(⟨7,0,false,l6,bU,[],[]⟩::o9 el s.l (fZ th s.loc) ((dW s e th).code.length+1))))=(s.code++((⟨6,((stJ s e th).code.length:Int),false,fY s.l e,bU,[],[]⟩:Ins)::o9 th s.l s.loc (s.code.length+1)))++(⟨7,0,false,l6,bU,[],[]⟩::o9 el s.l (fZ th s.loc) ((dW s e th).code.length+1)) from by simp only[List.append_assoc,List.cons_append]];rw[C3 (by rw[qN];simp;omega),stJ_len,qN];simp only[o9,hne.1,hne.2.1,hne.2.2.1,hne.2.2.2.1,hne.2.2.2.2,hel,if_false,if_true,List.append_assoc,List.cons_append]
  · show s.sites++[s.st]++cG th (s.st+1)++[s.st]++cG el (s.st+1+(th.wt:Int))++cG rest (s.st+1+(th.wt:Int)+(el.wt:Int))=s.sites++cG _ s.st
    simp only[cG,hel,if_true,List.append_assoc,List.cons_append,List.nil_append]
theorem fin_wh {n:BA}{e:Ex}:cQ l0 (cI (F7 s e th) s.code.length ((F7 s e th).code.length:Int)) rest=cQ l0 s (.cons 8 n e r xs th .nil rest):=by
  have hne:¬(8:Int)=1∧¬(8:Int)=2∧¬((8:Int)=3∨(8:Int)=4)∧¬(8:Int)=5∧¬(8:Int)=6∧¬(8:Int)=7:=by decide
  rw[show (F7 s e th).code.length=(dW s e th).code.length+1 from by simp[F7,o7]];refine Sco.eq rfl rfl ?_ ?_ ?_ ?_
  · simp only[cQ,cI,F7,dW,o7,bI,fZ,hne.1,hne.2.2.2.2.2,if_false,if_true]
  · simp only[cQ,cI,F7,dW,o7,bI,Sl.wt];omega
  · show tB ((dW s e th).code++[⟨7,((s.code.length:Nat):Int),false,l6,bU,[],[]⟩]) s.code.length _++o9 rest s.l (fZ th s.loc) (tB ((dW s e th).code++[⟨7,((s.code.length:Nat):Int),false,l6,bU,[],[]⟩]) s.code.length _).length=s.code++o9 _ s.l s.loc s.code.length
    rw[lV,List.length_append,qN,qM,List.append_assoc,List.cons_append,C3 rfl];simp only[o9,hne.1,hne.2.1,hne.2.2.1,hne.2.2.2.1,hne.2.2.2.2.1,hne.2.2.2.2.2,if_false,if_true,List.append_assoc,List.cons_append,List.nil_append,List.length_cons,List.length_nil,Nat.zero_add]
  · show s.sites++[s.st]++cG th (s.st+1)++[s.st]++cG rest (s.st+1+(th.wt:Int))=s.sites++cG _ s.st
    simp only[cG,hne.2.2.2.2.2,if_true,if_false,List.append_assoc,List.cons_append,List.nil_append]
theorem agg_nil {h:c7}{φ:Map}{w:World}{xs xs':List AV}(hn:pG xs' xs){v:Value}(r:Rel h φ w v (.agg xs)):Rel h φ w v (.agg xs'):=by
  cases r with
  | pure hp=>cases hp
  | agg a _ ha h1 hr=>
    obtain ⟨k1,k2⟩:=hn.get;refine .agg a xs' (by rw[ha,k1]) h1 fun j v y e1 e2=>?_;have hj:j<xs.length:=by rw[←k1];exact (List.getElem?_eq_some_iff.1 e2).1
    have hx:xs[j]?=some xs[j]:=List.getElem?_eq_getElem hj;rcases k2 j y _ e2 hx with rfl | ⟨e3,rfl⟩
    · exact hr j v _ e1 hx
    · exact R7 (e3▸hr j v _ e1 hx)
def Qd:List AV→List AV→Prop
  | [],[]=>True
  | x::xs,y::ys=>(x=y∨∃a b,x=.agg a∧y=.agg b∧pG a b)∧Qd xs ys
  | _,_=>False
theorem Qd.get:∀{xs ys:List AV},Qd xs ys→xs.length=ys.length∧∀(t:Nat) (x y:AV),xs[t]?=some x→ys[t]?=some y→x=y∨∃a b,x=.agg a∧y=.agg b∧pG a b
  | [],[],_=>⟨rfl,fun t x y h=>by simp at h⟩
  | x::xs,y::ys,h=>by
    obtain ⟨h1,h2⟩:=h;obtain ⟨k1,k2⟩:=Qd.get h2;refine ⟨by simp[k1],fun t u v hu hv=>?_⟩
    match t with
    | 0=>simp at hu hv;subst hu;subst hv;exact h1
    | t+1=>exact k2 t u v t144 t149
  | [],_::_,h=>h.elim
  | _::_,[],h=>h.elim
theorem aggArg {f:FuncId}{h:c7}{args args':List AV}{Q:AV→c7→Prop}(ha:Qd args' args)(r:CallA Tryz.prog cfg f args' h Q):CallA Tryz.prog cfg f args h Q:=by
  intro B φ w cargs i hs hr;obtain ⟨k1,k2⟩:=ha.get;refine r B φ w cargs i (by rw[k1];exact hs) fun j v y h1 h2=>?_;have hj:j<args.length:=by rw[←k1];exact (List.getElem?_eq_some_iff.1 h2).1
  have hx:args[j]?=some args[j]:=List.getElem?_eq_getElem hj;rcases k2 j y _ h2 hx with rfl | ⟨a,b,rfl,e2,hn⟩
  · exact hr j v _ h1 hx
  · exact agg_nil hn (e2▸hr j v _ h1 hx)
theorem nB {e:Frm}(hc:s.code.length<10000)(hs:s.sites.length<10000)(i:Ins)(t:Int){zs:List AV}(hz:pG (eO i) zs):CH 134 [.ptr e.k 0 0,.agg zs,.int .i64 t] (hT e (z9 e.k s) s.code s.sites) (.int .i64 ((s.code.length:Nat):Int)) (hT e (z9 e.k (o7 s i t)) (o7 s i t).code (o7 s i t).sites):=
  aggArg (args':=[.ptr e.k 0 0,.agg (eO i),.int .i64 t]) ⟨.inl rfl,.inr ⟨_,_,rfl,rfl,hz⟩,.inl rfl,trivial⟩ (c_put hc hs i t)
theorem JZ:∀{c:List Ins} {i:Nat} {v:Int},i<c.length→List.take (i*12+1) (p8 c)++AV.int .i64 v::List.drop (i*12+1+1) (p8 c)=p8 (tB c i v)
  | x::c,0,v,_=>by
    have e1:p8 (x::c)=eO x++p8 c:=by simp[p8]
    have e2:tB (x::c) 0 v={ x with target:=v }::c:=by simp[tB]
    have e3:p8 ({ x with target:=v }::c)=eO { x with target:=v }++p8 c:=by simp[p8]
    rw[e1,e2,e3];rfl
  | x::c,i+1,v,h=>by
    have ih:=JZ (c:=c) (i:=i) (v:=v) (by simpa using h);have e1:p8 (x::c)=eO x++p8 c:=by simp[p8]
    have e2:tB (x::c) (i+1) v=x::tB c i v:=by simp[tB]
    have e3:p8 (x::tB c i v)=eO x++p8 (tB c i v):=by simp[p8]
    have hl:(eO x).length=12:=aS x;rw[e1,e2,e3,←ih,show (i+1)*12+1=(eO x).length+(i*12+1) from by omega,List.take_length_add_append,show (eO x).length+(i*12+1)+1=(eO x).length+(i*12+1+1) from by omega,List.drop_length_add_append,List.append_assoc]
theorem M9 {c:List Ins}(h:0<c.length):p8 c≠[]:=by intro h0;have:=congrArg List.length h0;rw[r6]at this;simp at this;omega
section
variable {e:Frm}{b:Blk}{c:List Ins}{ss:List Int}{l:c7}{v:Int}{i n:Nat}
theorem hT_1na (h:0<c.length):(hT e b c ss++l)[e.k+1]?=some ⟨c.length,false,54,12,p8 c,0⟩:=by rw[SK,dE (M9 h)]
theorem hT_pn (h:c.length=n)(h0:0<n):(hT e b c ss++l).set (e.k+1) ⟨n,false,54,12,p8 (tB c i v),0⟩=hT e b (tB c i v) ss++l:=by
  subst h;have hl:(tB c i v).length=c.length:=lV;have:o8 54 12 (tB c i v).length (p8 (tB c i v))=⟨c.length,false,54,12,p8 (tB c i v),0⟩:=by rw[dE (M9 (by omega)),hl]
  rw[←this,XE]
theorem app_cpE {b0 b1 b2:Blk}{es:List Ent}{n:Nat}(hz:es.length=n)(h0:0<n)(hn:n<1000):j7 cfg 145 (hT e b c ss++(b0::b1::b2::⟨1,false,145,3,[],0⟩::l)) (.own (e.n+3) 1 0 0) (.vec n (j5 es))=some (.own (e.n+3) 2 0 n,hT e b c ss++(b0::b1::b2::⟨2,false,145,3,j5 es,0⟩::l)):=by
  subst hz;have e1:cfg.sz 145=3:=rfl;have e2:(cfg.ti 145).bytes=32:=rfl;have hm:es.length≤maxLen:=by
    have:(1000:Nat)≤maxLen:=by decide
    omega
  have hb:es.length*32≤140737488355328:=by omega
  have h1:(j5 es).length=es.length*3:=by rw[s8];omega
  have h2:¬es.length=0:=by omega
  have h3:¬es.length*3=0:=by omega
  simp[j7,rd,lenOf,e1,e2,h1,hm,hb,eG,iG,h0,h2,h3]
theorem app_onE {b0 b1 b2:Blk}{es:List Ent}{x:BA}{k m:Int}{n:Nat}(hz:es.length=n)(hn:n<1000):j7 cfg 145 (hT e b c ss++(b0::b1::b2::⟨2,false,145,3,j5 es,0⟩::⟨1,false,145,3,[.str x,.int .i64 k,.int .i64 m],0⟩::l)) (.own (e.n+3) 2 0 n) (.own (e.n+4) 1 0 1)=some (.own (e.n+3) 3 0 (n+1),hT e b c ss++(b0::b1::b2::⟨3,false,145,3,j5 (es++[⟨x,k,m⟩]),0⟩::⟨1,false,145,3,[.str x,.int .i64 k,.int .i64 m],0⟩::l)):=by
  subst hz;have e1:cfg.sz 145=3:=rfl;have e2:(cfg.ti 145).bytes=32:=rfl;have hm:es.length+1≤maxLen:=by
    have:(1001:Nat)≤maxLen:=by decide
    omega
  have hb:(es.length+1)*32≤140737488355328:=by omega
  have h1:(j5 es).length=es.length*3:=by rw[s8];omega
  have ht:List.take (es.length*3) (j5 es)=j5 es:=List.take_of_length_le (by omega);have hnl:¬(es.length+1)*3≤es.length*3:=by omega
  have hs:j5 (es++[⟨x,k,m⟩])=j5 es++[.str x,.int .i64 k,.int .i64 m]:=by simp[j5,jB]
  simp[j7,rd,lenOf,e1,e2,h1,hm,hb,ht,hnl,eG,iG,hs]
end
theorem rW (l:List Ent):aO (j5 l):=aO.flat fun _=>aO.cons .str (aO.cons .int (aO.cons .int .nil))
theorem stIf_l {e:Ex}:(dW s e th).l=s.l:=rfl
attribute [local go_sem] rd s8 o6 bD cO r6 aS fW dL n7 bA aP l7 bF Int.natCast_nonneg Int.natCast_inj List.length_map wrap64 gC jR jS AP L4 S8 AQ A7 max2 fG cS bG Nat.reduceMul nL kS jB qK lT wC aJ hT_0 hT_2 SJ SL eG C0 iG U2 SM BE hT_1na hT_pn JZ app_cpE app_onE C4 wD wE C5 C6 rU B5 JY BJ stSt_p gR eT U6 wF BK stPut_p cA bO stTgt_l kT oX finS_l finS_p stIf_l
variable {E:Env}{vs:List BA}{pre:Sl}{W:Nat}
theorem c_blk1 {e:Frm}{c:Ctx}(sc:SC E c vs s.l)(bd:Bd E c s.p)(B:Bnd s W)(hW:1≤W)(j:Nat)(hj:j<24)(hn:vnm j∉vs)(a:Ex)(he:GE vs 2 a):c9 Tryz.prog cfg (rM [1,0,1,0,0,1,0] (kD Tryz.f133)) ⟨mkS 253 [(0,AV.ptr e.k 0 0),(1,AV.vec (Go.Un.Sl.len (pre.app (.cons 1 (vnm j) a n5 [] .nil .nil rest))) (p5 (pre.app (.cons 1 (vnm j) a n5 [] .nil .nil rest)))),(4,AV.vec l0.length (j5 l0)),(5,AV.int .i64 ((pre.len:Nat):Int))],(hT e (z9 e.k s) s.code s.sites)⟩ (Led 253 [(0,AV.ptr e.k 0 0),(1,AV.vec (Go.Un.Sl.len (pre.app (.cons 1 (vnm j) a n5 [] .nil .nil rest))) (p5 (pre.app (.cons 1 (vnm j) a n5 [] .nil .nil rest)))),(4,AV.vec l0.length (j5 l0)),(5,AV.int .i64 ((pre.len:Nat):Int))] ((hT e (z9 e.k (rT (o7 (bI s) ⟨1,s.loc,false,fY s.l a,bU,[],[]⟩ s.st) (vnm j))) ((rT (o7 (bI s) ⟨1,s.loc,false,fY s.l a,bU,[],[]⟩ s.st) (vnm j))).code ((rT (o7 (bI s) ⟨1,s.loc,false,fY s.l a,bU,[],[]⟩ s.st) (vnm j))).sites))):=by obtain ⟨q1,q2,q3,q4,q5,q6,q7,q8⟩:=B;have hlc:=@w9 pre 1 (vnm j) a n5 [] .nil .nil rest;refine c158z ?_;refine c9.w6 (hT e (z9 e.k (bI s)) s.code s.sites++[⟨0,false,190,11,[.int .i64 1,.str (vnm j),.int .i64 a.op,.int .i64 a.num,.str a.name,.vec a.args.length (n9 a.args),.str n5.name,.vec n5.idx.length (n9 n5.idx),.vec (([]:List Ar)).length (bE ([]:List Ar)),.vec (Go.Un.Sl.len Go.Un.Sl.nil) (p5 Go.Un.Sl.nil),.vec (Go.Un.Sl.len Go.Un.Sl.nil) (p5 Go.Un.Sl.nil)],0⟩]) rfl ?_;refine c14z ?_;refine .c6 [0,1,4,5,6,7,41] ?_;refine c106z ?_;refine .seq ?_;refine c26z ?_;refine c96z ?_;refine .cl rfl rfl (fun _=>JU (sc.fr j hj hn) (by omega)) ?_;refine c245z ?_;refine .c6 [0,1,4,5,6,7,9] ?_;refine c11z ?_;refine .sk ?_;refine c29z ?_;refine .ch rfl rfl (gE (SO (s:=bI s) t130 s.st sc.var he _)) ?_;refine .n ?_;refine .sg u6 (mkH 9 [0,0,2,6,14,0,62,0,255] [8] [] [0,256] []) 0 ?_;refine w8.w6 t27 ?_;refine c171z ?_;refine .rn [true] ?_;refine .p 2 ?_;refine .cn [true] [256,0] [_] rfl rfl (by simp only[lD,and_true,List.cons_append,List.nil_append];exact gE (nB t50 t46 ⟨1,s.loc,false,fY s.l a,bU,[],[]⟩ s.st t25)) ?_;refine w8.nil rfl ?_;refine .c6 [0,1,4,5,6] ?_;refine .sg u6 (mkH 19 [0,0,0,4,12,28,62,0,128,0,512,1536,3584,8064,16256,32766,65535,131071,262143] [1,6,14,15,18] [(1,0),(14,1)] [0,2,66,16384,16386,16450,49218,311362] [0,1,2,3,4,5,6]) 2 ?_;refine .p 1 ?_;refine .em [true] [2,0] [_] ?_;refine .p 3 ?_;refine .rm [true,true] ?_;refine .em [true,false] [66,2,0] [_] ?_;refine .p 1 ?_;refine .rn [true,true,true] ?_;refine .p 3 ?_;refine .rn [true,true,true] ?_;refine .p 1 ?_;refine .en [true,true,true] [16450,16386,16384,66,2,0] [_,_,_] ?_;refine .en [true,false,false,false,false,false] [49218,16450,16386,16384,66,2,0] [_] ?_;refine .p 2 ?_;refine .en [true,false,false,false,false,false,false] [311362,49218,16450,16386,16384,66,2,0] [_] ?_;refine .po [false,false,false,true,false,false,true,false] ?_;refine .po [false,false,false,true,true,false,true,true] ?_;refine .po [false,false,false,false,true,false,false,true] ?_;refine w8.nil rfl ?_;refine .c6 [0,1,4,5] ?_;refine c9.zS (γ:=e.n+3) (β:=e.k) (k:=3) (off:=0) (len:=s.l.length+1) (cs:=j5 (s.l++[⟨vnm j,4,s.loc⟩])) t100 rfl t184 (by rw[List.drop_zero,List.take_of_length_le t184];exact (rW _).PY) (by simp only[SJ];rfl) (by have:=e.lt;omega) rfl ?_;simp only[iG,BE,List.set_cons_succ,List.set_cons_zero];refine .rz ?_;exact .mk _ (by rw[SP];rfl)
theorem c_blk2 {e:Frm}{c:Ctx}(sc:SC E c vs s.l)(bd:Bd E c s.p)(B:Bnd s W)(hW:1≤W)(n:BA)(hn:n∈vs)(a:Ex)(he:GE vs 2 a):c9 Tryz.prog cfg (rM [1,0,1,0,0,1,0] (kD Tryz.f133)) ⟨mkS 253 [(0,AV.ptr e.k 0 0),(1,AV.vec (Go.Un.Sl.len (pre.app (.cons 2 n a n5 [] .nil .nil rest))) (p5 (pre.app (.cons 2 n a n5 [] .nil .nil rest)))),(4,AV.vec l0.length (j5 l0)),(5,AV.int .i64 ((pre.len:Nat):Int))],(hT e (z9 e.k s) s.code s.sites)⟩ (Led 253 [(0,AV.ptr e.k 0 0),(1,AV.vec (Go.Un.Sl.len (pre.app (.cons 2 n a n5 [] .nil .nil rest))) (p5 (pre.app (.cons 2 n a n5 [] .nil .nil rest)))),(4,AV.vec l0.length (j5 l0)),(5,AV.int .i64 ((pre.len:Nat):Int))] ((hT e (z9 e.k (o7 (bI s) ⟨1,(eZ s.l n).n,(eZ s.l n).kind==1,fY s.l a,bU,[],[]⟩ s.st)) ((o7 (bI s) ⟨1,(eZ s.l n).n,(eZ s.l n).kind==1,fY s.l a,bU,[],[]⟩ s.st)).code ((o7 (bI s) ⟨1,(eZ s.l n).n,(eZ s.l n).kind==1,fY s.l a,bU,[],[]⟩ s.st)).sites))):=by obtain ⟨q1,q2,q3,q4,q5,q6,q7,q8⟩:=B;have hlc:=@w9 pre 2 n a n5 [] .nil .nil rest;obtain ⟨v,hv1,hv2⟩:=sc.var n hn;refine c158z ?_;refine c9.w6 (hT e (z9 e.k (bI s)) s.code s.sites++[⟨0,false,190,11,[.int .i64 2,.str n,.int .i64 a.op,.int .i64 a.num,.str a.name,.vec a.args.length (n9 a.args),.str n5.name,.vec n5.idx.length (n9 n5.idx),.vec (([]:List Ar)).length (bE ([]:List Ar)),.vec (Go.Un.Sl.len Go.Un.Sl.nil) (p5 Go.Un.Sl.nil),.vec (Go.Un.Sl.len Go.Un.Sl.nil) (p5 Go.Un.Sl.nil)],0⟩]) rfl ?_;refine c172z ?_;refine c106z ?_;refine c29z ?_;refine .ch rfl rfl (gE (c_var (s:=bI s) t130 s.st hv1 hv2)) ?_;refine .n ?_;refine .c6 [0,1,4,5,6,7,11] ?_;refine .og u6 (mkH 14 [0,0,2,0,8,24,0,0,128,0,960,2046,0,8191] [10,13] [] [0,1024,9216] [0,1,2,3,4,5]) 0 ?_;refine w8.w6 t27 ?_;refine .p 2 ?_;refine c96z ?_;refine c97z ?_;refine .p 1 ?_;refine .cn [true] [1024,0] [_] rfl rfl (by simp only[lD,and_true,List.cons_append,List.nil_append];exact gE (SO (s:=bI s) t130 s.st sc.var he _)) ?_;refine .p 2 ?_;refine .cn [true,false] [9216,1024,0] [_] rfl rfl (by simp only[lD,and_true,List.cons_append,List.nil_append];exact gE (nB t50 t46 ⟨1,v.n,v.kind==1,fY s.l a,bU,[],[]⟩ s.st t25)) ?_;refine c127z ?_;exact .mk _ (by rw[eJ hv1])
theorem c_blk3 {e:Frm}{c:Ctx}(sc:SC E c vs s.l)(bd:Bd E c s.p)(B:Bnd s W)(hW:1≤W)(f:BA×List Pm)(hf:f∈E.funcs)(xs:List Ar)(ha:GAs E vs f.2 xs):c9 Tryz.prog cfg (rM [1,0,1,0,0,1,0] (kD Tryz.f133)) ⟨mkS 253 [(0,AV.ptr e.k 0 0),(1,AV.vec (Go.Un.Sl.len (pre.app (.cons 3 f.1 l6 n5 xs .nil .nil rest))) (p5 (pre.app (.cons 3 f.1 l6 n5 xs .nil .nil rest)))),(4,AV.vec l0.length (j5 l0)),(5,AV.int .i64 ((pre.len:Nat):Int))],(hT e (z9 e.k s) s.code s.sites)⟩ (Led 253 [(0,AV.ptr e.k 0 0),(1,AV.vec (Go.Un.Sl.len (pre.app (.cons 3 f.1 l6 n5 xs .nil .nil rest))) (p5 (pre.app (.cons 3 f.1 l6 n5 xs .nil .nil rest)))),(4,AV.vec l0.length (j5 l0)),(5,AV.int .i64 ((pre.len:Nat):Int))] ((hT e (z9 e.k (o7 (bI s) ⟨2,(eZ s.l f.1).n,false,l6,bU,aT s.l xs,z7 s.l xs⟩ s.st)) ((o7 (bI s) ⟨2,(eZ s.l f.1).n,false,l6,bU,aT s.l xs,z7 s.l xs⟩ s.st)).code ((o7 (bI s) ⟨2,(eZ s.l f.1).n,false,l6,bU,aT s.l xs,z7 s.l xs⟩ s.st)).sites))):=by
  obtain ⟨q1,q2,q3,q4,q5,q6,q7,q8⟩:=B;have hlc:=@w9 pre 3 f.1 l6 n5 xs .nil .nil rest;obtain ⟨⟨fy,fk,fn⟩,hf1,hfk,hf5,hf6,hf7⟩:=sc.fn f hf;simp only at hfk hf5 hf6 hf7;subst hfk;have hf2:0≤fn∧fn<s.p.funcs.length:=by rw[bd.hf,List.length_map]at hf6;exact ⟨hf5,hf6⟩
  have hf3:(s.p.funcs.getD fn.toNat j4).params=f.2:=by rw[bd.hf,getD_map (d':=j4) (by omega)]at hf7;rw[←hf7]
  have hf4:=bd.fp f hf;refine c158z ?_;refine c9.w6 (hT e (z9 e.k (bI s)) s.code s.sites++[⟨0,false,190,11,[.int .i64 3,.str f.1,.int .i64 l6.op,.int .i64 l6.num,.str l6.name,.vec l6.args.length (n9 l6.args),.str n5.name,.vec n5.idx.length (n9 n5.idx),.vec (xs).length (bE xs),.vec (Go.Un.Sl.len Go.Un.Sl.nil) (p5 Go.Un.Sl.nil),.vec (Go.Un.Sl.len Go.Un.Sl.nil) (p5 Go.Un.Sl.nil)],0⟩]) rfl ?_;refine c197z ?_;refine .T ?_;refine .sk ?_;refine .T ?_;refine c147z ?_;refine .ch rfl rfl (gE (c_call3 (s:=bI s) t130 s.st sc bd.hE bd.hc hf1 hf2 hf3 hf4 ha)) ?_;refine .e 1 ?_;refine .ch rfl rfl (gE (nB t50 t46 ⟨2,fn,false,l6,bU,aT s.l xs,z7 s.l xs⟩ s.st t25)) ?_;refine .nil ?_;exact .mk _ (by rw[eJ hf1])
theorem c_blk4 {e:Frm}{c:Ctx}(sc:SC E c vs s.l)(bd:Bd E c s.p)(B:Bnd s W)(hW:1≤W)(f:BA×List Pm)(hf:f∈E.funcs)(xs:List Ar)(ha:GAs E vs f.2 xs):c9 Tryz.prog cfg (rM [1,0,1,0,0,1,0] (kD Tryz.f133)) ⟨mkS 253 [(0,AV.ptr e.k 0 0),(1,AV.vec (Go.Un.Sl.len (pre.app (.cons 4 f.1 l6 n5 xs .nil .nil rest))) (p5 (pre.app (.cons 4 f.1 l6 n5 xs .nil .nil rest)))),(4,AV.vec l0.length (j5 l0)),(5,AV.int .i64 ((pre.len:Nat):Int))],(hT e (z9 e.k s) s.code s.sites)⟩ (Led 253 [(0,AV.ptr e.k 0 0),(1,AV.vec (Go.Un.Sl.len (pre.app (.cons 4 f.1 l6 n5 xs .nil .nil rest))) (p5 (pre.app (.cons 4 f.1 l6 n5 xs .nil .nil rest)))),(4,AV.vec l0.length (j5 l0)),(5,AV.int .i64 ((pre.len:Nat):Int))] ((hT e (z9 e.k (o7 (bI s) ⟨3,(eZ s.l f.1).n,false,l6,bU,aT s.l xs,z7 s.l xs⟩ s.st)) ((o7 (bI s) ⟨3,(eZ s.l f.1).n,false,l6,bU,aT s.l xs,z7 s.l xs⟩ s.st)).code ((o7 (bI s) ⟨3,(eZ s.l f.1).n,false,l6,bU,aT s.l xs,z7 s.l xs⟩ s.st)).sites))):=by
  obtain ⟨q1,q2,q3,q4,q5,q6,q7,q8⟩:=B;have hlc:=@w9 pre 4 f.1 l6 n5 xs .nil .nil rest;obtain ⟨⟨fy,fk,fn⟩,hf1,hfk,hf5,hf6,hf7⟩:=sc.fn f hf;simp only at hfk hf5 hf6 hf7;subst hfk;have hf2:0≤fn∧fn<s.p.funcs.length:=by rw[bd.hf,List.length_map]at hf6;exact ⟨hf5,hf6⟩
  have hf3:(s.p.funcs.getD fn.toNat j4).params=f.2:=by rw[bd.hf,getD_map (d':=j4) (by omega)]at hf7;rw[←hf7]
  have hf4:=bd.fp f hf;refine c158z ?_;refine c9.w6 (hT e (z9 e.k (bI s)) s.code s.sites++[⟨0,false,190,11,[.int .i64 4,.str f.1,.int .i64 l6.op,.int .i64 l6.num,.str l6.name,.vec l6.args.length (n9 l6.args),.str n5.name,.vec n5.idx.length (n9 n5.idx),.vec (xs).length (bE xs),.vec (Go.Un.Sl.len Go.Un.Sl.nil) (p5 Go.Un.Sl.nil),.vec (Go.Un.Sl.len Go.Un.Sl.nil) (p5 Go.Un.Sl.nil)],0⟩]) rfl ?_;refine c223z ?_;refine .T ?_;refine .c6 [0,1,4,5,6,7] ?_;refine c147z ?_;refine .ch rfl rfl (gE (c_call4 (s:=bI s) t130 s.st sc bd.hE bd.hc hf1 hf2 hf3 hf4 ha)) ?_;refine .e 1 ?_;refine .ch rfl rfl (gE (nB t50 t46 ⟨3,fn,false,l6,bU,aT s.l xs,z7 s.l xs⟩ s.st t25)) ?_;refine .nil ?_;exact .mk _ (by rw[eJ hf1])
theorem c_blk5 {e:Frm}{c:Ctx}(sc:SC E c vs s.l)(bd:Bd E c s.p)(B:Bnd s W)(hW:1≤W)(r:Rf)(hR:GR E vs r):c9 Tryz.prog cfg (rM [1,0,1,0,0,1,0] (kD Tryz.f133)) ⟨mkS 253 [(0,AV.ptr e.k 0 0),(1,AV.vec (Go.Un.Sl.len (pre.app (.cons 5 ByteArray.empty l6 r [] .nil .nil rest))) (p5 (pre.app (.cons 5 ByteArray.empty l6 r [] .nil .nil rest)))),(4,AV.vec l0.length (j5 l0)),(5,AV.int .i64 ((pre.len:Nat):Int))],(hT e (z9 e.k s) s.code s.sites)⟩ (Led 253 [(0,AV.ptr e.k 0 0),(1,AV.vec (Go.Un.Sl.len (pre.app (.cons 5 ByteArray.empty l6 r [] .nil .nil rest))) (p5 (pre.app (.cons 5 ByteArray.empty l6 r [] .nil .nil rest)))),(4,AV.vec l0.length (j5 l0)),(5,AV.int .i64 ((pre.len:Nat):Int))] ((hT e (z9 e.k (o7 (bI s) ⟨4,0,false,l6,rP s.l r,[],[]⟩ s.st)) ((o7 (bI s) ⟨4,0,false,l6,rP s.l r,[],[]⟩ s.st)).code ((o7 (bI s) ⟨4,0,false,l6,rP s.l r,[],[]⟩ s.st)).sites))):=by obtain ⟨q1,q2,q3,q4,q5,q6,q7,q8⟩:=B;have hlc:=@w9 pre 5 ByteArray.empty l6 r [] .nil .nil rest;refine c158z ?_;refine c9.w6 (hT e (z9 e.k (bI s)) s.code s.sites++[⟨0,false,190,11,[.int .i64 5,.str ByteArray.empty,.int .i64 l6.op,.int .i64 l6.num,.str l6.name,.vec l6.args.length (n9 l6.args),.str r.name,.vec r.idx.length (n9 r.idx),.vec (([]:List Ar)).length (bE ([]:List Ar)),.vec (Go.Un.Sl.len Go.Un.Sl.nil) (p5 Go.Un.Sl.nil),.vec (Go.Un.Sl.len Go.Un.Sl.nil) (p5 Go.Un.Sl.nil)],0⟩]) rfl ?_;refine c259z ?_;refine c106z ?_;refine .c6 [0,1,4,5,6,7] ?_;refine .r ?_;refine .e 5 ?_;refine .ch rfl rfl (gE (JX (s:=bI s) t130 s.st sc bd.hE bd.hc hR)) ?_;refine .e 2 ?_;refine .ch rfl rfl (gE (nB t50 t46 ⟨4,0,false,l6,rP s.l r,[],[]⟩ s.st t25)) ?_;refine .nil ?_;exact .mk _ rfl
theorem c_blk6 {e:Frm}{c:Ctx}(sc:SC E c vs s.l)(bd:Bd E c s.p)(B:Bnd s W)(hW:1≤W)(r:Rf)(hR:GR E vs r):c9 Tryz.prog cfg (rM [1,0,1,0,0,1,0] (kD Tryz.f133)) ⟨mkS 253 [(0,AV.ptr e.k 0 0),(1,AV.vec (Go.Un.Sl.len (pre.app (.cons 6 ByteArray.empty l6 r [] .nil .nil rest))) (p5 (pre.app (.cons 6 ByteArray.empty l6 r [] .nil .nil rest)))),(4,AV.vec l0.length (j5 l0)),(5,AV.int .i64 ((pre.len:Nat):Int))],(hT e (z9 e.k s) s.code s.sites)⟩ (Led 253 [(0,AV.ptr e.k 0 0),(1,AV.vec (Go.Un.Sl.len (pre.app (.cons 6 ByteArray.empty l6 r [] .nil .nil rest))) (p5 (pre.app (.cons 6 ByteArray.empty l6 r [] .nil .nil rest)))),(4,AV.vec l0.length (j5 l0)),(5,AV.int .i64 ((pre.len:Nat):Int))] ((hT e (z9 e.k (o7 (bI s) ⟨5,0,false,l6,rP s.l r,[],[]⟩ s.st)) ((o7 (bI s) ⟨5,0,false,l6,rP s.l r,[],[]⟩ s.st)).code ((o7 (bI s) ⟨5,0,false,l6,rP s.l r,[],[]⟩ s.st)).sites))):=by obtain ⟨q1,q2,q3,q4,q5,q6,q7,q8⟩:=B;have hlc:=@w9 pre 6 ByteArray.empty l6 r [] .nil .nil rest;refine c158z ?_;refine c9.w6 (hT e (z9 e.k (bI s)) s.code s.sites++[⟨0,false,190,11,[.int .i64 6,.str ByteArray.empty,.int .i64 l6.op,.int .i64 l6.num,.str l6.name,.vec l6.args.length (n9 l6.args),.str r.name,.vec r.idx.length (n9 r.idx),.vec (([]:List Ar)).length (bE ([]:List Ar)),.vec (Go.Un.Sl.len Go.Un.Sl.nil) (p5 Go.Un.Sl.nil),.vec (Go.Un.Sl.len Go.Un.Sl.nil) (p5 Go.Un.Sl.nil)],0⟩]) rfl ?_;refine c259z ?_;refine c11z ?_;refine .c6 [0,1,4,5,6,7,41] ?_;refine c106z ?_;refine .r ?_;refine .e 5 ?_;refine .ch rfl rfl (gE (JX (s:=bI s) t130 s.st sc bd.hE bd.hc hR)) ?_;refine .e 2 ?_;refine .ch rfl rfl (gE (nB t50 t46 ⟨5,0,false,l6,rP s.l r,[],[]⟩ s.st t25)) ?_;refine .nil ?_;exact .mk _ rfl
theorem c_blk7 {e:Frm}{c:Ctx}(sc:SC E c vs s.l)(bd:Bd E c s.p)(B:Bnd s W)(a:Ex)(he:GE vs 2 a)(th:Sl)(hW:1+th.wt≤W)(ith:(∀s':Sco,SC E c vs s'.l→s'.p=s.p→Bnd s' th.wt→∀e:Frm,CH 133 [.ptr e.k 0 0,.vec th.len (p5 th)] (hT e (z9 e.k s') (s').code (s').sites) (.tup []) (hT e (z9 e.k (cQ s'.l s' th)) ((cQ s'.l s' th)).code ((cQ s'.l s' th)).sites))):c9 Tryz.prog cfg (rM [1,0,1,0,0,1,0] (kD Tryz.f133)) ⟨mkS 253 [(0,AV.ptr e.k 0 0),(1,AV.vec (Go.Un.Sl.len (pre.app (.cons 7 ByteArray.empty a n5 [] th .nil rest))) (p5 (pre.app (.cons 7 ByteArray.empty a n5 [] th .nil rest)))),(4,AV.vec l0.length (j5 l0)),(5,AV.int .i64 ((pre.len:Nat):Int))],(hT e (z9 e.k s) s.code s.sites)⟩ (Led 253 [(0,AV.ptr e.k 0 0),(1,AV.vec (Go.Un.Sl.len (pre.app (.cons 7 ByteArray.empty a n5 [] th .nil rest))) (p5 (pre.app (.cons 7 ByteArray.empty a n5 [] th .nil rest)))),(4,AV.vec l0.length (j5 l0)),(5,AV.int .i64 ((pre.len:Nat):Int))] ((hT e (z9 e.k (cI (dW s a th) s.code.length ((dW s a th).code.length:Int))) ((cI (dW s a th) s.code.length ((dW s a th).code.length:Int))).code ((cI (dW s a th) s.code.length ((dW s a th).code.length:Int))).sites))):=by obtain ⟨q1,q2,q3,q4,q5,q6,q7,q8⟩:=B;have hlc:=@w9 pre 7 ByteArray.empty a n5 [] th .nil rest;refine c158z ?_;refine c9.w6 (hT e (z9 e.k (bI s)) s.code s.sites++[⟨0,false,190,11,[.int .i64 7,.str ByteArray.empty,.int .i64 a.op,.int .i64 a.num,.str a.name,.vec a.args.length (n9 a.args),.str n5.name,.vec n5.idx.length (n9 n5.idx),.vec (([]:List Ar)).length (bE ([]:List Ar)),.vec (Go.Un.Sl.len th) (p5 th),.vec (Go.Un.Sl.len Go.Un.Sl.nil) (p5 Go.Un.Sl.nil)],0⟩]) rfl ?_;refine c259z ?_;refine c11z ?_;refine c36z ?_;refine c106z ?_;refine c25z ?_;refine c154z ?_;refine .n ?_;refine .c6 [0,1,4,5,6,7,12] ?_;have b1:Bnd (o7 (bI s) ⟨6,0,false,fY s.l a,bU,[],[]⟩ s.st) th.wt:=⟨q1,t191,t175,t169,q5,t179,t170,t151⟩;refine c100z ?_;refine .nil ?_;have fc:=jD (l0:=s.l) (s:=o7 (bI s) ⟨6,0,false,fY s.l a,bU,[],[]⟩ s.st) (S:=th);have fs:=iY (l0:=s.l) (s:=o7 (bI s) ⟨6,0,false,fY s.l a,bU,[],[]⟩ s.st) (S:=th);rw[cA,gR]at fc;rw[bO,eT]at fs;change _≤(dW s a th).code.length∧(dW s a th).code.length≤_ at fc;change _≤(dW s a th).sites.length∧(dW s a th).sites.length≤_ at fs;change c9 _ _ _ ⟨mkS _ _,hT e (z9 e.k (dW s a th)) (dW s a th).code (dW s a th).sites++_⟩ _;refine c11z ?_;refine .c6 [0,1,4,5,12] ?_;refine c110z ?_;refine c171z ?_;refine .p 3 ?_;refine c179z ?_;exact .mk _ (by rw[uE];rfl)
theorem c_blk17 {e:Frm}{c:Ctx}(sc:SC E c vs s.l)(bd:Bd E c s.p)(B:Bnd s W)(a:Ex)(he:GE vs 2 a)(th el:Sl)(hel:0<el.len)(hW:1+th.wt+el.wt≤W)(ith:(∀s':Sco,SC E c vs s'.l→s'.p=s.p→Bnd s' th.wt→∀e:Frm,CH 133 [.ptr e.k 0 0,.vec th.len (p5 th)] (hT e (z9 e.k s') (s').code (s').sites) (.tup []) (hT e (z9 e.k (cQ s'.l s' th)) ((cQ s'.l s' th)).code ((cQ s'.l s' th)).sites)))(iel:(∀s':Sco,SC E c vs s'.l→s'.p=s.p→Bnd s' el.wt→∀e:Frm,CH 133 [.ptr e.k 0 0,.vec el.len (p5 el)] (hT e (z9 e.k s') (s').code (s').sites) (.tup []) (hT e (z9 e.k (cQ s'.l s' el)) ((cQ s'.l s' el)).code ((cQ s'.l s' el)).sites))):c9 Tryz.prog cfg (rM [1,0,1,0,0,1,0] (kD Tryz.f133)) ⟨mkS 253 [(0,AV.ptr e.k 0 0),(1,AV.vec (Go.Un.Sl.len (pre.app (.cons 7 ByteArray.empty a n5 [] th el rest))) (p5 (pre.app (.cons 7 ByteArray.empty a n5 [] th el rest)))),(4,AV.vec l0.length (j5 l0)),(5,AV.int .i64 ((pre.len:Nat):Int))],(hT e (z9 e.k s) s.code s.sites)⟩ (Led 253 [(0,AV.ptr e.k 0 0),(1,AV.vec (Go.Un.Sl.len (pre.app (.cons 7 ByteArray.empty a n5 [] th el rest))) (p5 (pre.app (.cons 7 ByteArray.empty a n5 [] th el rest)))),(4,AV.vec l0.length (j5 l0)),(5,AV.int .i64 ((pre.len:Nat):Int))] ((hT e (z9 e.k (cI (dX s a th el) (dW s a th).code.length ((dX s a th el).code.length:Int))) ((cI (dX s a th el) (dW s a th).code.length ((dX s a th el).code.length:Int))).code ((cI (dX s a th el) (dW s a th).code.length ((dX s a th el).code.length:Int))).sites))):=by
  obtain ⟨q1,q2,q3,q4,q5,q6,q7,q8⟩:=B;have hlc:=@w9 pre 7 ByteArray.empty a n5 [] th el rest;refine c158z ?_;refine c9.w6 (hT e (z9 e.k (bI s)) s.code s.sites++[⟨0,false,190,11,[.int .i64 7,.str ByteArray.empty,.int .i64 a.op,.int .i64 a.num,.str a.name,.vec a.args.length (n9 a.args),.str n5.name,.vec n5.idx.length (n9 n5.idx),.vec (([]:List Ar)).length (bE ([]:List Ar)),.vec (Go.Un.Sl.len th) (p5 th),.vec (Go.Un.Sl.len el) (p5 el)],0⟩]) rfl ?_;refine c259z ?_;refine c11z ?_;refine c36z ?_;refine c106z ?_;refine c25z ?_;refine c154z ?_;refine .n ?_;refine .c6 [0,1,4,5,6,7,12] ?_;have b1:Bnd (o7 (bI s) ⟨6,0,false,fY s.l a,bU,[],[]⟩ s.st) th.wt:=⟨q1,t191,t175,t169,q5,t179,t170,t151⟩;refine c100z ?_;refine .nil ?_;have fc:=jD (l0:=s.l) (s:=o7 (bI s) ⟨6,0,false,fY s.l a,bU,[],[]⟩ s.st) (S:=th);have fs:=iY (l0:=s.l) (s:=o7 (bI s) ⟨6,0,false,fY s.l a,bU,[],[]⟩ s.st) (S:=th);rw[cA,gR]at fc;rw[bO,eT]at fs;change _≤(dW s a th).code.length∧(dW s a th).code.length≤_ at fc;change _≤(dW s a th).sites.length∧(dW s a th).sites.length≤_ at fs;change c9 _ _ _ ⟨mkS _ _,hT e (z9 e.k (dW s a th)) (dW s a th).code (dW s a th).sites++_⟩ _;refine .z ?_;refine uTbz ?_;intro e1 qe1;refine .c6 [0,1,4,5,6,7,12] ?_;refine c15z ?_;refine .ch rfl rfl (gE (nB t50 t46 ⟨7,0,false,l6,bU,[],[]⟩ s.st t25)) ?_;refine .n ?_;change c9 _ _ _ ⟨mkS _ _,hT e (z9 e.k (stJ s a th)) (stJ s a th).code (stJ s a th).sites++_⟩ _;have jc:(stJ s a th).code.length=(dW s a th).code.length+1:=cA;have js:(stJ s a th).sites.length=(dW s a th).sites.length+1:=bO;refine .sg u6 (mkH 13 [0,1,3,7,0,0,32,96,224,480,1023,2047,4095] [12] [] [0,4096] []) 0 ?_;refine c97z ?_;refine c171z ?_;refine .p 3 ?_;refine c179z ?_;refine .c6 [0,1,4,5,6,13] ?_;refine c9.w6 (hT e (z9 e.k (cI (stJ s a th) s.code.length ((stJ s a th).code.length:Int))) (cI (stJ s a th) s.code.length ((stJ s a th).code.length:Int)).code (cI (stJ s a th) s.code.length ((stJ s a th).code.length:Int)).sites++[_]) (by rw[uE];rfl) ?_;have lb:=sP th s.loc;have b2:Bnd (cI (stJ s a th) s.code.length ((stJ s a th).code.length:Int)) el.wt:=⟨q1,by show s.l.length+_≤_;omega,by rw[kT,jc];omega,by rw[oX,js];omega,by show 0≤fZ th s.loc;omega,by show fZ th s.loc+_≤_;omega,by show 0≤s.st+1+(th.wt:Int);omega,by show s.st+1+(th.wt:Int)+_≤_;omega⟩;refine c15z ?_;refine .ch rfl rfl (gE (iel (cI (stJ s a th) s.code.length ((stJ s a th).code.length:Int)) sc rfl b2 _)) ?_;refine .nil ?_;have ec:(stJ s a th).code.length≤(dX s a th el).code.length∧(dX s a th el).code.length≤(stJ s a th).code.length+2*el.wt:=by have h0:=jD (l0:=s.l) (s:=(cI (stJ s a th) s.code.length ((stJ s a th).code.length:Int))) (S:=el);rw[kT]at h0;exact h0
  change c9 _ _ _ ⟨mkS _ _,hT e (z9 e.k (dX s a th el)) (dX s a th el).code (dX s a th el).sites++_⟩ _;refine c110z ?_;refine c171z ?_;refine .p 3 ?_;refine c179z ?_;exact .mk _ (by rw[uE];rfl)
theorem c_blk8 {e:Frm}{c:Ctx}(sc:SC E c vs s.l)(bd:Bd E c s.p)(B:Bnd s W)(a:Ex)(he:GE vs 2 a)(th:Sl)(hW:1+th.wt≤W)(ith:(∀s':Sco,SC E c vs s'.l→s'.p=s.p→Bnd s' th.wt→∀e:Frm,CH 133 [.ptr e.k 0 0,.vec th.len (p5 th)] (hT e (z9 e.k s') (s').code (s').sites) (.tup []) (hT e (z9 e.k (cQ s'.l s' th)) ((cQ s'.l s' th)).code ((cQ s'.l s' th)).sites))):c9 Tryz.prog cfg (rM [1,0,1,0,0,1,0] (kD Tryz.f133)) ⟨mkS 253 [(0,AV.ptr e.k 0 0),(1,AV.vec (Go.Un.Sl.len (pre.app (.cons 8 ByteArray.empty a n5 [] th .nil rest))) (p5 (pre.app (.cons 8 ByteArray.empty a n5 [] th .nil rest)))),(4,AV.vec l0.length (j5 l0)),(5,AV.int .i64 ((pre.len:Nat):Int))],(hT e (z9 e.k s) s.code s.sites)⟩ (Led 253 [(0,AV.ptr e.k 0 0),(1,AV.vec (Go.Un.Sl.len (pre.app (.cons 8 ByteArray.empty a n5 [] th .nil rest))) (p5 (pre.app (.cons 8 ByteArray.empty a n5 [] th .nil rest)))),(4,AV.vec l0.length (j5 l0)),(5,AV.int .i64 ((pre.len:Nat):Int))] ((hT e (z9 e.k (cI (F7 s a th) s.code.length ((F7 s a th).code.length:Int))) ((cI (F7 s a th) s.code.length ((F7 s a th).code.length:Int))).code ((cI (F7 s a th) s.code.length ((F7 s a th).code.length:Int))).sites))):=by obtain ⟨q1,q2,q3,q4,q5,q6,q7,q8⟩:=B;have hlc:=@w9 pre 8 ByteArray.empty a n5 [] th .nil rest;refine c158z ?_;refine c9.w6 (hT e (z9 e.k (bI s)) s.code s.sites++[⟨0,false,190,11,[.int .i64 8,.str ByteArray.empty,.int .i64 a.op,.int .i64 a.num,.str a.name,.vec a.args.length (n9 a.args),.str n5.name,.vec n5.idx.length (n9 n5.idx),.vec (([]:List Ar)).length (bE ([]:List Ar)),.vec (Go.Un.Sl.len th) (p5 th),.vec (Go.Un.Sl.len Go.Un.Sl.nil) (p5 Go.Un.Sl.nil)],0⟩]) rfl ?_;refine c259z ?_;refine c11z ?_;refine c36z ?_;refine c11z ?_;refine c106z ?_;refine c25z ?_;refine c154z ?_;refine .n ?_;refine .c6 [0,1,4,5,6,7,14] ?_;have b1:Bnd (o7 (bI s) ⟨6,0,false,fY s.l a,bU,[],[]⟩ s.st) th.wt:=⟨q1,t191,t175,t169,q5,t179,t170,t151⟩;refine c100z ?_;refine .nil ?_;have fc:=jD (l0:=s.l) (s:=o7 (bI s) ⟨6,0,false,fY s.l a,bU,[],[]⟩ s.st) (S:=th);have fs:=iY (l0:=s.l) (s:=o7 (bI s) ⟨6,0,false,fY s.l a,bU,[],[]⟩ s.st) (S:=th);rw[cA,gR]at fc;rw[bO,eT]at fs;change _≤(dW s a th).code.length∧(dW s a th).code.length≤_ at fc;change _≤(dW s a th).sites.length∧(dW s a th).sites.length≤_ at fs;change c9 _ _ _ ⟨mkS _ _,hT e (z9 e.k (dW s a th)) (dW s a th).code (dW s a th).sites++_⟩ _;refine c29z ?_;refine .ch rfl rfl (gE (nB t50 t46 ⟨7,((s.code.length:Nat):Int),false,l6,bU,[],[]⟩ s.st t25)) ?_;refine .nil ?_;refine .c6 [0,1,4,5,14] ?_;change c9 _ _ _ ⟨mkS _ _,hT e (z9 e.k (F7 s a th)) (F7 s a th).code (F7 s a th).sites++_⟩ _;have jc:(F7 s a th).code.length=(dW s a th).code.length+1:=cA;refine c110z ?_;refine c171z ?_;refine .p 3 ?_;refine c179z ?_;exact .mk _ (by rw[uE];rfl)
theorem c_blk9 {e:Frm}{c:Ctx}(sc:SC E c vs s.l)(bd:Bd E c s.p)(B:Bnd s W)(hW:1≤W):c9 Tryz.prog cfg (rM [1,0,1,0,0,1,0] (kD Tryz.f133)) ⟨mkS 253 [(0,AV.ptr e.k 0 0),(1,AV.vec (Go.Un.Sl.len (pre.app (.cons 9 ByteArray.empty l6 n5 [] .nil .nil rest))) (p5 (pre.app (.cons 9 ByteArray.empty l6 n5 [] .nil .nil rest)))),(4,AV.vec l0.length (j5 l0)),(5,AV.int .i64 ((pre.len:Nat):Int))],(hT e (z9 e.k s) s.code s.sites)⟩ (Led 253 [(0,AV.ptr e.k 0 0),(1,AV.vec (Go.Un.Sl.len (pre.app (.cons 9 ByteArray.empty l6 n5 [] .nil .nil rest))) (p5 (pre.app (.cons 9 ByteArray.empty l6 n5 [] .nil .nil rest)))),(4,AV.vec l0.length (j5 l0)),(5,AV.int .i64 ((pre.len:Nat):Int))] ((hT e (z9 e.k (o7 (bI s) ⟨8,0,false,l6,bU,[],[]⟩ s.st)) ((o7 (bI s) ⟨8,0,false,l6,bU,[],[]⟩ s.st)).code ((o7 (bI s) ⟨8,0,false,l6,bU,[],[]⟩ s.st)).sites))):=by obtain ⟨q1,q2,q3,q4,q5,q6,q7,q8⟩:=B;have hlc:=@w9 pre 9 ByteArray.empty l6 n5 [] .nil .nil rest;refine c158z ?_;refine c9.w6 (hT e (z9 e.k (bI s)) s.code s.sites++[⟨0,false,190,11,[.int .i64 9,.str ByteArray.empty,.int .i64 l6.op,.int .i64 l6.num,.str l6.name,.vec l6.args.length (n9 l6.args),.str n5.name,.vec n5.idx.length (n9 n5.idx),.vec (([]:List Ar)).length (bE ([]:List Ar)),.vec (Go.Un.Sl.len Go.Un.Sl.nil) (p5 Go.Un.Sl.nil),.vec (Go.Un.Sl.len Go.Un.Sl.nil) (p5 Go.Un.Sl.nil)],0⟩]) rfl ?_;refine c259z ?_;refine c11z ?_;refine c36z ?_;refine c70z ?_;refine .c6 [0,1,4,5,7] ?_;refine .r ?_;refine .e 3 ?_;refine .ch rfl rfl (gE (nB t50 t46 ⟨8,0,false,l6,bU,[],[]⟩ s.st t25)) ?_;refine .nil ?_;exact .mk _ rfl
theorem Bnd.mono {W':Nat}(h:Bnd s W)(hw:W'≤W):Bnd s W':=by obtain ⟨q1,q2,q3,q4,q5,q6,q7,q8⟩:=h;exact ⟨q1,by omega,by omega,by omega,q5,by omega,q7,by omega⟩
theorem Bnd.ins (h:Bnd s (1+W))(i:Ins):Bnd (o7 (bI s) i s.st) W:=by obtain ⟨q1,q2,q3,q4,q5,q6,q7,q8⟩:=h;exact ⟨q1,t191,t175,t169,q5,t179,t170,t151⟩
theorem Bnd.var (h:Bnd s (1+W))(i:Ins)(n:BA):Bnd (rT (o7 (bI s) i s.st) n) W:=by obtain ⟨q1,q2,q3,q4,q5,q6,q7,q8⟩:=h;exact ⟨by simp[rT],by show (s.l++[_]).length+_≤_;simp;omega,by show (o7 (bI s) i s.st).code.length+_≤_;rw[cA,gR];omega,by show (o7 (bI s) i s.st).sites.length+_≤_;rw[bO,eT];omega,by show 0≤s.loc+1;omega,by show s.loc+1+_≤_;omega,t170,t151⟩
theorem Bnd.fin (h:Bnd s (S.wt+W)):Bnd (cQ s.l s S) W:=by obtain ⟨q1,q2,q3,q4,q5,q6,q7,q8⟩:=h;have h1:=jD (l0:=s.l) (s:=s) (S:=S);have h2:=iY (l0:=s.l) (s:=s) (S:=S);have h3:=sP S s.loc;exact ⟨q1,by show s.l.length+_≤_;omega,by omega,by omega,by show 0≤fZ S s.loc;omega,by show fZ S s.loc+_≤_;omega,by show 0≤s.st+(S.wt:Int);omega,by show s.st+(S.wt:Int)+_≤_;omega⟩
theorem Bnd.tgt {i:Nat}{v:Int}(h:Bnd s W):Bnd (cI s i v) W:=by obtain ⟨q1,q2,q3,q4,q5,q6,q7,q8⟩:=h;exact ⟨q1,q2,by rw[kT];exact q3,q4,q5,q6,q7,q8⟩
theorem Bnd.put2 (h:Bnd s W)(i:Ins)(t:Int)(hc:s.code.length+1+2*W≤5000)(hs:s.sites.length+1+2*W≤5000):Bnd (o7 s i t) W:=by obtain ⟨q1,q2,q3,q4,q5,q6,q7,q8⟩:=h;exact ⟨q1,by rw[U6];omega,by rw[cA];omega,by rw[bO];omega,q5,by rw[wF];omega,q7,by rw[BK];omega⟩
variable {a:Ex}
theorem N0 (h:Bnd s (1+th.wt+W)):Bnd (dW s a th) W∧(dW s a th).code.length+1+2*W≤5000∧(dW s a th).sites.length+1+2*W≤5000:=by have h1:=(show Bnd s (1+(th.wt+W)) from h.mono (by omega)).ins ⟨6,0,false,fY s.l a,bU,[],[]⟩;have h2:=jD (l0:=s.l) (s:=o7 (bI s) ⟨6,0,false,fY s.l a,bU,[],[]⟩ s.st) (S:=th);have h3:=iY (l0:=s.l) (s:=o7 (bI s) ⟨6,0,false,fY s.l a,bU,[],[]⟩ s.st) (S:=th);rw[cA,gR]at h2;rw[bO,eT]at h3;have q3:=h.cb;have q4:=h.sb;exact ⟨h1.fin,by show (cQ s.l (o7 (bI s) _ s.st) th).code.length+1+2*W≤5000;omega,by show (cQ s.l (o7 (bI s) _ s.st) th).sites.length+1+2*W≤5000;omega⟩
theorem SS (h:Bnd s (1+th.wt+(el.wt+W))):Bnd (dX s a th el) W:=by obtain ⟨h1,h2,h3⟩:=N0 (a:=a) h;exact (((h1.put2 ⟨7,0,false,l6,bU,[],[]⟩ s.st h2 h3).tgt (i:=s.code.length) (v:=((stJ s a th).code.length:Int)))).fin
theorem SU {e:Frm}{c:Ctx}(sc:SC E c vs s.l)(bd:Bd E c s.p){k:Int}{n:BA}(hG:GS E (.cons k n a r xs th el rest) vs)(B:Bnd s (Sl.cons k n a r xs th el rest).wt)(ih:∀T:Sl,(T=th∨T=el)→GS E T vs→(∀s':Sco,SC E c vs s'.l→s'.p=s.p→Bnd s' T.wt→∀e:Frm,CH 133 [.ptr e.k 0 0,.vec T.len (p5 T)] (hT e (z9 e.k s') (s').code (s').sites) (.tup []) (hT e (z9 e.k (cQ s'.l s' T)) ((cQ s'.l s' T)).code ((cQ s'.l s' T)).sites))):∃s' vs',SC E c vs' s'.l∧GS E rest vs'∧s'.p=s.p∧Bnd s' rest.wt∧cQ l0 s' rest=cQ l0 s (.cons k n a r xs th el rest)∧c9 Tryz.prog cfg (rM [1,0,1,0,0,1,0] (kD Tryz.f133)) ⟨mkS 253 [(0,AV.ptr e.k 0 0),(1,AV.vec (Go.Un.Sl.len (pre.app (.cons k n a r xs th el rest))) (p5 (pre.app (.cons k n a r xs th el rest)))),(4,AV.vec l0.length (j5 l0)),(5,AV.int .i64 ((pre.len:Nat):Int))],(hT e (z9 e.k s) s.code s.sites)⟩ (Led 253 [(0,AV.ptr e.k 0 0),(1,AV.vec (Go.Un.Sl.len (pre.app (.cons k n a r xs th el rest))) (p5 (pre.app (.cons k n a r xs th el rest)))),(4,AV.vec l0.length (j5 l0)),(5,AV.int .i64 ((pre.len:Nat):Int))] (hT e (z9 e.k s') (s').code (s').sites)):=by
  rcases hG with ⟨rfl,⟨j,hj,rfl⟩,hn,he,rfl,rfl,rfl,rfl,hr⟩ | ⟨rfl,hn,he,rfl,rfl,rfl,rfl,hr⟩ | ⟨rfl | rfl,⟨f,hf,rfl,ha⟩,rfl,rfl,rfl,rfl,hr⟩ | ⟨rfl | rfl,rfl,rfl,hR,rfl,rfl,rfl,hr⟩ | ⟨rfl,rfl,he,rfl,rfl,hth,hel,hr⟩ | ⟨rfl,rfl,he,rfl,rfl,hth,rfl,hr⟩ | ⟨rfl,rfl,rfl,rfl,rfl,rfl,rfl,hr⟩
  all_goals simp only[Sl.wt,Nat.add_zero]at B
  · exact ⟨(rT (o7 (bI s) ⟨1,s.loc,false,fY s.l a,bU,[],[]⟩ s.st) (vnm j)),_,sc.push hj hn s.loc,hr,rfl,B.var _ _,fin_var,c_blk1 sc bd B (by omega) j hj hn a he⟩
  · exact ⟨(o7 (bI s) ⟨1,(eZ s.l n).n,(eZ s.l n).kind==1,fY s.l a,bU,[],[]⟩ s.st),vs,sc,hr,rfl,B.ins _,rV (by simp only[o9,show ¬(2:Int)=1 from by decide,if_true,if_false];rfl) (by decide),c_blk2 sc bd B (by omega) n hn a he⟩
  · exact ⟨(o7 (bI s) ⟨2,(eZ s.l f.1).n,false,l6,bU,aT s.l xs,z7 s.l xs⟩ s.st),vs,sc,hr,rfl,B.ins _,rV (by simp only[o9,show ¬(3:Int)=1 from by decide,show ¬(3:Int)=2 from by decide,show ¬(3:Int)=4 from by decide,true_or,if_true,if_false]) (by decide),c_blk3 sc bd B (by omega) f hf xs ha⟩
  · exact ⟨(o7 (bI s) ⟨3,(eZ s.l f.1).n,false,l6,bU,aT s.l xs,z7 s.l xs⟩ s.st),vs,sc,hr,rfl,B.ins _,rV (by simp only[o9,show ¬(4:Int)=1 from by decide,show ¬(4:Int)=2 from by decide,or_true,if_true,if_false]) (by decide),c_blk4 sc bd B (by omega) f hf xs ha⟩
  · exact ⟨(o7 (bI s) ⟨4,0,false,l6,rP s.l r,[],[]⟩ s.st),vs,sc,hr,rfl,B.ins _,rV (by simp only[o9,show ¬(5:Int)=1 from by decide,show ¬(5:Int)=2 from by decide,show ¬((5:Int)=3∨(5:Int)=4) from by decide,if_true,if_false]) (by decide),c_blk5 sc bd B (by omega) r hR⟩
  · exact ⟨(o7 (bI s) ⟨5,0,false,l6,rP s.l r,[],[]⟩ s.st),vs,sc,hr,rfl,B.ins _,rV (by simp only[o9,show ¬(6:Int)=1 from by decide,show ¬(6:Int)=2 from by decide,show ¬((6:Int)=3∨(6:Int)=4) from by decide,show ¬(6:Int)=5 from by decide,if_true,if_false]) (by decide),c_blk6 sc bd B (by omega) r hR⟩
  · by_cases h0:0<el.len
    · exact ⟨(cI (dX s a th el) (dW s a th).code.length ((dX s a th el).code.length:Int)),vs,sc,hr,rfl,(SS (B.mono (by omega))).tgt,SR h0,c_blk17 sc bd B a he th el h0 (by omega) (ih _ (.inl rfl) hth) (ih _ (.inr rfl) hel)⟩
    · obtain rfl:=len_nil.1 h0
      simp only[Sl.wt,Nat.add_zero]at B;exact ⟨(cI (dW s a th) s.code.length ((dW s a th).code.length:Int)),vs,sc,hr,rfl,(N0 B).1.tgt,fin_if,c_blk7 sc bd B a he th (by omega) (ih _ (.inl rfl) hth)⟩
  · exact ⟨(cI (F7 s a th) s.code.length ((F7 s a th).code.length:Int)),vs,sc,hr,rfl,((N0 (a:=a) B).1.put2 _ _ (N0 B).2.1 (N0 B).2.2).tgt,fin_wh,c_blk8 sc bd B a he th (by omega) (ih _ (.inl rfl) hth)⟩
  · exact ⟨(o7 (bI s) ⟨8,0,false,l6,bU,[],[]⟩ s.st),vs,sc,hr,rfl,B.ins _,rV (by simp only[o9,show ¬(9:Int)=1 from by decide,show ¬(9:Int)=2 from by decide,show ¬((9:Int)=3∨(9:Int)=4) from by decide,show ¬(9:Int)=5 from by decide,show ¬(9:Int)=6 from by decide,show ¬(9:Int)=7 from by decide,show ¬(9:Int)=8 from by decide,if_false]) (by decide),c_blk9 sc bd B (by omega)⟩
theorem fin_nil:cQ l0 s .nil={ s with l:=l0 }:=by
  refine Sco.eq rfl rfl rfl ?_ ?_ ?_
  · simp[cQ,Sl.wt]
  · simp[cQ,o9]
  · simp[cQ,cG]
theorem SV {c:Ctx}(S:Sl)(hSl:S.wt≤1000)(vars:List BA)(s:Sco)(sc0:SC E c vars s.l)(hG0:GS E S vars)(bd:Bd E c s.p)(B0:Bnd s S.wt)(e:Frm)(ih:∀S':Sl,S'.wt<S.wt→∀(vars:List BA) (s:Sco),SC E c vars s.l→GS E S' vars→Bd E c s.p→Bnd s S'.wt→∀e:Frm,CH 133 [.ptr e.k 0 0,.vec S'.len (p5 S')] (hT e (z9 e.k s) (s).code (s).sites) (.tup []) (hT e (z9 e.k (cQ s.l s S')) ((cQ s.l s S')).code ((cQ s.l s S')).sites)):CH 133 [.ptr e.k 0 0,.vec S.len (p5 S)] (hT e (z9 e.k s) s.code s.sites) (.tup []) (hT e (z9 e.k (cQ s.l s S)) ((cQ s.l s S)).code ((cQ s.l s S)).sites):=by
  refine .wz Tryz.f133 253 ?_;have hlw:=dG S;refine c18z ?_;refine .aB (fun m st=>∃(Z:Sl) (pre:Sl) (rst:Sl) (vs:List BA) (cur:Sco),(m=rst.len∧(Z=S∧S=pre.app rst∧GS E rst vs∧SC E c vs cur.l∧cur.p=s.p∧Bnd cur rst.wt∧cQ s.l cur rst=cQ s.l s S))∧st=⟨mkS 253 [(0,AV.ptr e.k 0 0),(1,AV.vec (Go.Un.Sl.len Z) (p5 Z)),(4,AV.vec s.l.length (j5 s.l)),(5,AV.int .i64 ((pre.len:Nat):Int))],hT e (z9 e.k cur) cur.code cur.sites⟩) (.v ⟨S,Sl.nil,S,vars,s,⟨rfl,⟨rfl,rfl,hG0,sc0,rfl,B0,rfl⟩⟩,rfl⟩ (hs:=t10) (hr:=t98)) ?_;rintro m sl h' ⟨Z,pre,rst,vs,cur,⟨hm,⟨hZ,hS,hG,sc,hp,B,hF⟩⟩,hst⟩;obtain ⟨rfl,rfl⟩:=St.mk.inj hst;clear hst;subst hZ;have hlen:=congrArg Go.Un.Sl.len hS;rw[Go.Un.Sl.bZ]at hlen;refine c1z ?_;refine u2z ?_ ?_
  ·intro e1 qe1;refine c117z ?_;obtain ⟨k,n,a,r,xs,th,el,rest,rfl⟩:=Go.Un.Sl.oV (s:=rst) (by omega);subst hS;have hwc:=@T9 pre k n a r xs th el rest;have hlc:=@w9 pre k n a r xs th el rest;obtain ⟨s2,vs2,r1,r2,r3,r4,r5,hrun⟩:=SU (e:=e) (l0:=s.l) (pre:=pre) sc (by rw[hp];exact bd) hG B (fun T hT hgT s' q1 q2 q3 e'=>ih T (by rcases hT with rfl | rfl<;>omega) _ s' q1 hgT (by rw[q2,hp];exact bd) q3 e');refine c9.fitS [(0,AV.ptr e.k 0 0),(1,AV.vec (Go.Un.Sl.len (pre.app (.cons k n a r xs th el rest))) (p5 (pre.app (.cons k n a r xs th el rest)))),(4,AV.vec s.l.length (j5 s.l)),(5,AV.int .i64 ((pre.len:Nat):Int))] ?_;refine c9.led (hrun) ?_;intro lq hq haq;change c9 ..;refine c9.fitS [(0,AV.ptr e.k 0 0),(1,AV.vec (Go.Un.Sl.len (pre.app (.cons k n a r xs th el rest))) (p5 (pre.app (.cons k n a r xs th el rest)))),(4,AV.vec s.l.length (j5 s.l)),(5,AV.int .i64 ((pre.len:Nat):Int))] ?_ haq;refine .rz ?_;exact ⟨_,by omega,.v ⟨_,(pre.app (.cons k n a r xs th el .nil)),rest,vs2,s2,⟨rfl,⟨rfl,eL,r2,r1,r3.trans hp,r4,r5.trans hF⟩⟩,rfl⟩ (he:=by rfl) (hl:=by simp only[aJ];exact Nat.le_refl _) (hk:=by exact hT_keep rfl) (hs:=t10) (hr:=t98)⟩
  intro e1 qe1;refine .exit ?_;have hr0:rst=.nil:=Sl.zX (by omega);subst hr0;refine c230z ?_;refine Ends.n ?_;exact ⟨hT e ⟨0,false,198,10,[.vec cur.p.globals.length (q9 cur.p.globals),.vec cur.p.c4.length (g0 cur.p.c4),.vec cur.p.funcs.length (o5 cur.p.funcs),.vec s.l.length (j5 s.l),.int .i64 cur.loc,.int .i64 cur.st,.int .i64 0,.int .i64 0,.own (e.k+1) cur.code.length 0 cur.code.length,.own (e.k+2) cur.sites.length 0 cur.sites.length],0⟩ cur.code cur.sites,[],_,(List.append_nil _).symm,by (simp only[aJ];exact Nat.le_refl _),(C1 (gZ.get ⟨.vec _ _,.vec _ _,.vec _ _,.vec _ _,.int _ _,.int _ _,.int _ _,.int _ _,.own _ _ _ _ e.lt.2.1,.own _ _ _ _ e.lt.2.2,trivial⟩)),rfl,by rw[←hF,fin_nil];exact ⟨rfl,rfl⟩⟩
theorem BL {E:Env}{c:Ctx}:∀(n:Nat) (S:Sl),S.wt≤n→n≤1000→∀(vars:List BA) (s:Sco),SC E c vars s.l→GS E S vars→Bd E c s.p→Bnd s S.wt→∀e:Frm,CH 133 [.ptr e.k 0 0,.vec S.len (p5 S)] (hT e (z9 e.k s) (s).code (s).sites) (.tup []) (hT e (z9 e.k (cQ s.l s S)) ((cQ s.l s S)).code ((cQ s.l s S)).sites)
  | n,S,hn,h1,vars,s,sc,hG,bd,B,e=>by
    refine SV S (by omega) vars s sc hG bd B e (fun S' hS'=>?_);cases n with
    | zero=>omega
    | succ n=>exact BL n S' (by omega) (by omega)
end Go.Proofs.YtonbocmibeikmaaGreat
end
