/- My own texts, put together by a program of mine. -/
import Derived.Test.YtonbocmibeikmaaGreatRS3
set_option linter.unusedSimpArgs false
set_option linter.unusedVariables false
set_option maxRecDepth 100000
set_option maxHeartbeats 4000000
section
namespace Go.Proofs.YtonbocmibeikmaaGreat
open Go.Ab Go.Un
theorem DU {l:List Ex}{x:Ex}:n7 (l++[x])=n7 l++s8 x:=by simp[n7]
theorem S9 {l:List Pl}{x:Pl}:dP (l++[x])=dP l++I8 x:=by simp[dP]
section
variable {e:Frm}{b b0 b1 b2 b3 b4 b5 b6:Blk}{c:List Ins}{ss:List Int}{l:c7}{es:List Ex}{x:Ex}{ps:List Pl}{p:Pl}{g n:Nat}
theorem JI (hn:es.length=n)(hl:n<100000):j6 cfg 49 (hT e b c ss++(b0::b1::b2::b3::p9 49 4 g (n7 es)::b5::b6::⟨0,false,49,4,s8 x,0⟩::l)) (.own (e.n+4) g 0 n) (.own (e.n+7) 0 0 1)=some (.own (e.n+4) (g+1) 0 (n+1),hT e b c ss++(b0::b1::b2::b3::p9 49 4 (g+1) (n7 (es++[x]))::b5::b6::⟨0,false,49,4,s8 x,0⟩::l)):=by subst hn;rw[u7 (C:=cfg) (K:=4) (m:=1) (new:=s8 x) (zs:=n7 es) (by rw[eC];rfl) rfl (by omega) (by rw[bD,Nat.mul_comm]) (by rw[o2]) (by omega) (by simp[rd,eC,o2,fY]) rfl (by decide) (by omega),←DU,gX];rfl
theorem JJ (hn:ps.length=n)(hl:n<100000):j6 cfg 51 (hT e b c ss++(b0::b1::b2::b3::b4::p9 51 3 g (dP ps)::b6::⟨0,false,51,3,[.bool p.param,.int .i64 p.index,.vec p.at'.length (n7 p.at')],0⟩::l)) (.own (e.n+5) g 0 n) (.own (e.n+7) 0 0 1)=some (.own (e.n+5) (g+1) 0 (n+1),hT e b c ss++(b0::b1::b2::b3::b4::p9 51 3 (g+1) (dP (ps++[p]))::b6::⟨0,false,51,3,[.bool p.param,.int .i64 p.index,.vec p.at'.length (n7 p.at')],0⟩::l)):=by subst hn;rw[u7 (C:=cfg) (K:=3) (m:=1) (new:=I8 p) (zs:=dP ps) (by rw[eC];rfl) rfl (by omega) t207 rfl (by omega) (by simp[rd,eC,I8]) rfl (by decide) (by omega),←S9,gX];rfl
end
theorem hT_same {e:Frm}{b:Blk}{c:List Ins}{ss:List Int}{l l':c7}(hl:nL (e.n+l'.length) l l'):v5 (hT e b c ss++l) (hT e b c ss++l'):=
  (v5.refl _).app rfl (by rw[aG];exact hl)
variable {E:Env}{vars:List BA}{xs:List Ar}
theorem GAs.mu {ps:List Pm}(h:GAs E vars ps xs):ps.length=xs.length∧∀i,i<xs.length→(xs.getD i dO).mu=(ps.getD i iA).mu:=by
  induction ps generalizing xs with
  | nil=>
    cases xs with
    | nil=>exact ⟨rfl,fun i hi=>by simp at hi⟩
    | cons=>exact h.elim
  | cons p ps ih=>
    cases xs with
    | nil=>exact h.elim
    | cons a xs=>
      obtain ⟨⟨h1,_⟩,h3⟩:=h;obtain ⟨i1,i2⟩:=ih h3;refine ⟨by simp[i1],fun i hi=>?_⟩;cases i with
      | zero=>exact h1
      | succ i=>exact i2 i (by simpa using hi)
theorem ar_is {ps:List Pm}(h:GAs E vars ps xs){i:Nat}(hi:i<xs.length):((xs.getD i dO).mu=true→GR E vars (xs.getD i dO).r)∧((xs.getD i dO).mu=false→GE vars 2 (xs.getD i dO).e):=by
  induction ps generalizing xs i with
  | nil=>
    cases xs with
    | nil=>simp at hi
    | cons=>exact h.elim
  | cons p ps ih=>
    cases xs with
    | nil=>exact h.elim
    | cons a xs=>
      obtain ⟨⟨h1,h2⟩,h3⟩:=h;cases i with
      | succ i=>exact ih h3 (by simpa using hi)
      | zero=>
        simp only[List.getD_cons_zero];rcases h2 with ⟨q1,q2,_⟩ | ⟨q1,_,q3⟩
        · exact ⟨fun _=>q2,fun h=>absurd ((h1.trans q1).symm.trans h) (by decide)⟩
        · exact ⟨fun h=>absurd ((h1.trans q1).symm.trans h) (by decide),fun _=>q3⟩
variable {i:Nat}
theorem B4 (hi:i<xs.length):xs.drop i=xs.getD i dO::xs.drop (i+1):=by rw[List.drop_eq_getElem_cons hi];simp[List.getD,hi]
theorem cEx_t {l:List Ent}(hi:i<xs.length)(h:(xs.getD i dO).mu=true){es:List Ex}(he:aS l xs=es++aS l (xs.drop i)):aS l xs=es++aS l (xs.drop (i+1)):=by rw[he,B4 hi,aS,if_pos h]
theorem cEx_f {l:List Ent}(hi:i<xs.length)(h:(xs.getD i dO).mu=false){es:List Ex}(he:aS l xs=es++aS l (xs.drop i)):aS l xs=(es++[fR l (xs.getD i dO).e])++aS l (xs.drop (i+1)):=by rw[he,B4 hi,aS,if_neg t198];simp
theorem cPl_t {l:List Ent}(hi:i<xs.length)(h:(xs.getD i dO).mu=true){ps:List Pl}(he:z6 l xs=ps++z6 l (xs.drop i)):z6 l xs=(ps++[qY l (xs.getD i dO).r])++z6 l (xs.drop (i+1)):=by rw[he,B4 hi,z6,if_pos h];simp
theorem cPl_f {l:List Ent}(hi:i<xs.length)(h:(xs.getD i dO).mu=false){ps:List Pl}(he:z6 l xs=ps++z6 l (xs.drop i)):z6 l xs=ps++z6 l (xs.drop (i+1)):=by rw[he,B4 hi,z6,if_neg t198]
theorem AS {l:List Ar}(h:i<l.length):List.take 7 (List.drop (i*7) (bE l))=[.bool (l.getD i dO).mu,.str (l.getD i dO).r.name,.vec (l.getD i dO).r.idx.length (n7 (l.getD i dO).r.idx),.int .i64 (l.getD i dO).e.op,.int .i64 (l.getD i dO).e.num,.str (l.getD i dO).e.name,.vec (l.getD i dO).e.args.length (n7 (l.getD i dO).e.args)]:=by rw[uS h,vI]
variable {s:Sco}
theorem RX (hl:s.l.length<1000000)(t:Int)(hv:∀x∈vars,∃v,bP s.l x=some v∧(v.kind=1∨v.kind=4)){d:Nat}{a:Ex}(g:GE vars d a)(e:Frm):CB 166 [.ptr e.k 0 0,.agg [.int .i64 a.op,.int .i64 a.num,.str a.name,.vec a.args.length (n7 a.args)],.int .i64 t] (hT e (z8 e.k s) s.code s.sites) (.agg (s8 (fR s.l a))):=by rw[←bN];exact My hl t hv g e
theorem JK {e:Frm}(hl:s.l.length<1000000)(t:Int){c:Ctx}(sc:SC E c vars s.l)(hE:E.mutexes=s.p.mutexes)(hc:c.nm=s.p.mutexes.length){r:Rf}(g:GR E vars r):CB 169 [.ptr e.k 0 0,.agg [.str r.name,.vec r.idx.length (n7 r.idx)],.int .i64 t] (hT e (z8 e.k s) s.code s.sites) (.agg [.bool (qY s.l r).param,.int .i64 (qY s.l r).index,.vec (qY s.l r).at'.length (n7 (qY s.l r).at')]):=c_refL hl t sc hE hc g
attribute [local go_sem] rd s6 o2 bD cM u4 aR fQ dI p8 bA aM l8 bF Int.natCast_nonneg Int.natCast_inj List.length_map wrap64 fY jA jB AB J4 R3 AD zZ max2 eY cR bH Nat.reduceMul mY kA z8 iM pS lC vL aG hT_0 hT_1 hT_2 RS RT RU eC B2 gX S6 RV AO nB K7 AR JI JJ
section
attribute [local go_sem] K7 AR
theorem c_put {e:Frm}(hc:s.code.length<10000)(hs:s.sites.length<10000)(i:Ins)(t:Int):CH 134 [.ptr e.k 0 0,.agg (eM i),.int .i64 t] (hT e (z8 e.k s) s.code s.sites) (.int .i64 ((s.code.length:Nat):Int)) (hT e (z8 e.k {s with code:=s.code++[i],sites:=s.sites++[t]}) (s.code++[i]) (s.sites++[t])):=by rw[lD];refine .wz Tryz.f134 33 ?_;refine .z ?_;refine .sg u9 (mkH 22 [0,0,0,4,12,28,0,64,252,0,512,1536,3584,0,8192,32764,65533,131069,262141,524287,1048575,2097151] [7,8,14,15,18,21] [(7,0),(14,1)] [0,128,384,16384,16512,16768,49536,311680,2408832] [0,1,2,3,4,5,6,7,8,9,10,11,12]) 2 ?_;refine .p 5 ?_;refine .rm [true] ?_;refine .rm [true] ?_;refine .em [true] [128,0] [_] ?_;refine .em [true,false] [384,128,0] [_] ?_;refine .p 3 ?_;refine .rm [true,true,true] ?_;refine .p 1 ?_;refine .en [true,true,true] [16768,16512,16384,384,128,0] [_,_,_] ?_;refine .en [true,false,false,false,false,false] [49536,16768,16512,16384,384,128,0] [_] ?_;refine .p 2 ?_;refine .en [true,false,false,false,false,false,false] [311680,49536,16768,16512,16384,384,128,0] [_] ?_;refine .p 2 ?_;refine .en [true,false,false,false,false,false,false,false] [2408832,311680,49536,16768,16512,16384,384,128,0] [_] ?_;refine .po [false,false,false,true,true,true,true,true,true] ?_;refine .po [false,false,false,false,true,false,false,true,false] ?_;refine .po [false,false,false,false,false,true,false,false,true] ?_;refine .po [false,false,false,false,false,true,false,false,true] ?_;refine .po [false,false,false,false,true,true,false,true,true] ?_;refine w8.nil rfl ?_;refine .c5 [0] ?_;refine c24z ?_;exact ⟨hT _ _ _ _,_,_,rfl,by (simp only[aG];exact Nat.le_refl _),(B3 (gK.get ⟨.vec _ _,.vec _ _,.vec _ _,.vec _ _,.int _ _,.int _ _,.int _ _,.int _ _,.own _ _ _ _ e.lt.2.1,.own _ _ _ _ e.lt.2.2,trivial⟩)),t2,by exact ⟨congrArg (AV.int .i64) (by omega),by simp only[z8,List.length_append,List.length_cons,List.length_nil]⟩⟩
end
section
attribute [local go_sem] nB AS JI JJ
theorem c_call3 {e:Frm}(hl:s.l.length<1000000)(t:Int){c:Ctx}(sc:SC E c vars s.l)(hE:E.mutexes=s.p.mutexes)(hc:c.nm=s.p.mutexes.length){x y:BA}{n:Int}(hf:bP s.l x=some ⟨y,3,n⟩)(hn:0≤n∧n<s.p.funcs.length){ps:List Pm}(hp:(s.p.funcs.getD n.toNat j0).params=ps)(hp2:ps.length≤2)(ha:GAs E vars ps xs):CB 168 [.ptr e.k 0 0,.agg [.int .i64 3,.str x,.int .i64 0,.int .i64 0,.str ByteArray.empty,.vec 0 [],.str ByteArray.empty,.vec 0 [],.vec xs.length (bE xs),.vec 0 [],.vec 0 []],.int .i64 t] (hT e (z8 e.k s) s.code s.sites) (.agg (eM ⟨2,n,false,l4,bW,aS s.l xs,z6 s.l xs⟩)):=by
  refine .bz Tryz.f168 112 ?_;refine c65z ?_;refine c0z ?_;refine c20z ?_;refine c26z ?_;refine c123z ?_;refine c249z ?_;refine .sb ?_;refine .c5 [0,2,4,6,7,8,9] ?_;refine c121z ?_;refine c4z ?_;refine c165z ?_;refine .ss u9 (mkP 11 [0,1,3,7,15,0,32,127,255,511,1023] []) ?_;refine c50z ?_;refine .seq ?_;refine .c5 [0,2,4,6,7,10,54] ?_;have hml:=GAs.mu ha;have hml1:=hml.1;rw[hp];refine .z ?_;refine .spl 61 rfl rfl (fun e1=>by exfalso;have hml1:=(GAs.mu ha).1;have q:=fact e1;omega) (fun e1=>?_);try simp only[e1]
  have qe1:=fact e1;refine c20z ?_;refine c5z ?_;refine c8.mE (β:=e.n+2) (k:=10) t91 rfl ?_;simp only[List.append_assoc,List.cons_append,List.nil_append,eC,gX,List.set_cons_succ,List.set_cons_zero,List.length_append,aG,List.length_cons,List.length_nil,Nat.reduceAdd,Nat.zero_add];refine c8.mE (β:=e.n+2) (k:=11) t91 rfl ?_;simp only[List.append_assoc,List.cons_append,List.nil_append,eC,gX,List.set_cons_succ,List.set_cons_zero,List.length_append,aG,List.length_cons,List.length_nil,Nat.reduceAdd,Nat.zero_add];refine .u0 (fun m st=>∃(q:Nat) (es:List Ex) (ps':List Pl) (gi:Nat) (gp:Nat),(m=ps.length-q∧(q≤ps.length∧aS s.l xs=es++aS s.l (xs.drop q)∧z6 s.l xs=ps'++z6 s.l (xs.drop q)∧es.length≤q∧ps'.length≤q))∧st=⟨mkS 112 [(0,AV.ptr e.k 0 0),(2,AV.int .i64 t),(4,AV.ptr e.n 0 0),(6,AV.ptr (e.n+1) 0 0),(7,AV.ptr (e.n+2) 0 0),(10,AV.vec ps.length (v9 ps)),(11,AV.int .i64 ((q:Nat):Int))],(hT e (z8 e.k s) s.code s.sites)++[⟨0,false,190,11,[.int .i64 3,.str x,.int .i64 0,.int .i64 0,.str ByteArray.empty,.vec 0 [],.str ByteArray.empty,.vec 0 [],.vec xs.length (bE xs),.vec 0 [],.vec 0 []],0⟩,⟨0,false,54,12,[.int .i64 0,.int .i64 0,.bool false,.int .i64 0,.int .i64 0,.str ByteArray.empty,.nils,.bool false,.int .i64 0,.nils,.nils,.nils],0⟩,⟨0,false,54,12,[.int .i64 2,.int .i64 n,.bool false,.int .i64 0,.int .i64 0,.str ByteArray.empty,.nils,.bool false,.int .i64 0,.nils,.own (e.n+4) gi 0 es.length,.own (e.n+5) gp 0 ps'.length],0⟩,⟨0,false,145,3,[.str y,.int .i64 3,.int .i64 n],0⟩,p9 49 4 gi (n7 es),p9 51 3 gp (dP ps')]⟩) (.v ⟨0,([]:List Ex),([]:List Pl),0,0,⟨rfl,⟨by omega,by simp,by simp,by simp,by simp⟩⟩,rfl⟩ (hr:=t19)) ?_;rintro m sl h' ⟨q,es,ps',gi,gp,⟨hm,⟨hq,hes,hps,hel,hpl⟩⟩,hst⟩;obtain ⟨rfl,rfl⟩:=St.mk.inj hst;clear hst;refine c0z ?_;refine u2z ?_ ?_
  ·intro e2 qe2;refine c2z ?_;have har:=ar_is ha (i:=q) (by omega);refine c19z ?_;refine .c5 [0,2,4,6,7,10,11,12] ?_;refine .ss u9 (mkP 8 [0,1,0,0,12,28,60,127] []) ?_;refine .n [] ?_;refine .spl 84 rfl rfl (fun e3=>by exfalso;have hml2:=(GAs.mu ha).2 q (by omega);simp_all) (fun e3=>?_);try simp only[e3]
   have qe3:=fact e3;refine c20z ?_;refine .c5 [0,2,4,6,7,10,11,12] ?_;refine .z ?_;refine u2z ?_ ?_
   ·intro e4 qe4;have hmu:(xs.getD q dO).mu=true:=by assumption
    refine c52z ?_;refine c33z ?_;refine c167z ?_;refine .cn [true] [64,0] [_] rfl rfl t150 ?_;refine c92z ?_;refine c114z ?_;refine c55z ?_;refine c185z ?_;refine .rz ?_;exact ⟨_,by omega,.v ⟨(q+1),es,(ps'++[qY s.l (xs.getD q dO).r]),gi,(gp+1),⟨rfl,⟨by omega,cEx_t (by omega) hmu hes,cPl_t (by omega) hmu hps,by omega,t55⟩⟩,rfl⟩ (he:=t38) (hl:=t97) (hk:=t32) (hr:=t19)⟩
   intro e4 qe4;have hmu:(xs.getD q dO).mu=false:=by assumption
   refine c52z ?_;refine c33z ?_;refine c167z ?_;refine .cn [true] [64,0] [_] rfl rfl t151 ?_;refine c92z ?_;refine c114z ?_;refine c55z ?_;refine c185z ?_;refine .rz ?_;exact ⟨_,by omega,.v ⟨(q+1),(es++[fR s.l (xs.getD q dO).e]),ps',(gi+1),gp,⟨rfl,⟨by omega,cEx_f (by omega) hmu hes,cPl_f (by omega) hmu hps,t55,by omega⟩⟩,rfl⟩ (he:=t38) (hl:=t97) (hk:=t32) (hr:=t19)⟩
  intro e2 qe2;refine .exit ?_;obtain rfl:q=ps.length:=by omega
  rw[List.drop_of_length_le (by omega)]at hes hps;simp only[aS,z6,List.append_nil]at hes hps;refine c8.nM (γ:=e.n+4) (β:=e.n+2) (k:=10) (len:=es.length) t91 (by rw[bD,Nat.mul_comm]) (by omega) (Ba _) t91 (by omega) rfl ?_;simp only[List.append_assoc,List.cons_append,List.nil_append,eC,gX,List.set_cons_succ,List.set_cons_zero,List.length_append,aG,List.length_cons,List.length_nil,Nat.reduceAdd,Nat.zero_add];refine c8.nM (γ:=e.n+5) (β:=e.n+2) (k:=11) (len:=ps'.length) t91 t207 (by omega) (JG _) t91 (by omega) rfl ?_;simp only[List.append_assoc,List.cons_append,List.nil_append,eC,gX,List.set_cons_succ,List.set_cons_zero,List.length_append,aG,List.length_cons,List.length_nil,Nat.reduceAdd,Nat.zero_add];generalize fM 49 4 gi (n7 es) (es.length*4)=Eb;generalize fM 51 3 gp (dP ps') (ps'.length*3)=Pb;change c8 ..;refine c238z ?_;exact .ret (.ex (hf:=t2) (hq:=t208))
end
section
attribute [local go_sem] nB AS JI JJ
theorem c_call4 {e:Frm}(hl:s.l.length<1000000)(t:Int){c:Ctx}(sc:SC E c vars s.l)(hE:E.mutexes=s.p.mutexes)(hc:c.nm=s.p.mutexes.length){x y:BA}{n:Int}(hf:bP s.l x=some ⟨y,3,n⟩)(hn:0≤n∧n<s.p.funcs.length){ps:List Pm}(hp:(s.p.funcs.getD n.toNat j0).params=ps)(hp2:ps.length≤2)(ha:GAs E vars ps xs):CB 168 [.ptr e.k 0 0,.agg [.int .i64 4,.str x,.int .i64 0,.int .i64 0,.str ByteArray.empty,.vec 0 [],.str ByteArray.empty,.vec 0 [],.vec xs.length (bE xs),.vec 0 [],.vec 0 []],.int .i64 t] (hT e (z8 e.k s) s.code s.sites) (.agg (eM ⟨3,n,false,l4,bW,aS s.l xs,z6 s.l xs⟩)):=by
  refine .bz Tryz.f168 112 ?_;refine c65z ?_;refine c0z ?_;refine .T ?_;refine c1z ?_;refine c26z ?_;refine c123z ?_;refine c249z ?_;refine .sb ?_;refine .c5 [0,2,4,6,7,8,9] ?_;refine c121z ?_;refine c4z ?_;refine c165z ?_;refine .ss u9 (mkP 11 [0,1,3,7,15,0,32,127,255,511,1023] []) ?_;refine c50z ?_;refine .seq ?_;refine .c5 [0,2,4,6,7,10,54] ?_;have hml:=GAs.mu ha;have hml1:=hml.1;rw[hp];refine .z ?_;refine .spl 61 rfl rfl (fun e1=>by exfalso;have hml1:=(GAs.mu ha).1;have q:=fact e1;omega) (fun e1=>?_);try simp only[e1]
  have qe1:=fact e1;refine c20z ?_;refine c5z ?_;refine c8.mE (β:=e.n+2) (k:=10) t91 rfl ?_;simp only[List.append_assoc,List.cons_append,List.nil_append,eC,gX,List.set_cons_succ,List.set_cons_zero,List.length_append,aG,List.length_cons,List.length_nil,Nat.reduceAdd,Nat.zero_add];refine c8.mE (β:=e.n+2) (k:=11) t91 rfl ?_;simp only[List.append_assoc,List.cons_append,List.nil_append,eC,gX,List.set_cons_succ,List.set_cons_zero,List.length_append,aG,List.length_cons,List.length_nil,Nat.reduceAdd,Nat.zero_add];refine .u0 (fun m st=>∃(q:Nat) (es:List Ex) (ps':List Pl) (gi:Nat) (gp:Nat),(m=ps.length-q∧(q≤ps.length∧aS s.l xs=es++aS s.l (xs.drop q)∧z6 s.l xs=ps'++z6 s.l (xs.drop q)∧es.length≤q∧ps'.length≤q))∧st=⟨mkS 112 [(0,AV.ptr e.k 0 0),(2,AV.int .i64 t),(4,AV.ptr e.n 0 0),(6,AV.ptr (e.n+1) 0 0),(7,AV.ptr (e.n+2) 0 0),(10,AV.vec ps.length (v9 ps)),(11,AV.int .i64 ((q:Nat):Int))],(hT e (z8 e.k s) s.code s.sites)++[⟨0,false,190,11,[.int .i64 4,.str x,.int .i64 0,.int .i64 0,.str ByteArray.empty,.vec 0 [],.str ByteArray.empty,.vec 0 [],.vec xs.length (bE xs),.vec 0 [],.vec 0 []],0⟩,⟨0,false,54,12,[.int .i64 0,.int .i64 0,.bool false,.int .i64 0,.int .i64 0,.str ByteArray.empty,.nils,.bool false,.int .i64 0,.nils,.nils,.nils],0⟩,⟨0,false,54,12,[.int .i64 3,.int .i64 n,.bool false,.int .i64 0,.int .i64 0,.str ByteArray.empty,.nils,.bool false,.int .i64 0,.nils,.own (e.n+4) gi 0 es.length,.own (e.n+5) gp 0 ps'.length],0⟩,⟨0,false,145,3,[.str y,.int .i64 3,.int .i64 n],0⟩,p9 49 4 gi (n7 es),p9 51 3 gp (dP ps')]⟩) (.v ⟨0,([]:List Ex),([]:List Pl),0,0,⟨rfl,⟨by omega,by simp,by simp,by simp,by simp⟩⟩,rfl⟩ (hr:=t19)) ?_;rintro m sl h' ⟨q,es,ps',gi,gp,⟨hm,⟨hq,hes,hps,hel,hpl⟩⟩,hst⟩;obtain ⟨rfl,rfl⟩:=St.mk.inj hst;clear hst;refine c0z ?_;refine u2z ?_ ?_
  ·intro e2 qe2;refine c2z ?_;have har:=ar_is ha (i:=q) (by omega);refine c19z ?_;refine .c5 [0,2,4,6,7,10,11,12] ?_;refine .ss u9 (mkP 8 [0,1,0,0,12,28,60,127] []) ?_;refine .n [] ?_;refine .spl 84 rfl rfl (fun e3=>by exfalso;have hml2:=(GAs.mu ha).2 q (by omega);simp_all) (fun e3=>?_);try simp only[e3]
   have qe3:=fact e3;refine c20z ?_;refine .c5 [0,2,4,6,7,10,11,12] ?_;refine .z ?_;refine u2z ?_ ?_
   ·intro e4 qe4;have hmu:(xs.getD q dO).mu=true:=by assumption
    refine c52z ?_;refine c33z ?_;refine c167z ?_;refine .cn [true] [64,0] [_] rfl rfl t150 ?_;refine c92z ?_;refine c114z ?_;refine c55z ?_;refine c185z ?_;refine .rz ?_;exact ⟨_,by omega,.v ⟨(q+1),es,(ps'++[qY s.l (xs.getD q dO).r]),gi,(gp+1),⟨rfl,⟨by omega,cEx_t (by omega) hmu hes,cPl_t (by omega) hmu hps,by omega,t55⟩⟩,rfl⟩ (he:=t38) (hl:=t97) (hk:=t32) (hr:=t19)⟩
   intro e4 qe4;have hmu:(xs.getD q dO).mu=false:=by assumption
   refine c52z ?_;refine c33z ?_;refine c167z ?_;refine .cn [true] [64,0] [_] rfl rfl t151 ?_;refine c92z ?_;refine c114z ?_;refine c55z ?_;refine c185z ?_;refine .rz ?_;exact ⟨_,by omega,.v ⟨(q+1),(es++[fR s.l (xs.getD q dO).e]),ps',(gi+1),gp,⟨rfl,⟨by omega,cEx_f (by omega) hmu hes,cPl_f (by omega) hmu hps,t55,by omega⟩⟩,rfl⟩ (he:=t38) (hl:=t97) (hk:=t32) (hr:=t19)⟩
  intro e2 qe2;refine .exit ?_;obtain rfl:q=ps.length:=by omega
  rw[List.drop_of_length_le (by omega)]at hes hps;simp only[aS,z6,List.append_nil]at hes hps;refine c8.nM (γ:=e.n+4) (β:=e.n+2) (k:=10) (len:=es.length) t91 (by rw[bD,Nat.mul_comm]) (by omega) (Ba _) t91 (by omega) rfl ?_;simp only[List.append_assoc,List.cons_append,List.nil_append,eC,gX,List.set_cons_succ,List.set_cons_zero,List.length_append,aG,List.length_cons,List.length_nil,Nat.reduceAdd,Nat.zero_add];refine c8.nM (γ:=e.n+5) (β:=e.n+2) (k:=11) (len:=ps'.length) t91 t207 (by omega) (JG _) t91 (by omega) rfl ?_;simp only[List.append_assoc,List.cons_append,List.nil_append,eC,gX,List.set_cons_succ,List.set_cons_zero,List.length_append,aG,List.length_cons,List.length_nil,Nat.reduceAdd,Nat.zero_add];generalize fM 49 4 gi (n7 es) (es.length*4)=Eb;generalize fM 51 3 gp (dP ps') (ps'.length*3)=Pb;change c8 ..;refine c238z ?_;exact .ret (.ex (hf:=t2) (hq:=t208))
end
end Go.Proofs.YtonbocmibeikmaaGreat
end
section
namespace Go.Proofs.YtonbocmibeikmaaGreat
open Go.Ab Go.Un
def cI:Sl→Int→List Int
  | .nil,_=>[]
  | .cons k n e r xs th el rest,t=>
    if k=7 then t::(cI th (t+1)++((if 0<el.len then t::cI el (t+1+(th.wt:Int)) else [])++cI rest (t+1+(th.wt:Int)+(el.wt:Int))))
    else if k=8 then t::(cI th (t+1)++(t::cI rest (t+1+(th.wt:Int))))
    else t::cI rest (t+1)
theorem iI:∀(S:Sl) (t:Int),(cI S t).length≤2*S.wt
  | .nil,t=>by simp[cI]
  | .cons k n e r xs th el rest,t=>by
    have h1:=iI th (t+1);have h2:=iI el (t+1+(th.wt:Int));have h3:=iI rest (t+1+(th.wt:Int)+(el.wt:Int));have h4:=iI rest (t+1+(th.wt:Int));have h5:=iI rest (t+1);unfold cI;simp only[Sl.wt];split
    · split<;>simp only[List.length_cons,List.length_append,List.length_nil]<;>omega
    · split<;>simp only[List.length_cons,List.length_append]<;>omega
def sE (c:List Ins)(i:Nat)(v:Int):List Ins:=c.set i { c.getD i g0 with target:=v }
theorem lE {c:List Ins}{i:Nat}{v:Int}:(sE c i v).length=c.length:=by simp[sE]
theorem B5 {c d:List Ins}{x:Ins}{i:Nat}{v:Int}(hi:i=c.length):sE (c++(x::d)) i v=c++({ x with target:=v }::d):=by subst hi;simp[sE,List.getD]
def bJ (s:Sco):Sco:={ s with st:=s.st+1 }
def o4 (s:Sco)(i:Ins)(t:Int):Sco:={ s with code:=s.code++[i],sites:=s.sites++[t] }
def cK (s:Sco)(i:Nat)(v:Int):Sco:={ s with code:=sE s.code i v }
def rC (s:Sco)(n:BA):Sco:={ s with l:=s.l++[⟨n,4,s.loc⟩],loc:=s.loc+1 }
def cO (l0:List Ent)(s:Sco)(S:Sl):Sco:={ s with l:=l0,loc:=fT S s.loc,st:=s.st+(S.wt:Int),code:=s.code++o7 S s.l s.loc s.code.length,sites:=s.sites++cI S s.st }
variable {k:Nat}{s:Sco}
theorem tK {i:Nat}{v:Int}:z8 k (cK s i v)=z8 k s:=by simp only[z8,cK,lE]
variable {t:Int}
theorem RY {i:Ins}{n:BA}:z8 k (rC (o4 (bJ s) i t) n)=⟨0,false,198,10,[.vec s.p.globals.length (p4 s.p.globals),.vec s.p.mutexes.length (c9 s.p.mutexes),.vec s.p.funcs.length (n8 s.p.funcs),.vec (s.l.length+1) (j5 (s.l++[⟨n,4,s.loc⟩])),.int .i64 (s.loc+1),.int .i64 (s.st+1),.int .i64 0,.int .i64 0,.own (k+1) (s.code.length+1) 0 (s.code.length+1),.own (k+2) (s.sites.length+1) 0 (s.sites.length+1)],0⟩:=by simp only[z8,rC,o4,bJ,List.length_append,List.length_cons,List.length_nil,Nat.zero_add]
theorem B6:(z8 k s).gen=0:=rfl
theorem vM:(z8 k s).virt=false:=rfl
theorem vN:(z8 k s).elem=198:=rfl
theorem B7:(z8 k s).esz=10:=rfl
theorem B8:(z8 k s).frz=0:=rfl
theorem rD:(z8 k s).cells=[.vec s.p.globals.length (p4 s.p.globals),.vec s.p.mutexes.length (c9 s.p.mutexes),.vec s.p.funcs.length (n8 s.p.funcs),.vec s.l.length (j5 s.l),.int .i64 s.loc,.int .i64 s.st,.int .i64 0,.int .i64 0,.own (k+1) s.code.length 0 s.code.length,.own (k+2) s.sites.length 0 s.sites.length]:=rfl
theorem JL:(bJ s).l=s.l:=rfl
theorem AT:(bJ s).loc=s.loc:=rfl
theorem stSt_p:(bJ s).p=s.p:=rfl
theorem gP:(bJ s).code.length=s.code.length:=rfl
theorem eS:(bJ s).sites.length=s.sites.length:=rfl
theorem T3 {i:Ins}:(o4 s i t).l=s.l:=rfl
theorem vO {i:Ins}:(o4 s i t).loc=s.loc:=rfl
theorem AU {i:Ins}:(o4 s i t).st=s.st:=rfl
theorem stPut_p {i:Ins}:(o4 s i t).p=s.p:=rfl
theorem cC {i:Ins}:(o4 s i t).code.length=s.code.length+1:=by simp[o4]
theorem bQ {i:Ins}:(o4 s i t).sites.length=s.sites.length+1:=by simp[o4]
theorem stTgt_l {i:Nat}:(cK s i t).l=s.l:=rfl
theorem kB {i:Nat}:(cK s i t).code.length=s.code.length:=lE
theorem oF {i:Nat}:(cK s i t).sites.length=s.sites.length:=rfl
variable {l0:List Ent}{S:Sl}
theorem finS_l:(cO l0 s S).l=l0:=rfl
theorem finS_p:(cO l0 s S).p=s.p:=rfl
theorem iO:s.code.length≤(cO l0 s S).code.length∧(cO l0 s S).code.length≤s.code.length+2*S.wt:=by have:=eX S s.l s.loc s.code.length;simp only[cO,List.length_append];omega
theorem iJ:s.sites.length≤(cO l0 s S).sites.length∧(cO l0 s S).sites.length≤s.sites.length+2*S.wt:=by have:=iI S s.st;simp only[cO,List.length_append];omega
theorem rT:∀(S:Sl) (n:Int),n≤fT S n∧fT S n≤n+(S.wt:Int)
  | .nil,n=>by simp[fT,Sl.wt]
  | .cons k nm e r xs th el rest,n=>by
    have r1:=rT rest (n+1);have r2:=rT rest (fT el (fT th n));have r3:=rT rest (fT th n);have r4:=rT rest n;have t1:=rT th n;have e1:=rT el (fT th n);simp only[fT,Sl.wt];split
    · omega
    · split
      · omega
      · split<;>omega
structure Bnd (s:Sco)(W:Nat):Prop where
  lp:0<s.l.length
  lb:s.l.length+W≤900
  cb:s.code.length+2*W≤5000
  sb:s.sites.length+2*W≤5000
  o0:0≤s.loc
  ob:s.loc+(W:Int)≤5000
  t0:0≤s.st
  tb:s.st+(W:Int)≤5000
structure Bd (E:Env)(c:Ctx)(p:Go.Un.Pg):Prop where
  hE:E.mutexes=p.mutexes
  hc:c.nm=p.mutexes.length
  hf:E.funcs=p.funcs.map fun f=>(f.name,f.params)
  fp:∀f∈E.funcs,f.2.length≤2
theorem Sco.eq {a b:Sco}(h1:a.p=b.p)(h2:a.l=b.l)(h3:a.loc=b.loc)(h4:a.st=b.st)(h5:a.code=b.code)(h6:a.sites=b.sites):a=b:=by cases a;cases b;simp_all
variable {rest:Sl}
theorem fin_var {n:BA}{e:Ex}:cO l0 (rC (o4 (bJ s) ⟨1,s.loc,false,fR s.l e,bW,[],[]⟩ s.st) n) rest=cO l0 s (.cons 1 n e n5 [] .nil .nil rest):=by
  refine Sco.eq rfl rfl ?_ ?_ ?_ ?_
  · simp only[cO,rC,o4,bJ,fT,if_true]
  · simp only[cO,rC,o4,bJ,Sl.wt];omega
  · simp only[cO,rC,o4,bJ,o7,if_true,List.append_assoc,List.cons_append,List.nil_append,List.length_append,List.length_cons,List.length_nil,Nat.zero_add]
  · simp only[cO,rC,o4,bJ,cI,show ¬(1:Int)=7 from by decide,show ¬(1:Int)=8 from by decide,if_false,List.append_assoc,List.cons_append,List.nil_append]
variable {r:Rf}{xs:List Ar}
theorem rE {i:Ins}{k:Int}{n:BA}{e:Ex}(h:o7 (.cons k n e r xs .nil .nil rest) s.l s.loc s.code.length=i::o7 rest s.l s.loc (s.code.length+1))(hk:k≠1∧k≠7∧k≠8):cO l0 (o4 (bJ s) i s.st) rest=cO l0 s (.cons k n e r xs .nil .nil rest):=by
  refine Sco.eq rfl rfl ?_ ?_ ?_ ?_
  · simp only[cO,o4,bJ,fT,hk.1,hk.2.1,hk.2.2,if_false]
  · simp only[cO,o4,bJ,Sl.wt];omega
  · simp only[cO,h,o4,bJ,List.append_assoc,List.cons_append,List.nil_append,List.length_append,List.length_cons,List.length_nil,Nat.zero_add]
  · simp only[cO,o4,bJ,cI,hk.2.1,hk.2.2,if_false,List.append_assoc,List.cons_append,List.nil_append]
theorem len_nil {s:Sl}:¬0<s.len↔s=.nil:=⟨fun h=>Sl.zP (by omega),fun h=>by subst h;simp[Go.Un.Sl.len]⟩
def dQ (s:Sco)(e:Ex)(th:Sl):Sco:=cO s.l (o4 (bJ s) ⟨6,0,false,fR s.l e,bW,[],[]⟩ s.st) th
def stJ (s:Sco)(e:Ex)(th:Sl):Sco:=o4 (dQ s e th) ⟨7,0,false,l4,bW,[],[]⟩ s.st
def dR (s:Sco)(e:Ex)(th el:Sl):Sco:=cO s.l (cK (stJ s e th) s.code.length ((stJ s e th).code.length:Int)) el
def D9 (s:Sco)(e:Ex)(th:Sl):Sco:=o4 (dQ s e th) ⟨7,((s.code.length:Nat):Int),false,l4,bW,[],[]⟩ s.st
variable {th:Sl}
theorem pU {e:Ex}:(dQ s e th).code=s.code++((⟨6,0,false,fR s.l e,bW,[],[]⟩:Ins)::o7 th s.l s.loc (s.code.length+1)):=by simp only[dQ,cO,o4,bJ,List.append_assoc,List.cons_append,List.nil_append,List.length_append,List.length_cons,List.length_nil,Nat.zero_add]
theorem pV {e:Ex}:(dQ s e th).code.length=s.code.length+1+(o7 th s.l s.loc (s.code.length+1)).length:=by rw[pU];simp;omega
theorem RZ {e:Ex}{v:Int}:(cK (stJ s e th) s.code.length v).code=s.code++((⟨6,v,false,fR s.l e,bW,[],[]⟩:Ins)::(o7 th s.l s.loc (s.code.length+1)++[⟨7,0,false,l4,bW,[],[]⟩])):=by simp only[cK,stJ,o4,pU,List.append_assoc,List.cons_append];exact B5 rfl
variable {el:Sl}
theorem vP {e:Ex}:(dR s e th el).code=s.code++((⟨6,((stJ s e th).code.length:Int),false,fR s.l e,bW,[],[]⟩:Ins)::(o7 th s.l s.loc (s.code.length+1)++(⟨7,0,false,l4,bW,[],[]⟩::o7 el s.l (fT th s.loc) ((dQ s e th).code.length+1)))):=by
  have h1:(cK (stJ s e th) s.code.length ((stJ s e th).code.length:Int)).code.length=(dQ s e th).code.length+1:=by simp only[cK,lE,stJ,o4,List.length_append,List.length_cons,List.length_nil,Nat.zero_add]
  show (cK (stJ s e th) s.code.length ((stJ s e th).code.length:Int)).code++o7 el s.l (fT th s.loc) _=_;rw[h1,RZ];simp only[List.append_assoc,List.cons_append,List.nil_append]
theorem stJ_len {e:Ex}:(stJ s e th).code.length=(dQ s e th).code.length+1:=by simp[stJ,o4]
theorem DV {e:Ex}:(dR s e th el).code.length=(dQ s e th).code.length+1+(o7 el s.l (fT th s.loc) ((dQ s e th).code.length+1)).length:=by rw[vP,pV];simp;omega
theorem fin_if {n:BA}{e:Ex}:cO l0 (cK (dQ s e th) s.code.length ((dQ s e th).code.length:Int)) rest=cO l0 s (.cons 7 n e r xs th .nil rest):=by
  have hne:¬(7:Int)=1∧¬(7:Int)=2∧¬((7:Int)=3∨(7:Int)=4)∧¬(7:Int)=5∧¬(7:Int)=6:=by decide
  have h0:¬0<Sl.nil.len:=by simp[Go.Un.Sl.len]
  refine Sco.eq rfl rfl ?_ ?_ ?_ ?_
  · simp only[cO,cK,dQ,o4,bJ,fT,hne.1,if_false,if_true]
  · simp only[cO,cK,dQ,o4,bJ,Sl.wt];omega
  · show sE (dQ s e th).code s.code.length _++o7 rest s.l (fT th s.loc) (sE (dQ s e th).code s.code.length _).length=s.code++o7 _ s.l s.loc s.code.length
    rw[lE,pV,pU,B5 rfl];simp only[o7,fT,hne.1,hne.2.1,hne.2.2.1,hne.2.2.2.1,hne.2.2.2.2,h0,if_false,if_true,List.append_assoc,List.cons_append]
  · show s.sites++[s.st]++cI th (s.st+1)++cI rest (s.st+1+(th.wt:Int))=s.sites++cI _ s.st
    simp only[cI,Sl.wt,h0,if_true,if_false,List.append_assoc,List.cons_append,List.nil_append,Int.natCast_zero,Int.add_zero]
theorem SA {n:BA}{e:Ex}(hel:0<el.len):cO l0 (cK (dR s e th el) (dQ s e th).code.length ((dR s e th el).code.length:Int)) rest=cO l0 s (.cons 7 n e r xs th el rest):=by
  have hne:¬(7:Int)=1∧¬(7:Int)=2∧¬((7:Int)=3∨(7:Int)=4)∧¬(7:Int)=5∧¬(7:Int)=6:=by decide
  refine Sco.eq rfl rfl ?_ ?_ ?_ ?_
  · simp only[cO,cK,dR,stJ,dQ,o4,bJ,fT,hne.1,if_false,if_true]
  · simp only[cO,cK,dR,stJ,dQ,o4,bJ,Sl.wt];omega
  · show sE (dR s e th el).code (dQ s e th).code.length _++o7 rest s.l (fT el (fT th s.loc)) (sE (dR s e th el).code (dQ s e th).code.length _).length=s.code++o7 _ s.l s.loc s.code.length
    rw[lE,DV,vP];rw[show s.code++((⟨6,((stJ s e th).code.length:Int),false,fR s.l e,bW,[],[]⟩:Ins)::(o7 th s.l s.loc (s.code.length+1)++(⟨7,0,false,l4,bW,[],[]⟩::o7 el s.l (fT th s.loc) ((dQ s e th).code.length+1))))=(s.code++((⟨6,((stJ s e th).code.length:Int),false,fR s.l e,bW,[],[]⟩:Ins)::o7 th s.l s.loc (s.code.length+1)))++(⟨7,0,false,l4,bW,[],[]⟩::o7 el s.l (fT th s.loc) ((dQ s e th).code.length+1)) from by simp only[List.append_assoc,List.cons_append]];rw[B5 (by rw[pV];simp;omega),stJ_len,pV];simp only[o7,hne.1,hne.2.1,hne.2.2.1,hne.2.2.2.1,hne.2.2.2.2,hel,if_false,if_true,List.append_assoc,List.cons_append]
  · show s.sites++[s.st]++cI th (s.st+1)++[s.st]++cI el (s.st+1+(th.wt:Int))++cI rest (s.st+1+(th.wt:Int)+(el.wt:Int))=s.sites++cI _ s.st
    simp only[cI,hel,if_true,List.append_assoc,List.cons_append,List.nil_append]
theorem fin_wh {n:BA}{e:Ex}:cO l0 (cK (D9 s e th) s.code.length ((D9 s e th).code.length:Int)) rest=cO l0 s (.cons 8 n e r xs th .nil rest):=by
  have hne:¬(8:Int)=1∧¬(8:Int)=2∧¬((8:Int)=3∨(8:Int)=4)∧¬(8:Int)=5∧¬(8:Int)=6∧¬(8:Int)=7:=by decide
  rw[show (D9 s e th).code.length=(dQ s e th).code.length+1 from by simp[D9,o4]];refine Sco.eq rfl rfl ?_ ?_ ?_ ?_
  · simp only[cO,cK,D9,dQ,o4,bJ,fT,hne.1,hne.2.2.2.2.2,if_false,if_true]
  · simp only[cO,cK,D9,dQ,o4,bJ,Sl.wt];omega
  · show sE ((dQ s e th).code++[⟨7,((s.code.length:Nat):Int),false,l4,bW,[],[]⟩]) s.code.length _++o7 rest s.l (fT th s.loc) (sE ((dQ s e th).code++[⟨7,((s.code.length:Nat):Int),false,l4,bW,[],[]⟩]) s.code.length _).length=s.code++o7 _ s.l s.loc s.code.length
    rw[lE,List.length_append,pV,pU,List.append_assoc,List.cons_append,B5 rfl];simp only[o7,hne.1,hne.2.1,hne.2.2.1,hne.2.2.2.1,hne.2.2.2.2.1,hne.2.2.2.2.2,if_false,if_true,List.append_assoc,List.cons_append,List.nil_append,List.length_cons,List.length_nil,Nat.zero_add]
  · show s.sites++[s.st]++cI th (s.st+1)++[s.st]++cI rest (s.st+1+(th.wt:Int))=s.sites++cI _ s.st
    simp only[cI,hne.2.2.2.2.2,if_true,if_false,List.append_assoc,List.cons_append,List.nil_append]
theorem agg_nil {h:c7}{φ:Map}{w:World}{xs xs':List AV}(hn:oO xs' xs){v:Value}(r:Rel h φ w v (.agg xs)):Rel h φ w v (.agg xs'):=by
  cases r with
  | pure hp=>cases hp
  | agg a _ ha h1 hr=>
    obtain ⟨k1,k2⟩:=hn.get;refine .agg a xs' (by rw[ha,k1]) h1 fun j v y e1 e2=>?_;have hj:j<xs.length:=by rw[←k1];exact (List.getElem?_eq_some_iff.1 e2).1
    have hx:xs[j]?=some xs[j]:=List.getElem?_eq_getElem hj;rcases k2 j y _ e2 hx with rfl | ⟨e3,rfl⟩
    · exact hr j v _ e1 hx
    · exact P9 (e3▸hr j v _ e1 hx)
def Nr:List AV→List AV→Prop
  | [],[]=>True
  | x::xs,y::ys=>(x=y∨∃a b,x=.agg a∧y=.agg b∧oO a b)∧Nr xs ys
  | _,_=>False
theorem Nr.get:∀{xs ys:List AV},Nr xs ys→xs.length=ys.length∧∀(t:Nat) (x y:AV),xs[t]?=some x→ys[t]?=some y→x=y∨∃a b,x=.agg a∧y=.agg b∧oO a b
  | [],[],_=>⟨rfl,fun t x y h=>by simp at h⟩
  | x::xs,y::ys,h=>by
    obtain ⟨h1,h2⟩:=h;obtain ⟨k1,k2⟩:=Nr.get h2;refine ⟨by simp[k1],fun t u v hu hv=>?_⟩
    match t with
    | 0=>simp at hu hv;subst hu;subst hv;exact h1
    | t+1=>exact k2 t u v t132 t139
  | [],_::_,h=>h.elim
  | _::_,[],h=>h.elim
theorem aggArg {f:FuncId}{h:c7}{args args':List AV}{Q:AV→c7→Prop}(ha:Nr args' args)(r:CallA Tryz.prog cfg f args' h Q):CallA Tryz.prog cfg f args h Q:=by
  intro B φ w cargs i hs hr;obtain ⟨k1,k2⟩:=ha.get;refine r B φ w cargs i (by rw[k1];exact hs) fun j v y h1 h2=>?_;have hj:j<args.length:=by rw[←k1];exact (List.getElem?_eq_some_iff.1 h2).1
  have hx:args[j]?=some args[j]:=List.getElem?_eq_getElem hj;rcases k2 j y _ h2 hx with rfl | ⟨a,b,rfl,e2,hn⟩
  · exact hr j v _ h1 hx
  · exact agg_nil hn (e2▸hr j v _ h1 hx)
theorem mL {e:Frm}(hc:s.code.length<10000)(hs:s.sites.length<10000)(i:Ins)(t:Int){zs:List AV}(hz:oO (eM i) zs):CH 134 [.ptr e.k 0 0,.agg zs,.int .i64 t] (hT e (z8 e.k s) s.code s.sites) (.int .i64 ((s.code.length:Nat):Int)) (hT e (z8 e.k (o4 s i t)) (o4 s i t).code (o4 s i t).sites):=
  aggArg (args':=[.ptr e.k 0 0,.agg (eM i),.int .i64 t]) ⟨.inl rfl,.inr ⟨_,_,rfl,rfl,hz⟩,.inl rfl,trivial⟩ (c_put hc hs i t)
theorem JM:∀{c:List Ins} {i:Nat} {v:Int},i<c.length→List.take (i*12+1) (p5 c)++AV.int .i64 v::List.drop (i*12+1+1) (p5 c)=p5 (sE c i v)
  | x::c,0,v,_=>by
    have e1:p5 (x::c)=eM x++p5 c:=by simp[p5]
    have e2:sE (x::c) 0 v={ x with target:=v }::c:=by simp[sE]
    have e3:p5 ({ x with target:=v }::c)=eM { x with target:=v }++p5 c:=by simp[p5]
    rw[e1,e2,e3];rfl
  | x::c,i+1,v,h=>by
    have ih:=JM (c:=c) (i:=i) (v:=v) (by simpa using h);have e1:p5 (x::c)=eM x++p5 c:=by simp[p5]
    have e2:sE (x::c) (i+1) v=x::sE c i v:=by simp[sE]
    have e3:p5 (x::sE c i v)=eM x++p5 (sE c i v):=by simp[p5]
    have hl:(eM x).length=12:=aR x;rw[e1,e2,e3,←ih,show (i+1)*12+1=(eM x).length+(i*12+1) from by omega,List.take_length_add_append,show (eM x).length+(i*12+1)+1=(eM x).length+(i*12+1+1) from by omega,List.drop_length_add_append,List.append_assoc]
theorem K8 {c:List Ins}(h:0<c.length):p5 c≠[]:=by intro h0;have:=congrArg List.length h0;rw[u4]at this;simp at this;omega
section
variable {e:Frm}{b:Blk}{c:List Ins}{ss:List Int}{l:c7}{v:Int}{i n:Nat}
theorem hT_1na (h:0<c.length):(hT e b c ss++l)[e.k+1]?=some ⟨c.length,false,54,12,p5 c,0⟩:=by rw[RT,cP (K8 h)]
theorem hT_pn (h:c.length=n)(h0:0<n):(hT e b c ss++l).set (e.k+1) ⟨n,false,54,12,p5 (sE c i v),0⟩=hT e b (sE c i v) ss++l:=by
  subst h;have hl:(sE c i v).length=c.length:=lE;have:p9 54 12 (sE c i v).length (p5 (sE c i v))=⟨c.length,false,54,12,p5 (sE c i v),0⟩:=by rw[cP (K8 (by omega)),hl]
  rw[←this,WR]
theorem app_cpE {b0 b1 b2:Blk}{es:List Ent}{n:Nat}(hz:es.length=n)(h0:0<n)(hn:n<1000):j6 cfg 145 (hT e b c ss++(b0::b1::b2::⟨1,false,145,3,[],0⟩::l)) (.own (e.n+3) 1 0 0) (.vec n (j5 es))=some (.own (e.n+3) 2 0 n,hT e b c ss++(b0::b1::b2::⟨2,false,145,3,j5 es,0⟩::l)):=by
  subst hz;have e1:cfg.sz 145=3:=rfl;have e2:(cfg.ti 145).bytes=32:=rfl;have hm:es.length≤maxLen:=by
    have:(1000:Nat)≤maxLen:=by decide
    omega
  have hb:es.length*32≤140737488355328:=by omega
  have h1:(j5 es).length=es.length*3:=by rw[s6];omega
  have h2:¬es.length=0:=by omega
  have h3:¬es.length*3=0:=by omega
  simp[j6,rd,lenOf,e1,e2,h1,hm,hb,eC,gX,h0,h2,h3]
theorem app_onE {b0 b1 b2:Blk}{es:List Ent}{x:BA}{k m:Int}{n:Nat}(hz:es.length=n)(hn:n<1000):j6 cfg 145 (hT e b c ss++(b0::b1::b2::⟨2,false,145,3,j5 es,0⟩::⟨1,false,145,3,[.str x,.int .i64 k,.int .i64 m],0⟩::l)) (.own (e.n+3) 2 0 n) (.own (e.n+4) 1 0 1)=some (.own (e.n+3) 3 0 (n+1),hT e b c ss++(b0::b1::b2::⟨3,false,145,3,j5 (es++[⟨x,k,m⟩]),0⟩::⟨1,false,145,3,[.str x,.int .i64 k,.int .i64 m],0⟩::l)):=by
  subst hz;have e1:cfg.sz 145=3:=rfl;have e2:(cfg.ti 145).bytes=32:=rfl;have hm:es.length+1≤maxLen:=by
    have:(1001:Nat)≤maxLen:=by decide
    omega
  have hb:(es.length+1)*32≤140737488355328:=by omega
  have h1:(j5 es).length=es.length*3:=by rw[s6];omega
  have ht:List.take (es.length*3) (j5 es)=j5 es:=List.take_of_length_le (by omega);have hnl:¬(es.length+1)*3≤es.length*3:=by omega
  have hs:j5 (es++[⟨x,k,m⟩])=j5 es++[.str x,.int .i64 k,.int .i64 m]:=by simp[j5,iM]
  simp[j6,rd,lenOf,e1,e2,h1,hm,hb,ht,hnl,eC,gX,hs]
end
theorem rF (l:List Ent):aA (j5 l):=aA.flat fun _=>aA.cons .str (aA.cons .int (aA.cons .int .nil))
theorem stIf_l {e:Ex}:(dQ s e th).l=s.l:=rfl
attribute [local go_sem] rd s6 o2 bD cM u4 aR fQ dI p8 bA aM l8 bF Int.natCast_nonneg Int.natCast_inj List.length_map wrap64 fY jA jB AB J4 R3 AD zZ max2 eY cR bH Nat.reduceMul mY kA iM pS lC vL aG hT_0 hT_2 RS RU eC B2 gX S6 RV AO hT_1na hT_pn JM app_cpE app_onE B6 vM vN B7 B8 rD A6 JL AT stSt_p gP eS T3 vO AU stPut_p cC bQ stTgt_l kB oF finS_l finS_p stIf_l
variable {E:Env}{vs:List BA}{pre:Sl}{W:Nat}
theorem c_blk1 {e:Frm}{c:Ctx}(sc:SC E c vs s.l)(bd:Bd E c s.p)(B:Bnd s W)(hW:1≤W)(j:Nat)(hj:j<24)(hn:vnm j∉vs)(a:Ex)(he:GE vs 2 a):c8 Tryz.prog cfg (qW [1,0,1,0,0,1,0] (jL Tryz.f133)) ⟨mkS 253 [(0,AV.ptr e.k 0 0),(1,AV.vec (Go.Un.Sl.len (pre.app (.cons 1 (vnm j) a n5 [] .nil .nil rest))) (o9 (pre.app (.cons 1 (vnm j) a n5 [] .nil .nil rest)))),(4,AV.vec l0.length (j5 l0)),(5,AV.int .i64 ((pre.len:Nat):Int))],(hT e (z8 e.k s) s.code s.sites)⟩ (Led 253 [(0,AV.ptr e.k 0 0),(1,AV.vec (Go.Un.Sl.len (pre.app (.cons 1 (vnm j) a n5 [] .nil .nil rest))) (o9 (pre.app (.cons 1 (vnm j) a n5 [] .nil .nil rest)))),(4,AV.vec l0.length (j5 l0)),(5,AV.int .i64 ((pre.len:Nat):Int))] ((hT e (z8 e.k (rC (o4 (bJ s) ⟨1,s.loc,false,fR s.l a,bW,[],[]⟩ s.st) (vnm j))) ((rC (o4 (bJ s) ⟨1,s.loc,false,fR s.l a,bW,[],[]⟩ s.st) (vnm j))).code ((rC (o4 (bJ s) ⟨1,s.loc,false,fR s.l a,bW,[],[]⟩ s.st) (vnm j))).sites))):=by obtain ⟨q1,q2,q3,q4,q5,q6,q7,q8⟩:=B;have hlc:=@w9 pre 1 (vnm j) a n5 [] .nil .nil rest;refine c159z ?_;refine c8.aC (hT e (z8 e.k (bJ s)) s.code s.sites++[⟨0,false,190,11,[.int .i64 1,.str (vnm j),.int .i64 a.op,.int .i64 a.num,.str a.name,.vec a.args.length (n7 a.args),.str n5.name,.vec n5.idx.length (n7 n5.idx),.vec (([]:List Ar)).length (bE ([]:List Ar)),.vec (Go.Un.Sl.len Go.Un.Sl.nil) (o9 Go.Un.Sl.nil),.vec (Go.Un.Sl.len Go.Un.Sl.nil) (o9 Go.Un.Sl.nil)],0⟩]) rfl ?_;refine c14z ?_;refine .c5 [0,1,4,5,6,7,41] ?_;refine c111z ?_;refine .seq ?_;refine c26z ?_;refine c117z ?_;refine .cl rfl rfl (fun _=>JH (sc.fr j hj hn) (by omega)) ?_;refine c249z ?_;refine .c5 [0,1,4,5,6,7,9] ?_;refine c9z ?_;refine .sk ?_;refine c28z ?_;refine .ch rfl rfl (gA (RX (s:=bJ s) t122 s.st sc.var he _)) ?_;refine .n ?_;refine .sg u9 (mkH 9 [0,0,2,6,14,0,62,0,255] [8] [] [0,256] []) 0 ?_;refine w8.aC t26 ?_;refine c168z ?_;refine .rn [true] ?_;refine .p 2 ?_;refine .cn [true] [256,0] [_] rfl rfl (by simp only[kJ,and_true,List.cons_append,List.nil_append];exact gA (mL t47 t44 ⟨1,s.loc,false,fR s.l a,bW,[],[]⟩ s.st t24)) ?_;refine w8.nil rfl ?_;refine .c5 [0,1,4,5,6] ?_;refine .sg u9 (mkH 19 [0,0,0,4,12,28,62,0,128,0,512,1536,3584,8064,16256,32766,65535,131071,262143] [1,6,14,15,18] [(1,0),(14,1)] [0,2,66,16384,16386,16450,49218,311362] [0,1,2,3,4,5,6]) 2 ?_;refine .p 1 ?_;refine .em [true] [2,0] [_] ?_;refine .p 3 ?_;refine .rm [true,true] ?_;refine .em [true,false] [66,2,0] [_] ?_;refine .p 1 ?_;refine .rn [true,true,true] ?_;refine .p 3 ?_;refine .rn [true,true,true] ?_;refine .p 1 ?_;refine .en [true,true,true] [16450,16386,16384,66,2,0] [_,_,_] ?_;refine .en [true,false,false,false,false,false] [49218,16450,16386,16384,66,2,0] [_] ?_;refine .p 2 ?_;refine .en [true,false,false,false,false,false,false] [311362,49218,16450,16386,16384,66,2,0] [_] ?_;refine .po [false,false,false,true,false,false,true,false] ?_;refine .po [false,false,false,true,true,false,true,true] ?_;refine .po [false,false,false,false,true,false,false,true] ?_;refine w8.nil rfl ?_;refine .c5 [0,1,4,5] ?_;refine c8.H6 (γ:=e.n+3) (β:=e.k) (k:=3) (off:=0) (len:=s.l.length+1) (cs:=j5 (s.l++[⟨vnm j,4,s.loc⟩])) t91 rfl t173 (by rw[List.drop_zero,List.take_of_length_le t173];exact (rF _).VK) (by simp only[RS];rfl) (by have:=e.lt;omega) rfl ?_;simp only[gX,AO,List.set_cons_succ,List.set_cons_zero];refine .rz ?_;exact .mk _ (by rw[RY];rfl)
theorem c_blk2 {e:Frm}{c:Ctx}(sc:SC E c vs s.l)(bd:Bd E c s.p)(B:Bnd s W)(hW:1≤W)(n:BA)(hn:n∈vs)(a:Ex)(he:GE vs 2 a):c8 Tryz.prog cfg (qW [1,0,1,0,0,1,0] (jL Tryz.f133)) ⟨mkS 253 [(0,AV.ptr e.k 0 0),(1,AV.vec (Go.Un.Sl.len (pre.app (.cons 2 n a n5 [] .nil .nil rest))) (o9 (pre.app (.cons 2 n a n5 [] .nil .nil rest)))),(4,AV.vec l0.length (j5 l0)),(5,AV.int .i64 ((pre.len:Nat):Int))],(hT e (z8 e.k s) s.code s.sites)⟩ (Led 253 [(0,AV.ptr e.k 0 0),(1,AV.vec (Go.Un.Sl.len (pre.app (.cons 2 n a n5 [] .nil .nil rest))) (o9 (pre.app (.cons 2 n a n5 [] .nil .nil rest)))),(4,AV.vec l0.length (j5 l0)),(5,AV.int .i64 ((pre.len:Nat):Int))] ((hT e (z8 e.k (o4 (bJ s) ⟨1,(eU s.l n).n,(eU s.l n).kind==1,fR s.l a,bW,[],[]⟩ s.st)) ((o4 (bJ s) ⟨1,(eU s.l n).n,(eU s.l n).kind==1,fR s.l a,bW,[],[]⟩ s.st)).code ((o4 (bJ s) ⟨1,(eU s.l n).n,(eU s.l n).kind==1,fR s.l a,bW,[],[]⟩ s.st)).sites))):=by obtain ⟨q1,q2,q3,q4,q5,q6,q7,q8⟩:=B;have hlc:=@w9 pre 2 n a n5 [] .nil .nil rest;obtain ⟨v,hv1,hv2⟩:=sc.var n hn;refine c159z ?_;refine c8.aC (hT e (z8 e.k (bJ s)) s.code s.sites++[⟨0,false,190,11,[.int .i64 2,.str n,.int .i64 a.op,.int .i64 a.num,.str a.name,.vec a.args.length (n7 a.args),.str n5.name,.vec n5.idx.length (n7 n5.idx),.vec (([]:List Ar)).length (bE ([]:List Ar)),.vec (Go.Un.Sl.len Go.Un.Sl.nil) (o9 Go.Un.Sl.nil),.vec (Go.Un.Sl.len Go.Un.Sl.nil) (o9 Go.Un.Sl.nil)],0⟩]) rfl ?_;refine c169z ?_;refine c111z ?_;refine c28z ?_;refine .ch rfl rfl (gA (c_var (s:=bJ s) t122 s.st hv1 hv2)) ?_;refine .n ?_;refine .c5 [0,1,4,5,6,7,11] ?_;refine .og u9 (mkH 14 [0,0,2,0,8,24,0,0,128,0,960,2046,0,8191] [10,13] [] [0,1024,9216] [0,1,2,3,4,5]) 0 ?_;refine w8.aC t26 ?_;refine .p 2 ?_;refine c117z ?_;refine c98z ?_;refine .p 1 ?_;refine .cn [true] [1024,0] [_] rfl rfl (by simp only[kJ,and_true,List.cons_append,List.nil_append];exact gA (RX (s:=bJ s) t122 s.st sc.var he _)) ?_;refine .p 2 ?_;refine .cn [true,false] [9216,1024,0] [_] rfl rfl (by simp only[kJ,and_true,List.cons_append,List.nil_append];exact gA (mL t47 t44 ⟨1,v.n,v.kind==1,fR s.l a,bW,[],[]⟩ s.st t24)) ?_;refine c155z ?_;exact .mk _ (by rw[eG hv1])
theorem c_blk3 {e:Frm}{c:Ctx}(sc:SC E c vs s.l)(bd:Bd E c s.p)(B:Bnd s W)(hW:1≤W)(f:BA×List Pm)(hf:f∈E.funcs)(xs:List Ar)(ha:GAs E vs f.2 xs):c8 Tryz.prog cfg (qW [1,0,1,0,0,1,0] (jL Tryz.f133)) ⟨mkS 253 [(0,AV.ptr e.k 0 0),(1,AV.vec (Go.Un.Sl.len (pre.app (.cons 3 f.1 l4 n5 xs .nil .nil rest))) (o9 (pre.app (.cons 3 f.1 l4 n5 xs .nil .nil rest)))),(4,AV.vec l0.length (j5 l0)),(5,AV.int .i64 ((pre.len:Nat):Int))],(hT e (z8 e.k s) s.code s.sites)⟩ (Led 253 [(0,AV.ptr e.k 0 0),(1,AV.vec (Go.Un.Sl.len (pre.app (.cons 3 f.1 l4 n5 xs .nil .nil rest))) (o9 (pre.app (.cons 3 f.1 l4 n5 xs .nil .nil rest)))),(4,AV.vec l0.length (j5 l0)),(5,AV.int .i64 ((pre.len:Nat):Int))] ((hT e (z8 e.k (o4 (bJ s) ⟨2,(eU s.l f.1).n,false,l4,bW,aS s.l xs,z6 s.l xs⟩ s.st)) ((o4 (bJ s) ⟨2,(eU s.l f.1).n,false,l4,bW,aS s.l xs,z6 s.l xs⟩ s.st)).code ((o4 (bJ s) ⟨2,(eU s.l f.1).n,false,l4,bW,aS s.l xs,z6 s.l xs⟩ s.st)).sites))):=by
  obtain ⟨q1,q2,q3,q4,q5,q6,q7,q8⟩:=B;have hlc:=@w9 pre 3 f.1 l4 n5 xs .nil .nil rest;obtain ⟨⟨fy,fk,fn⟩,hf1,hfk,hf5,hf6,hf7⟩:=sc.fn f hf;simp only at hfk hf5 hf6 hf7;subst hfk;have hf2:0≤fn∧fn<s.p.funcs.length:=by rw[bd.hf,List.length_map]at hf6;exact ⟨hf5,hf6⟩
  have hf3:(s.p.funcs.getD fn.toNat j0).params=f.2:=by rw[bd.hf,getD_map (d':=j0) (by omega)]at hf7;rw[←hf7]
  have hf4:=bd.fp f hf;refine c159z ?_;refine c8.aC (hT e (z8 e.k (bJ s)) s.code s.sites++[⟨0,false,190,11,[.int .i64 3,.str f.1,.int .i64 l4.op,.int .i64 l4.num,.str l4.name,.vec l4.args.length (n7 l4.args),.str n5.name,.vec n5.idx.length (n7 n5.idx),.vec (xs).length (bE xs),.vec (Go.Un.Sl.len Go.Un.Sl.nil) (o9 Go.Un.Sl.nil),.vec (Go.Un.Sl.len Go.Un.Sl.nil) (o9 Go.Un.Sl.nil)],0⟩]) rfl ?_;refine c193z ?_;refine .T ?_;refine .sk ?_;refine .T ?_;refine c166z ?_;refine .ch rfl rfl (gA (c_call3 (s:=bJ s) t122 s.st sc bd.hE bd.hc hf1 hf2 hf3 hf4 ha)) ?_;refine .e 1 ?_;refine .ch rfl rfl (gA (mL t47 t44 ⟨2,fn,false,l4,bW,aS s.l xs,z6 s.l xs⟩ s.st t24)) ?_;refine .nil ?_;exact .mk _ (by rw[eG hf1])
theorem c_blk4 {e:Frm}{c:Ctx}(sc:SC E c vs s.l)(bd:Bd E c s.p)(B:Bnd s W)(hW:1≤W)(f:BA×List Pm)(hf:f∈E.funcs)(xs:List Ar)(ha:GAs E vs f.2 xs):c8 Tryz.prog cfg (qW [1,0,1,0,0,1,0] (jL Tryz.f133)) ⟨mkS 253 [(0,AV.ptr e.k 0 0),(1,AV.vec (Go.Un.Sl.len (pre.app (.cons 4 f.1 l4 n5 xs .nil .nil rest))) (o9 (pre.app (.cons 4 f.1 l4 n5 xs .nil .nil rest)))),(4,AV.vec l0.length (j5 l0)),(5,AV.int .i64 ((pre.len:Nat):Int))],(hT e (z8 e.k s) s.code s.sites)⟩ (Led 253 [(0,AV.ptr e.k 0 0),(1,AV.vec (Go.Un.Sl.len (pre.app (.cons 4 f.1 l4 n5 xs .nil .nil rest))) (o9 (pre.app (.cons 4 f.1 l4 n5 xs .nil .nil rest)))),(4,AV.vec l0.length (j5 l0)),(5,AV.int .i64 ((pre.len:Nat):Int))] ((hT e (z8 e.k (o4 (bJ s) ⟨3,(eU s.l f.1).n,false,l4,bW,aS s.l xs,z6 s.l xs⟩ s.st)) ((o4 (bJ s) ⟨3,(eU s.l f.1).n,false,l4,bW,aS s.l xs,z6 s.l xs⟩ s.st)).code ((o4 (bJ s) ⟨3,(eU s.l f.1).n,false,l4,bW,aS s.l xs,z6 s.l xs⟩ s.st)).sites))):=by
  obtain ⟨q1,q2,q3,q4,q5,q6,q7,q8⟩:=B;have hlc:=@w9 pre 4 f.1 l4 n5 xs .nil .nil rest;obtain ⟨⟨fy,fk,fn⟩,hf1,hfk,hf5,hf6,hf7⟩:=sc.fn f hf;simp only at hfk hf5 hf6 hf7;subst hfk;have hf2:0≤fn∧fn<s.p.funcs.length:=by rw[bd.hf,List.length_map]at hf6;exact ⟨hf5,hf6⟩
  have hf3:(s.p.funcs.getD fn.toNat j0).params=f.2:=by rw[bd.hf,getD_map (d':=j0) (by omega)]at hf7;rw[←hf7]
  have hf4:=bd.fp f hf;refine c159z ?_;refine c8.aC (hT e (z8 e.k (bJ s)) s.code s.sites++[⟨0,false,190,11,[.int .i64 4,.str f.1,.int .i64 l4.op,.int .i64 l4.num,.str l4.name,.vec l4.args.length (n7 l4.args),.str n5.name,.vec n5.idx.length (n7 n5.idx),.vec (xs).length (bE xs),.vec (Go.Un.Sl.len Go.Un.Sl.nil) (o9 Go.Un.Sl.nil),.vec (Go.Un.Sl.len Go.Un.Sl.nil) (o9 Go.Un.Sl.nil)],0⟩]) rfl ?_;refine c226z ?_;refine .T ?_;refine .c5 [0,1,4,5,6,7] ?_;refine c166z ?_;refine .ch rfl rfl (gA (c_call4 (s:=bJ s) t122 s.st sc bd.hE bd.hc hf1 hf2 hf3 hf4 ha)) ?_;refine .e 1 ?_;refine .ch rfl rfl (gA (mL t47 t44 ⟨3,fn,false,l4,bW,aS s.l xs,z6 s.l xs⟩ s.st t24)) ?_;refine .nil ?_;exact .mk _ (by rw[eG hf1])
theorem c_blk5 {e:Frm}{c:Ctx}(sc:SC E c vs s.l)(bd:Bd E c s.p)(B:Bnd s W)(hW:1≤W)(r:Rf)(hR:GR E vs r):c8 Tryz.prog cfg (qW [1,0,1,0,0,1,0] (jL Tryz.f133)) ⟨mkS 253 [(0,AV.ptr e.k 0 0),(1,AV.vec (Go.Un.Sl.len (pre.app (.cons 5 ByteArray.empty l4 r [] .nil .nil rest))) (o9 (pre.app (.cons 5 ByteArray.empty l4 r [] .nil .nil rest)))),(4,AV.vec l0.length (j5 l0)),(5,AV.int .i64 ((pre.len:Nat):Int))],(hT e (z8 e.k s) s.code s.sites)⟩ (Led 253 [(0,AV.ptr e.k 0 0),(1,AV.vec (Go.Un.Sl.len (pre.app (.cons 5 ByteArray.empty l4 r [] .nil .nil rest))) (o9 (pre.app (.cons 5 ByteArray.empty l4 r [] .nil .nil rest)))),(4,AV.vec l0.length (j5 l0)),(5,AV.int .i64 ((pre.len:Nat):Int))] ((hT e (z8 e.k (o4 (bJ s) ⟨4,0,false,l4,qY s.l r,[],[]⟩ s.st)) ((o4 (bJ s) ⟨4,0,false,l4,qY s.l r,[],[]⟩ s.st)).code ((o4 (bJ s) ⟨4,0,false,l4,qY s.l r,[],[]⟩ s.st)).sites))):=by obtain ⟨q1,q2,q3,q4,q5,q6,q7,q8⟩:=B;have hlc:=@w9 pre 5 ByteArray.empty l4 r [] .nil .nil rest;refine c159z ?_;refine c8.aC (hT e (z8 e.k (bJ s)) s.code s.sites++[⟨0,false,190,11,[.int .i64 5,.str ByteArray.empty,.int .i64 l4.op,.int .i64 l4.num,.str l4.name,.vec l4.args.length (n7 l4.args),.str r.name,.vec r.idx.length (n7 r.idx),.vec (([]:List Ar)).length (bE ([]:List Ar)),.vec (Go.Un.Sl.len Go.Un.Sl.nil) (o9 Go.Un.Sl.nil),.vec (Go.Un.Sl.len Go.Un.Sl.nil) (o9 Go.Un.Sl.nil)],0⟩]) rfl ?_;refine c267z ?_;refine c111z ?_;refine .c5 [0,1,4,5,6,7] ?_;refine .r ?_;refine .e 5 ?_;refine .ch rfl rfl (gA (JK (s:=bJ s) t122 s.st sc bd.hE bd.hc hR)) ?_;refine .e 2 ?_;refine .ch rfl rfl (gA (mL t47 t44 ⟨4,0,false,l4,qY s.l r,[],[]⟩ s.st t24)) ?_;refine .nil ?_;exact .mk _ rfl
theorem c_blk6 {e:Frm}{c:Ctx}(sc:SC E c vs s.l)(bd:Bd E c s.p)(B:Bnd s W)(hW:1≤W)(r:Rf)(hR:GR E vs r):c8 Tryz.prog cfg (qW [1,0,1,0,0,1,0] (jL Tryz.f133)) ⟨mkS 253 [(0,AV.ptr e.k 0 0),(1,AV.vec (Go.Un.Sl.len (pre.app (.cons 6 ByteArray.empty l4 r [] .nil .nil rest))) (o9 (pre.app (.cons 6 ByteArray.empty l4 r [] .nil .nil rest)))),(4,AV.vec l0.length (j5 l0)),(5,AV.int .i64 ((pre.len:Nat):Int))],(hT e (z8 e.k s) s.code s.sites)⟩ (Led 253 [(0,AV.ptr e.k 0 0),(1,AV.vec (Go.Un.Sl.len (pre.app (.cons 6 ByteArray.empty l4 r [] .nil .nil rest))) (o9 (pre.app (.cons 6 ByteArray.empty l4 r [] .nil .nil rest)))),(4,AV.vec l0.length (j5 l0)),(5,AV.int .i64 ((pre.len:Nat):Int))] ((hT e (z8 e.k (o4 (bJ s) ⟨5,0,false,l4,qY s.l r,[],[]⟩ s.st)) ((o4 (bJ s) ⟨5,0,false,l4,qY s.l r,[],[]⟩ s.st)).code ((o4 (bJ s) ⟨5,0,false,l4,qY s.l r,[],[]⟩ s.st)).sites))):=by obtain ⟨q1,q2,q3,q4,q5,q6,q7,q8⟩:=B;have hlc:=@w9 pre 6 ByteArray.empty l4 r [] .nil .nil rest;refine c159z ?_;refine c8.aC (hT e (z8 e.k (bJ s)) s.code s.sites++[⟨0,false,190,11,[.int .i64 6,.str ByteArray.empty,.int .i64 l4.op,.int .i64 l4.num,.str l4.name,.vec l4.args.length (n7 l4.args),.str r.name,.vec r.idx.length (n7 r.idx),.vec (([]:List Ar)).length (bE ([]:List Ar)),.vec (Go.Un.Sl.len Go.Un.Sl.nil) (o9 Go.Un.Sl.nil),.vec (Go.Un.Sl.len Go.Un.Sl.nil) (o9 Go.Un.Sl.nil)],0⟩]) rfl ?_;refine c267z ?_;refine c9z ?_;refine .c5 [0,1,4,5,6,7,41] ?_;refine c111z ?_;refine .r ?_;refine .e 5 ?_;refine .ch rfl rfl (gA (JK (s:=bJ s) t122 s.st sc bd.hE bd.hc hR)) ?_;refine .e 2 ?_;refine .ch rfl rfl (gA (mL t47 t44 ⟨5,0,false,l4,qY s.l r,[],[]⟩ s.st t24)) ?_;refine .nil ?_;exact .mk _ rfl
theorem c_blk7 {e:Frm}{c:Ctx}(sc:SC E c vs s.l)(bd:Bd E c s.p)(B:Bnd s W)(a:Ex)(he:GE vs 2 a)(th:Sl)(hW:1+th.wt≤W)(ith:(∀s':Sco,SC E c vs s'.l→s'.p=s.p→Bnd s' th.wt→∀e:Frm,CH 133 [.ptr e.k 0 0,.vec th.len (o9 th)] (hT e (z8 e.k s') (s').code (s').sites) (.tup []) (hT e (z8 e.k (cO s'.l s' th)) ((cO s'.l s' th)).code ((cO s'.l s' th)).sites))):c8 Tryz.prog cfg (qW [1,0,1,0,0,1,0] (jL Tryz.f133)) ⟨mkS 253 [(0,AV.ptr e.k 0 0),(1,AV.vec (Go.Un.Sl.len (pre.app (.cons 7 ByteArray.empty a n5 [] th .nil rest))) (o9 (pre.app (.cons 7 ByteArray.empty a n5 [] th .nil rest)))),(4,AV.vec l0.length (j5 l0)),(5,AV.int .i64 ((pre.len:Nat):Int))],(hT e (z8 e.k s) s.code s.sites)⟩ (Led 253 [(0,AV.ptr e.k 0 0),(1,AV.vec (Go.Un.Sl.len (pre.app (.cons 7 ByteArray.empty a n5 [] th .nil rest))) (o9 (pre.app (.cons 7 ByteArray.empty a n5 [] th .nil rest)))),(4,AV.vec l0.length (j5 l0)),(5,AV.int .i64 ((pre.len:Nat):Int))] ((hT e (z8 e.k (cK (dQ s a th) s.code.length ((dQ s a th).code.length:Int))) ((cK (dQ s a th) s.code.length ((dQ s a th).code.length:Int))).code ((cK (dQ s a th) s.code.length ((dQ s a th).code.length:Int))).sites))):=by obtain ⟨q1,q2,q3,q4,q5,q6,q7,q8⟩:=B;have hlc:=@w9 pre 7 ByteArray.empty a n5 [] th .nil rest;refine c159z ?_;refine c8.aC (hT e (z8 e.k (bJ s)) s.code s.sites++[⟨0,false,190,11,[.int .i64 7,.str ByteArray.empty,.int .i64 a.op,.int .i64 a.num,.str a.name,.vec a.args.length (n7 a.args),.str n5.name,.vec n5.idx.length (n7 n5.idx),.vec (([]:List Ar)).length (bE ([]:List Ar)),.vec (Go.Un.Sl.len th) (o9 th),.vec (Go.Un.Sl.len Go.Un.Sl.nil) (o9 Go.Un.Sl.nil)],0⟩]) rfl ?_;refine c267z ?_;refine c9z ?_;refine c38z ?_;refine c111z ?_;refine c22z ?_;refine c156z ?_;refine .n ?_;refine .c5 [0,1,4,5,6,7,12] ?_;have b1:Bnd (o4 (bJ s) ⟨6,0,false,fR s.l a,bW,[],[]⟩ s.st) th.wt:=⟨q1,t180,t163,t158,q5,t167,t159,t141⟩;refine c102z ?_;refine .nil ?_;have fc:=iO (l0:=s.l) (s:=o4 (bJ s) ⟨6,0,false,fR s.l a,bW,[],[]⟩ s.st) (S:=th);have fs:=iJ (l0:=s.l) (s:=o4 (bJ s) ⟨6,0,false,fR s.l a,bW,[],[]⟩ s.st) (S:=th);rw[cC,gP]at fc;rw[bQ,eS]at fs;change _≤(dQ s a th).code.length∧(dQ s a th).code.length≤_ at fc;change _≤(dQ s a th).sites.length∧(dQ s a th).sites.length≤_ at fs;change c8 _ _ _ ⟨mkS _ _,hT e (z8 e.k (dQ s a th)) (dQ s a th).code (dQ s a th).sites++_⟩ _;refine c9z ?_;refine .c5 [0,1,4,5,12] ?_;refine c115z ?_;refine c168z ?_;refine .p 3 ?_;refine c173z ?_;exact .mk _ (by rw[tK];rfl)
theorem c_blk17 {e:Frm}{c:Ctx}(sc:SC E c vs s.l)(bd:Bd E c s.p)(B:Bnd s W)(a:Ex)(he:GE vs 2 a)(th el:Sl)(hel:0<el.len)(hW:1+th.wt+el.wt≤W)(ith:(∀s':Sco,SC E c vs s'.l→s'.p=s.p→Bnd s' th.wt→∀e:Frm,CH 133 [.ptr e.k 0 0,.vec th.len (o9 th)] (hT e (z8 e.k s') (s').code (s').sites) (.tup []) (hT e (z8 e.k (cO s'.l s' th)) ((cO s'.l s' th)).code ((cO s'.l s' th)).sites)))(iel:(∀s':Sco,SC E c vs s'.l→s'.p=s.p→Bnd s' el.wt→∀e:Frm,CH 133 [.ptr e.k 0 0,.vec el.len (o9 el)] (hT e (z8 e.k s') (s').code (s').sites) (.tup []) (hT e (z8 e.k (cO s'.l s' el)) ((cO s'.l s' el)).code ((cO s'.l s' el)).sites))):c8 Tryz.prog cfg (qW [1,0,1,0,0,1,0] (jL Tryz.f133)) ⟨mkS 253 [(0,AV.ptr e.k 0 0),(1,AV.vec (Go.Un.Sl.len (pre.app (.cons 7 ByteArray.empty a n5 [] th el rest))) (o9 (pre.app (.cons 7 ByteArray.empty a n5 [] th el rest)))),(4,AV.vec l0.length (j5 l0)),(5,AV.int .i64 ((pre.len:Nat):Int))],(hT e (z8 e.k s) s.code s.sites)⟩ (Led 253 [(0,AV.ptr e.k 0 0),(1,AV.vec (Go.Un.Sl.len (pre.app (.cons 7 ByteArray.empty a n5 [] th el rest))) (o9 (pre.app (.cons 7 ByteArray.empty a n5 [] th el rest)))),(4,AV.vec l0.length (j5 l0)),(5,AV.int .i64 ((pre.len:Nat):Int))] ((hT e (z8 e.k (cK (dR s a th el) (dQ s a th).code.length ((dR s a th el).code.length:Int))) ((cK (dR s a th el) (dQ s a th).code.length ((dR s a th el).code.length:Int))).code ((cK (dR s a th el) (dQ s a th).code.length ((dR s a th el).code.length:Int))).sites))):=by
  obtain ⟨q1,q2,q3,q4,q5,q6,q7,q8⟩:=B;have hlc:=@w9 pre 7 ByteArray.empty a n5 [] th el rest;refine c159z ?_;refine c8.aC (hT e (z8 e.k (bJ s)) s.code s.sites++[⟨0,false,190,11,[.int .i64 7,.str ByteArray.empty,.int .i64 a.op,.int .i64 a.num,.str a.name,.vec a.args.length (n7 a.args),.str n5.name,.vec n5.idx.length (n7 n5.idx),.vec (([]:List Ar)).length (bE ([]:List Ar)),.vec (Go.Un.Sl.len th) (o9 th),.vec (Go.Un.Sl.len el) (o9 el)],0⟩]) rfl ?_;refine c267z ?_;refine c9z ?_;refine c38z ?_;refine c111z ?_;refine c22z ?_;refine c156z ?_;refine .n ?_;refine .c5 [0,1,4,5,6,7,12] ?_;have b1:Bnd (o4 (bJ s) ⟨6,0,false,fR s.l a,bW,[],[]⟩ s.st) th.wt:=⟨q1,t180,t163,t158,q5,t167,t159,t141⟩;refine c102z ?_;refine .nil ?_;have fc:=iO (l0:=s.l) (s:=o4 (bJ s) ⟨6,0,false,fR s.l a,bW,[],[]⟩ s.st) (S:=th);have fs:=iJ (l0:=s.l) (s:=o4 (bJ s) ⟨6,0,false,fR s.l a,bW,[],[]⟩ s.st) (S:=th);rw[cC,gP]at fc;rw[bQ,eS]at fs;change _≤(dQ s a th).code.length∧(dQ s a th).code.length≤_ at fc;change _≤(dQ s a th).sites.length∧(dQ s a th).sites.length≤_ at fs;change c8 _ _ _ ⟨mkS _ _,hT e (z8 e.k (dQ s a th)) (dQ s a th).code (dQ s a th).sites++_⟩ _;refine .z ?_;refine uTbz ?_;intro e1 qe1;refine .c5 [0,1,4,5,6,7,12] ?_;refine c16z ?_;refine .ch rfl rfl (gA (mL t47 t44 ⟨7,0,false,l4,bW,[],[]⟩ s.st t24)) ?_;refine .n ?_;change c8 _ _ _ ⟨mkS _ _,hT e (z8 e.k (stJ s a th)) (stJ s a th).code (stJ s a th).sites++_⟩ _;have jc:(stJ s a th).code.length=(dQ s a th).code.length+1:=cC;have js:(stJ s a th).sites.length=(dQ s a th).sites.length+1:=bQ;refine .sg u9 (mkH 13 [0,1,3,7,0,0,32,96,224,480,1023,2047,4095] [12] [] [0,4096] []) 0 ?_;refine c98z ?_;refine c168z ?_;refine .p 3 ?_;refine c173z ?_;refine .c5 [0,1,4,5,6,13] ?_;refine c8.aC (hT e (z8 e.k (cK (stJ s a th) s.code.length ((stJ s a th).code.length:Int))) (cK (stJ s a th) s.code.length ((stJ s a th).code.length:Int)).code (cK (stJ s a th) s.code.length ((stJ s a th).code.length:Int)).sites++[_]) (by rw[tK];rfl) ?_;have lb:=rT th s.loc;have b2:Bnd (cK (stJ s a th) s.code.length ((stJ s a th).code.length:Int)) el.wt:=⟨q1,by show s.l.length+_≤_;omega,by rw[kB,jc];omega,by rw[oF,js];omega,by show 0≤fT th s.loc;omega,by show fT th s.loc+_≤_;omega,by show 0≤s.st+1+(th.wt:Int);omega,by show s.st+1+(th.wt:Int)+_≤_;omega⟩;refine c16z ?_;refine .ch rfl rfl (gA (iel (cK (stJ s a th) s.code.length ((stJ s a th).code.length:Int)) sc rfl b2 _)) ?_;refine .nil ?_;have ec:(stJ s a th).code.length≤(dR s a th el).code.length∧(dR s a th el).code.length≤(stJ s a th).code.length+2*el.wt:=by have h0:=iO (l0:=s.l) (s:=(cK (stJ s a th) s.code.length ((stJ s a th).code.length:Int))) (S:=el);rw[kB]at h0;exact h0
  change c8 _ _ _ ⟨mkS _ _,hT e (z8 e.k (dR s a th el)) (dR s a th el).code (dR s a th el).sites++_⟩ _;refine c115z ?_;refine c168z ?_;refine .p 3 ?_;refine c173z ?_;exact .mk _ (by rw[tK];rfl)
theorem c_blk8 {e:Frm}{c:Ctx}(sc:SC E c vs s.l)(bd:Bd E c s.p)(B:Bnd s W)(a:Ex)(he:GE vs 2 a)(th:Sl)(hW:1+th.wt≤W)(ith:(∀s':Sco,SC E c vs s'.l→s'.p=s.p→Bnd s' th.wt→∀e:Frm,CH 133 [.ptr e.k 0 0,.vec th.len (o9 th)] (hT e (z8 e.k s') (s').code (s').sites) (.tup []) (hT e (z8 e.k (cO s'.l s' th)) ((cO s'.l s' th)).code ((cO s'.l s' th)).sites))):c8 Tryz.prog cfg (qW [1,0,1,0,0,1,0] (jL Tryz.f133)) ⟨mkS 253 [(0,AV.ptr e.k 0 0),(1,AV.vec (Go.Un.Sl.len (pre.app (.cons 8 ByteArray.empty a n5 [] th .nil rest))) (o9 (pre.app (.cons 8 ByteArray.empty a n5 [] th .nil rest)))),(4,AV.vec l0.length (j5 l0)),(5,AV.int .i64 ((pre.len:Nat):Int))],(hT e (z8 e.k s) s.code s.sites)⟩ (Led 253 [(0,AV.ptr e.k 0 0),(1,AV.vec (Go.Un.Sl.len (pre.app (.cons 8 ByteArray.empty a n5 [] th .nil rest))) (o9 (pre.app (.cons 8 ByteArray.empty a n5 [] th .nil rest)))),(4,AV.vec l0.length (j5 l0)),(5,AV.int .i64 ((pre.len:Nat):Int))] ((hT e (z8 e.k (cK (D9 s a th) s.code.length ((D9 s a th).code.length:Int))) ((cK (D9 s a th) s.code.length ((D9 s a th).code.length:Int))).code ((cK (D9 s a th) s.code.length ((D9 s a th).code.length:Int))).sites))):=by obtain ⟨q1,q2,q3,q4,q5,q6,q7,q8⟩:=B;have hlc:=@w9 pre 8 ByteArray.empty a n5 [] th .nil rest;refine c159z ?_;refine c8.aC (hT e (z8 e.k (bJ s)) s.code s.sites++[⟨0,false,190,11,[.int .i64 8,.str ByteArray.empty,.int .i64 a.op,.int .i64 a.num,.str a.name,.vec a.args.length (n7 a.args),.str n5.name,.vec n5.idx.length (n7 n5.idx),.vec (([]:List Ar)).length (bE ([]:List Ar)),.vec (Go.Un.Sl.len th) (o9 th),.vec (Go.Un.Sl.len Go.Un.Sl.nil) (o9 Go.Un.Sl.nil)],0⟩]) rfl ?_;refine c267z ?_;refine c9z ?_;refine c38z ?_;refine c9z ?_;refine c111z ?_;refine c22z ?_;refine c156z ?_;refine .n ?_;refine .c5 [0,1,4,5,6,7,14] ?_;have b1:Bnd (o4 (bJ s) ⟨6,0,false,fR s.l a,bW,[],[]⟩ s.st) th.wt:=⟨q1,t180,t163,t158,q5,t167,t159,t141⟩;refine c102z ?_;refine .nil ?_;have fc:=iO (l0:=s.l) (s:=o4 (bJ s) ⟨6,0,false,fR s.l a,bW,[],[]⟩ s.st) (S:=th);have fs:=iJ (l0:=s.l) (s:=o4 (bJ s) ⟨6,0,false,fR s.l a,bW,[],[]⟩ s.st) (S:=th);rw[cC,gP]at fc;rw[bQ,eS]at fs;change _≤(dQ s a th).code.length∧(dQ s a th).code.length≤_ at fc;change _≤(dQ s a th).sites.length∧(dQ s a th).sites.length≤_ at fs;change c8 _ _ _ ⟨mkS _ _,hT e (z8 e.k (dQ s a th)) (dQ s a th).code (dQ s a th).sites++_⟩ _;refine c28z ?_;refine .ch rfl rfl (gA (mL t47 t44 ⟨7,((s.code.length:Nat):Int),false,l4,bW,[],[]⟩ s.st t24)) ?_;refine .nil ?_;refine .c5 [0,1,4,5,14] ?_;change c8 _ _ _ ⟨mkS _ _,hT e (z8 e.k (D9 s a th)) (D9 s a th).code (D9 s a th).sites++_⟩ _;have jc:(D9 s a th).code.length=(dQ s a th).code.length+1:=cC;refine c115z ?_;refine c168z ?_;refine .p 3 ?_;refine c173z ?_;exact .mk _ (by rw[tK];rfl)
theorem c_blk9 {e:Frm}{c:Ctx}(sc:SC E c vs s.l)(bd:Bd E c s.p)(B:Bnd s W)(hW:1≤W):c8 Tryz.prog cfg (qW [1,0,1,0,0,1,0] (jL Tryz.f133)) ⟨mkS 253 [(0,AV.ptr e.k 0 0),(1,AV.vec (Go.Un.Sl.len (pre.app (.cons 9 ByteArray.empty l4 n5 [] .nil .nil rest))) (o9 (pre.app (.cons 9 ByteArray.empty l4 n5 [] .nil .nil rest)))),(4,AV.vec l0.length (j5 l0)),(5,AV.int .i64 ((pre.len:Nat):Int))],(hT e (z8 e.k s) s.code s.sites)⟩ (Led 253 [(0,AV.ptr e.k 0 0),(1,AV.vec (Go.Un.Sl.len (pre.app (.cons 9 ByteArray.empty l4 n5 [] .nil .nil rest))) (o9 (pre.app (.cons 9 ByteArray.empty l4 n5 [] .nil .nil rest)))),(4,AV.vec l0.length (j5 l0)),(5,AV.int .i64 ((pre.len:Nat):Int))] ((hT e (z8 e.k (o4 (bJ s) ⟨8,0,false,l4,bW,[],[]⟩ s.st)) ((o4 (bJ s) ⟨8,0,false,l4,bW,[],[]⟩ s.st)).code ((o4 (bJ s) ⟨8,0,false,l4,bW,[],[]⟩ s.st)).sites))):=by obtain ⟨q1,q2,q3,q4,q5,q6,q7,q8⟩:=B;have hlc:=@w9 pre 9 ByteArray.empty l4 n5 [] .nil .nil rest;refine c159z ?_;refine c8.aC (hT e (z8 e.k (bJ s)) s.code s.sites++[⟨0,false,190,11,[.int .i64 9,.str ByteArray.empty,.int .i64 l4.op,.int .i64 l4.num,.str l4.name,.vec l4.args.length (n7 l4.args),.str n5.name,.vec n5.idx.length (n7 n5.idx),.vec (([]:List Ar)).length (bE ([]:List Ar)),.vec (Go.Un.Sl.len Go.Un.Sl.nil) (o9 Go.Un.Sl.nil),.vec (Go.Un.Sl.len Go.Un.Sl.nil) (o9 Go.Un.Sl.nil)],0⟩]) rfl ?_;refine c267z ?_;refine c9z ?_;refine c38z ?_;refine c121z ?_;refine .c5 [0,1,4,5,7] ?_;refine .r ?_;refine .e 3 ?_;refine .ch rfl rfl (gA (mL t47 t44 ⟨8,0,false,l4,bW,[],[]⟩ s.st t24)) ?_;refine .nil ?_;exact .mk _ rfl
theorem Bnd.mono {W':Nat}(h:Bnd s W)(hw:W'≤W):Bnd s W':=by obtain ⟨q1,q2,q3,q4,q5,q6,q7,q8⟩:=h;exact ⟨q1,by omega,by omega,by omega,q5,by omega,q7,by omega⟩
theorem Bnd.ins (h:Bnd s (1+W))(i:Ins):Bnd (o4 (bJ s) i s.st) W:=by obtain ⟨q1,q2,q3,q4,q5,q6,q7,q8⟩:=h;exact ⟨q1,t180,t163,t158,q5,t167,t159,t141⟩
theorem Bnd.var (h:Bnd s (1+W))(i:Ins)(n:BA):Bnd (rC (o4 (bJ s) i s.st) n) W:=by obtain ⟨q1,q2,q3,q4,q5,q6,q7,q8⟩:=h;exact ⟨by simp[rC],by show (s.l++[_]).length+_≤_;simp;omega,by show (o4 (bJ s) i s.st).code.length+_≤_;rw[cC,gP];omega,by show (o4 (bJ s) i s.st).sites.length+_≤_;rw[bQ,eS];omega,by show 0≤s.loc+1;omega,by show s.loc+1+_≤_;omega,t159,t141⟩
theorem Bnd.fin (h:Bnd s (S.wt+W)):Bnd (cO s.l s S) W:=by obtain ⟨q1,q2,q3,q4,q5,q6,q7,q8⟩:=h;have h1:=iO (l0:=s.l) (s:=s) (S:=S);have h2:=iJ (l0:=s.l) (s:=s) (S:=S);have h3:=rT S s.loc;exact ⟨q1,by show s.l.length+_≤_;omega,by omega,by omega,by show 0≤fT S s.loc;omega,by show fT S s.loc+_≤_;omega,by show 0≤s.st+(S.wt:Int);omega,by show s.st+(S.wt:Int)+_≤_;omega⟩
theorem Bnd.tgt {i:Nat}{v:Int}(h:Bnd s W):Bnd (cK s i v) W:=by obtain ⟨q1,q2,q3,q4,q5,q6,q7,q8⟩:=h;exact ⟨q1,q2,by rw[kB];exact q3,q4,q5,q6,q7,q8⟩
theorem Bnd.put2 (h:Bnd s W)(i:Ins)(t:Int)(hc:s.code.length+1+2*W≤5000)(hs:s.sites.length+1+2*W≤5000):Bnd (o4 s i t) W:=by obtain ⟨q1,q2,q3,q4,q5,q6,q7,q8⟩:=h;exact ⟨q1,by rw[T3];omega,by rw[cC];omega,by rw[bQ];omega,q5,by rw[vO];omega,q7,by rw[AU];omega⟩
variable {a:Ex}
theorem K9 (h:Bnd s (1+th.wt+W)):Bnd (dQ s a th) W∧(dQ s a th).code.length+1+2*W≤5000∧(dQ s a th).sites.length+1+2*W≤5000:=by have h1:=(show Bnd s (1+(th.wt+W)) from h.mono (by omega)).ins ⟨6,0,false,fR s.l a,bW,[],[]⟩;have h2:=iO (l0:=s.l) (s:=o4 (bJ s) ⟨6,0,false,fR s.l a,bW,[],[]⟩ s.st) (S:=th);have h3:=iJ (l0:=s.l) (s:=o4 (bJ s) ⟨6,0,false,fR s.l a,bW,[],[]⟩ s.st) (S:=th);rw[cC,gP]at h2;rw[bQ,eS]at h3;have q3:=h.cb;have q4:=h.sb;exact ⟨h1.fin,by show (cO s.l (o4 (bJ s) _ s.st) th).code.length+1+2*W≤5000;omega,by show (cO s.l (o4 (bJ s) _ s.st) th).sites.length+1+2*W≤5000;omega⟩
theorem SB (h:Bnd s (1+th.wt+(el.wt+W))):Bnd (dR s a th el) W:=by obtain ⟨h1,h2,h3⟩:=K9 (a:=a) h;exact (((h1.put2 ⟨7,0,false,l4,bW,[],[]⟩ s.st h2 h3).tgt (i:=s.code.length) (v:=((stJ s a th).code.length:Int)))).fin
theorem SD {e:Frm}{c:Ctx}(sc:SC E c vs s.l)(bd:Bd E c s.p){k:Int}{n:BA}(hG:GS E (.cons k n a r xs th el rest) vs)(B:Bnd s (Sl.cons k n a r xs th el rest).wt)(ih:∀T:Sl,(T=th∨T=el)→GS E T vs→(∀s':Sco,SC E c vs s'.l→s'.p=s.p→Bnd s' T.wt→∀e:Frm,CH 133 [.ptr e.k 0 0,.vec T.len (o9 T)] (hT e (z8 e.k s') (s').code (s').sites) (.tup []) (hT e (z8 e.k (cO s'.l s' T)) ((cO s'.l s' T)).code ((cO s'.l s' T)).sites))):∃s' vs',SC E c vs' s'.l∧GS E rest vs'∧s'.p=s.p∧Bnd s' rest.wt∧cO l0 s' rest=cO l0 s (.cons k n a r xs th el rest)∧c8 Tryz.prog cfg (qW [1,0,1,0,0,1,0] (jL Tryz.f133)) ⟨mkS 253 [(0,AV.ptr e.k 0 0),(1,AV.vec (Go.Un.Sl.len (pre.app (.cons k n a r xs th el rest))) (o9 (pre.app (.cons k n a r xs th el rest)))),(4,AV.vec l0.length (j5 l0)),(5,AV.int .i64 ((pre.len:Nat):Int))],(hT e (z8 e.k s) s.code s.sites)⟩ (Led 253 [(0,AV.ptr e.k 0 0),(1,AV.vec (Go.Un.Sl.len (pre.app (.cons k n a r xs th el rest))) (o9 (pre.app (.cons k n a r xs th el rest)))),(4,AV.vec l0.length (j5 l0)),(5,AV.int .i64 ((pre.len:Nat):Int))] (hT e (z8 e.k s') (s').code (s').sites)):=by
  rcases hG with ⟨rfl,⟨j,hj,rfl⟩,hn,he,rfl,rfl,rfl,rfl,hr⟩ | ⟨rfl,hn,he,rfl,rfl,rfl,rfl,hr⟩ | ⟨rfl | rfl,⟨f,hf,rfl,ha⟩,rfl,rfl,rfl,rfl,hr⟩ | ⟨rfl | rfl,rfl,rfl,hR,rfl,rfl,rfl,hr⟩ | ⟨rfl,rfl,he,rfl,rfl,hth,hel,hr⟩ | ⟨rfl,rfl,he,rfl,rfl,hth,rfl,hr⟩ | ⟨rfl,rfl,rfl,rfl,rfl,rfl,rfl,hr⟩
  all_goals simp only[Sl.wt,Nat.add_zero]at B
  · exact ⟨(rC (o4 (bJ s) ⟨1,s.loc,false,fR s.l a,bW,[],[]⟩ s.st) (vnm j)),_,sc.push hj hn s.loc,hr,rfl,B.var _ _,fin_var,c_blk1 sc bd B (by omega) j hj hn a he⟩
  · exact ⟨(o4 (bJ s) ⟨1,(eU s.l n).n,(eU s.l n).kind==1,fR s.l a,bW,[],[]⟩ s.st),vs,sc,hr,rfl,B.ins _,rE (by simp only[o7,show ¬(2:Int)=1 from by decide,if_true,if_false];rfl) (by decide),c_blk2 sc bd B (by omega) n hn a he⟩
  · exact ⟨(o4 (bJ s) ⟨2,(eU s.l f.1).n,false,l4,bW,aS s.l xs,z6 s.l xs⟩ s.st),vs,sc,hr,rfl,B.ins _,rE (by simp only[o7,show ¬(3:Int)=1 from by decide,show ¬(3:Int)=2 from by decide,show ¬(3:Int)=4 from by decide,true_or,if_true,if_false]) (by decide),c_blk3 sc bd B (by omega) f hf xs ha⟩
  · exact ⟨(o4 (bJ s) ⟨3,(eU s.l f.1).n,false,l4,bW,aS s.l xs,z6 s.l xs⟩ s.st),vs,sc,hr,rfl,B.ins _,rE (by simp only[o7,show ¬(4:Int)=1 from by decide,show ¬(4:Int)=2 from by decide,or_true,if_true,if_false]) (by decide),c_blk4 sc bd B (by omega) f hf xs ha⟩
  · exact ⟨(o4 (bJ s) ⟨4,0,false,l4,qY s.l r,[],[]⟩ s.st),vs,sc,hr,rfl,B.ins _,rE (by simp only[o7,show ¬(5:Int)=1 from by decide,show ¬(5:Int)=2 from by decide,show ¬((5:Int)=3∨(5:Int)=4) from by decide,if_true,if_false]) (by decide),c_blk5 sc bd B (by omega) r hR⟩
  · exact ⟨(o4 (bJ s) ⟨5,0,false,l4,qY s.l r,[],[]⟩ s.st),vs,sc,hr,rfl,B.ins _,rE (by simp only[o7,show ¬(6:Int)=1 from by decide,show ¬(6:Int)=2 from by decide,show ¬((6:Int)=3∨(6:Int)=4) from by decide,show ¬(6:Int)=5 from by decide,if_true,if_false]) (by decide),c_blk6 sc bd B (by omega) r hR⟩
  · by_cases h0:0<el.len
    · exact ⟨(cK (dR s a th el) (dQ s a th).code.length ((dR s a th el).code.length:Int)),vs,sc,hr,rfl,(SB (B.mono (by omega))).tgt,SA h0,c_blk17 sc bd B a he th el h0 (by omega) (ih _ (.inl rfl) hth) (ih _ (.inr rfl) hel)⟩
    · obtain rfl:=len_nil.1 h0
      simp only[Sl.wt,Nat.add_zero]at B;exact ⟨(cK (dQ s a th) s.code.length ((dQ s a th).code.length:Int)),vs,sc,hr,rfl,(K9 B).1.tgt,fin_if,c_blk7 sc bd B a he th (by omega) (ih _ (.inl rfl) hth)⟩
  · exact ⟨(cK (D9 s a th) s.code.length ((D9 s a th).code.length:Int)),vs,sc,hr,rfl,((K9 (a:=a) B).1.put2 _ _ (K9 B).2.1 (K9 B).2.2).tgt,fin_wh,c_blk8 sc bd B a he th (by omega) (ih _ (.inl rfl) hth)⟩
  · exact ⟨(o4 (bJ s) ⟨8,0,false,l4,bW,[],[]⟩ s.st),vs,sc,hr,rfl,B.ins _,rE (by simp only[o7,show ¬(9:Int)=1 from by decide,show ¬(9:Int)=2 from by decide,show ¬((9:Int)=3∨(9:Int)=4) from by decide,show ¬(9:Int)=5 from by decide,show ¬(9:Int)=6 from by decide,show ¬(9:Int)=7 from by decide,show ¬(9:Int)=8 from by decide,if_false]) (by decide),c_blk9 sc bd B (by omega)⟩
theorem fin_nil:cO l0 s .nil={ s with l:=l0 }:=by
  refine Sco.eq rfl rfl rfl ?_ ?_ ?_
  · simp[cO,Sl.wt]
  · simp[cO,o7]
  · simp[cO,cI]
theorem SE {c:Ctx}(S:Sl)(hSl:S.wt≤1000)(vars:List BA)(s:Sco)(sc0:SC E c vars s.l)(hG0:GS E S vars)(bd:Bd E c s.p)(B0:Bnd s S.wt)(e:Frm)(ih:∀S':Sl,S'.wt<S.wt→∀(vars:List BA) (s:Sco),SC E c vars s.l→GS E S' vars→Bd E c s.p→Bnd s S'.wt→∀e:Frm,CH 133 [.ptr e.k 0 0,.vec S'.len (o9 S')] (hT e (z8 e.k s) (s).code (s).sites) (.tup []) (hT e (z8 e.k (cO s.l s S')) ((cO s.l s S')).code ((cO s.l s S')).sites)):CH 133 [.ptr e.k 0 0,.vec S.len (o9 S)] (hT e (z8 e.k s) s.code s.sites) (.tup []) (hT e (z8 e.k (cO s.l s S)) ((cO s.l s S)).code ((cO s.l s S)).sites):=by
  refine .wz Tryz.f133 253 ?_;have hlw:=dD S;refine c17z ?_;refine .u0 (fun m st=>∃(Z:Sl) (pre:Sl) (rst:Sl) (vs:List BA) (cur:Sco),(m=rst.len∧(Z=S∧S=pre.app rst∧GS E rst vs∧SC E c vs cur.l∧cur.p=s.p∧Bnd cur rst.wt∧cO s.l cur rst=cO s.l s S))∧st=⟨mkS 253 [(0,AV.ptr e.k 0 0),(1,AV.vec (Go.Un.Sl.len Z) (o9 Z)),(4,AV.vec s.l.length (j5 s.l)),(5,AV.int .i64 ((pre.len:Nat):Int))],hT e (z8 e.k cur) cur.code cur.sites⟩) (.v ⟨S,Sl.nil,S,vars,s,⟨rfl,⟨rfl,rfl,hG0,sc0,rfl,B0,rfl⟩⟩,rfl⟩ (hs:=t9) (hr:=t89)) ?_;rintro m sl h' ⟨Z,pre,rst,vs,cur,⟨hm,⟨hZ,hS,hG,sc,hp,B,hF⟩⟩,hst⟩;obtain ⟨rfl,rfl⟩:=St.mk.inj hst;clear hst;subst hZ;have hlen:=congrArg Go.Un.Sl.len hS;rw[Go.Un.Sl.cB]at hlen;refine c0z ?_;refine u2z ?_ ?_
  ·intro e1 qe1;refine c204z ?_;obtain ⟨k,n,a,r,xs,th,el,rest,rfl⟩:=Go.Un.Sl.oD (s:=rst) (by omega);subst hS;have hwc:=@S3 pre k n a r xs th el rest;have hlc:=@w9 pre k n a r xs th el rest;obtain ⟨s2,vs2,r1,r2,r3,r4,r5,hrun⟩:=SD (e:=e) (l0:=s.l) (pre:=pre) sc (by rw[hp];exact bd) hG B (fun T hT hgT s' q1 q2 q3 e'=>ih T (by rcases hT with rfl | rfl<;>omega) _ s' q1 hgT (by rw[q2,hp];exact bd) q3 e');refine c8.fitS [(0,AV.ptr e.k 0 0),(1,AV.vec (Go.Un.Sl.len (pre.app (.cons k n a r xs th el rest))) (o9 (pre.app (.cons k n a r xs th el rest)))),(4,AV.vec s.l.length (j5 s.l)),(5,AV.int .i64 ((pre.len:Nat):Int))] ?_;refine c8.led (hrun) ?_;intro lq hq haq;change c8 ..;refine c8.fitS [(0,AV.ptr e.k 0 0),(1,AV.vec (Go.Un.Sl.len (pre.app (.cons k n a r xs th el rest))) (o9 (pre.app (.cons k n a r xs th el rest)))),(4,AV.vec s.l.length (j5 s.l)),(5,AV.int .i64 ((pre.len:Nat):Int))] ?_ haq;refine .rz ?_;exact ⟨_,by omega,.v ⟨_,(pre.app (.cons k n a r xs th el .nil)),rest,vs2,s2,⟨rfl,⟨rfl,eI,r2,r1,r3.trans hp,r4,r5.trans hF⟩⟩,rfl⟩ (he:=by rfl) (hl:=by simp only[aG];exact Nat.le_refl _) (hk:=by exact hT_keep rfl) (hs:=t9) (hr:=t89)⟩
  intro e1 qe1;refine .exit ?_;have hr0:rst=.nil:=Sl.zP (by omega);subst hr0;change c8 ..;refine .rz ?_;refine Ends.n ?_;exact ⟨hT e ⟨0,false,198,10,[.vec cur.p.globals.length (p4 cur.p.globals),.vec cur.p.mutexes.length (c9 cur.p.mutexes),.vec cur.p.funcs.length (n8 cur.p.funcs),.vec s.l.length (j5 s.l),.int .i64 cur.loc,.int .i64 cur.st,.int .i64 0,.int .i64 0,.own (e.k+1) cur.code.length 0 cur.code.length,.own (e.k+2) cur.sites.length 0 cur.sites.length],0⟩ cur.code cur.sites,[],_,(List.append_nil _).symm,by (simp only[aG];exact Nat.le_refl _),(B3 (gK.get ⟨.vec _ _,.vec _ _,.vec _ _,.vec _ _,.int _ _,.int _ _,.int _ _,.int _ _,.own _ _ _ _ e.lt.2.1,.own _ _ _ _ e.lt.2.2,trivial⟩)),rfl,by rw[←hF,fin_nil];exact ⟨rfl,rfl⟩⟩
theorem AW {E:Env}{c:Ctx}:∀(n:Nat) (S:Sl),S.wt≤n→n≤1000→∀(vars:List BA) (s:Sco),SC E c vars s.l→GS E S vars→Bd E c s.p→Bnd s S.wt→∀e:Frm,CH 133 [.ptr e.k 0 0,.vec S.len (o9 S)] (hT e (z8 e.k s) (s).code (s).sites) (.tup []) (hT e (z8 e.k (cO s.l s S)) ((cO s.l s S)).code ((cO s.l s S)).sites)
  | n,S,hn,h1,vars,s,sc,hG,bd,B,e=>by
    refine SE S (by omega) vars s sc hG bd B e (fun S' hS'=>?_);cases n with
    | zero=>omega
    | succ n=>exact AW n S' (by omega) (by omega)
end Go.Proofs.YtonbocmibeikmaaGreat
end
