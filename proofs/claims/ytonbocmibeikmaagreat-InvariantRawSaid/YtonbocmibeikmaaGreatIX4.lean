/- My own texts, put together by a program of mine. -/
import Derived.Test.YtonbocmibeikmaaGreatIX3
set_option linter.unusedSimpArgs false
set_option linter.unusedVariables false
set_option maxRecDepth 100000
set_option maxHeartbeats 4000000
section
namespace Go.Proofs.YtonbocmibeikmaaGreat
open Go.Ab Go.Un
theorem ET {l:List Ex}{x:Ex}:o2 (l++[x])=o2 l++w8 x:=by simp[o2]
theorem V1 {l:List Pl}{x:Pl}:eS (l++[x])=eS l++M0 x:=by simp[eS]
section
variable {e:Frm}{b b0 b1 b2 b3 b4 b5 b6:Blk}{c:List Ins}{ss:List Int}{l:c6}{es:List Ex}{x:Ex}{ps:List Pl}{p:Pl}{g n:Nat}
theorem JX (hn:es.length=n)(hl:n<100000):j9 cfg 49 (hT e b c ss++(b0::b1::b2::b3::s8 49 4 g (o2 es)::b5::b6::⟨0,false,49,4,w8 x,0⟩::l)) (.own (e.n+4) g 0 n) (.own (e.n+7) 0 0 1)=some (.own (e.n+4) (g+1) 0 (n+1),hT e b c ss++(b0::b1::b2::b3::s8 49 4 (g+1) (o2 (es++[x]))::b5::b6::⟨0,false,49,4,w8 x,0⟩::l)):=by subst hn;rw[aJ (C:=cfg) (K:=4) (m:=1) (new:=w8 x) (zs:=o2 es) (by rw[fG];rfl) rfl (by omega) (by rw[cB,Nat.mul_comm]) (by rw[o7]) (by omega) (by simp[rd,fG,o7,iF]) rfl (by decide) (by omega),←ET,jD];rfl
theorem JY (hn:ps.length=n)(hl:n<100000):j9 cfg 51 (hT e b c ss++(b0::b1::b2::b3::b4::s8 51 3 g (eS ps)::b6::⟨0,false,51,3,[.bool p.param,.int .i64 p.index,.vec p.at'.length (o2 p.at')],0⟩::l)) (.own (e.n+5) g 0 n) (.own (e.n+7) 0 0 1)=some (.own (e.n+5) (g+1) 0 (n+1),hT e b c ss++(b0::b1::b2::b3::b4::s8 51 3 (g+1) (eS (ps++[p]))::b6::⟨0,false,51,3,[.bool p.param,.int .i64 p.index,.vec p.at'.length (o2 p.at')],0⟩::l)):=by subst hn;rw[aJ (C:=cfg) (K:=3) (m:=1) (new:=M0 p) (zs:=eS ps) (by rw[fG];rfl) rfl (by omega) t228 rfl (by omega) (by simp[rd,fG,M0]) rfl (by decide) (by omega),←V1,jD];rfl
end
theorem hT_same {e:Frm}{b:Blk}{c:List Ins}{ss:List Int}{l l':c6}(hl:oU (e.n+l'.length) l l'):aI (hT e b c ss++l) (hT e b c ss++l'):=
  (aI.refl _).app rfl (by rw[bF];exact hl)
variable {E:Env}{vars:List BA}{xs:List Ar}
theorem GAs.mu {ps:List Pm}(h:GAs E vars ps xs):ps.length=xs.length∧∀i,i<xs.length→(xs.getD i eR).mu=(ps.getD i jL).mu:=by
  induction ps generalizing xs with
  | nil=>
    cases xs with
    | nil=>exact ⟨rfl,fun i hi=>by simp at hi⟩
    | cons=>exact h.elim
  | cons p ps ih=>
    cases xs with
    | nil=>exact h.elim
    | cons a xs=>
      obtain ⟨⟨h1,_⟩,h3⟩:=h;obtain ⟨i1,i2⟩:=ih h3;refine ⟨by simp[i1],fun i hi=>?_⟩;cases i with
      | zero=>exact h1
      | succ i=>exact i2 i (by simpa using hi)
theorem ar_is {ps:List Pm}(h:GAs E vars ps xs){i:Nat}(hi:i<xs.length):((xs.getD i eR).mu=true→GR E vars (xs.getD i eR).r)∧((xs.getD i eR).mu=false→GE vars 2 (xs.getD i eR).e):=by
  induction ps generalizing xs i with
  | nil=>
    cases xs with
    | nil=>simp at hi
    | cons=>exact h.elim
  | cons p ps ih=>
    cases xs with
    | nil=>exact h.elim
    | cons a xs=>
      obtain ⟨⟨h1,h2⟩,h3⟩:=h;cases i with
      | succ i=>exact ih h3 (by simpa using hi)
      | zero=>
        simp only[List.getD_cons_zero];rcases h2 with ⟨q1,q2,_⟩ | ⟨q1,_,q3⟩
        · exact ⟨fun _=>q2,fun h=>absurd ((h1.trans q1).symm.trans h) (by decide)⟩
        · exact ⟨fun h=>absurd ((h1.trans q1).symm.trans h) (by decide),fun _=>q3⟩
variable {i:Nat}
theorem E9 (hi:i<xs.length):xs.drop i=xs.getD i eR::xs.drop (i+1):=by rw[List.drop_eq_getElem_cons hi];simp[List.getD,hi]
theorem cEx_t {l:List Ent}(hi:i<xs.length)(h:(xs.getD i eR).mu=true){es:List Ex}(he:bO l xs=es++bO l (xs.drop i)):bO l xs=es++bO l (xs.drop (i+1)):=by rw[he,E9 hi,bO,if_pos h]
theorem cEx_f {l:List Ent}(hi:i<xs.length)(h:(xs.getD i eR).mu=false){es:List Ex}(he:bO l xs=es++bO l (xs.drop i)):bO l xs=(es++[iB l (xs.getD i eR).e])++bO l (xs.drop (i+1)):=by rw[he,E9 hi,bO,if_neg t219];simp
theorem cPl_t {l:List Ent}(hi:i<xs.length)(h:(xs.getD i eR).mu=true){ps:List Pl}(he:aU l xs=ps++aU l (xs.drop i)):aU l xs=(ps++[sC l (xs.getD i eR).r])++aU l (xs.drop (i+1)):=by rw[he,E9 hi,aU,if_pos h];simp
theorem cPl_f {l:List Ent}(hi:i<xs.length)(h:(xs.getD i eR).mu=false){ps:List Pl}(he:aU l xs=ps++aU l (xs.drop i)):aU l xs=ps++aU l (xs.drop (i+1)):=by rw[he,E9 hi,aU,if_neg t219]
theorem BI {l:List Ar}(h:i<l.length):List.take 7 (List.drop (i*7) (cC l))=[.bool (l.getD i eR).mu,.str (l.getD i eR).r.name,.vec (l.getD i eR).r.idx.length (o2 (l.getD i eR).r.idx),.int .i64 (l.getD i eR).e.op,.int .i64 (l.getD i eR).e.num,.str (l.getD i eR).e.name,.vec (l.getD i eR).e.args.length (o2 (l.getD i eR).e.args)]:=by rw[wD h,wV]
variable {s:Sco}
theorem TA (hl:s.l.length<1000000)(t:Int)(hv:∀x∈vars,∃v,cO s.l x=some v∧(v.kind=1∨v.kind=4)){d:Nat}{a:Ex}(g:GE vars d a)(e:Frm):CB 166 [.ptr e.k 0 0,.agg [.int .i64 a.op,.int .i64 a.num,.str a.name,.vec a.args.length (o2 a.args)],.int .i64 t] (hT e (aW e.k s) s.code s.sites) (.agg (w8 (iB s.l a))):=by rw[←cM];exact Pc hl t hv g e
theorem JZ {e:Frm}(hl:s.l.length<1000000)(t:Int){c:Ctx}(sc:SC E c vars s.l)(hE:E.c4=s.p.c4)(hc:c.nm=s.p.c4.length){r:Rf}(g:GR E vars r):CB 169 [.ptr e.k 0 0,.agg [.str r.name,.vec r.idx.length (o2 r.idx)],.int .i64 t] (hT e (aW e.k s) s.code s.sites) (.agg [.bool (sC s.l r).param,.int .i64 (sC s.l r).index,.vec (sC s.l r).at'.length (o2 (sC s.l r).at')]):=c_refL hl t sc hE hc g
attribute [local go_sem] rd v7 o7 cB dQ p7 bN iA eO n6 bX bK l8 cD Int.natCast_nonneg Int.natCast_inj List.length_map wrap64 iF kP kQ AQ M7 T7 AR D0 max2 gM dY cG Nat.reduceMul oG lL aW jY qZ mL wY bF hT_0 hT_1 hT_2 SV SW SX fG E7 jD U8 SY BE oI O1 BH JX JY
section
attribute [local go_sem] O1 BH
theorem c_put {e:Frm}(hc:s.code.length<10000)(hs:s.sites.length<10000)(i:Ins)(t:Int):CH 134 [.ptr e.k 0 0,.agg (fT i),.int .i64 t] (hT e (aW e.k s) s.code s.sites) (.int .i64 ((s.code.length:Nat):Int)) (hT e (aW e.k {s with code:=s.code++[i],sites:=s.sites++[t]}) (s.code++[i]) (s.sites++[t])):=by rw[mM];refine .wz Tryz.f134 33 ?_;refine .z ?_;refine .sg z8 (mkH 22 [0,0,0,4,12,28,0,64,252,0,512,1536,3584,0,8192,32764,65533,131069,262141,524287,1048575,2097151] [7,8,14,15,18,21] [(7,0),(14,1)] [0,128,384,16384,16512,16768,49536,311680,2408832] [0,1,2,3,4,5,6,7,8,9,10,11,12]) 2 ?_;refine .p 5 ?_;refine .rm [true] ?_;refine .rm [true] ?_;refine .em [true] [128,0] [_] ?_;refine .em [true,false] [384,128,0] [_] ?_;refine .p 3 ?_;refine .rm [true,true,true] ?_;refine .p 1 ?_;refine .en [true,true,true] [16768,16512,16384,384,128,0] [_,_,_] ?_;refine .en [true,false,false,false,false,false] [49536,16768,16512,16384,384,128,0] [_] ?_;refine .p 2 ?_;refine .en [true,false,false,false,false,false,false] [311680,49536,16768,16512,16384,384,128,0] [_] ?_;refine .p 2 ?_;refine .en [true,false,false,false,false,false,false,false] [2408832,311680,49536,16768,16512,16384,384,128,0] [_] ?_;refine .po [false,false,false,true,true,true,true,true,true] ?_;refine .po [false,false,false,false,true,false,false,true,false] ?_;refine .po [false,false,false,false,false,true,false,false,true] ?_;refine .po [false,false,false,false,false,true,false,false,true] ?_;refine .po [false,false,false,false,true,true,false,true,true] ?_;refine aB.nil rfl ?_;refine .c7 [0] ?_;refine c28z ?_;exact ⟨hT _ _ _ _,_,_,rfl,by (simp only[bF];exact Nat.le_refl _),(E8 (iW.get ⟨.vec _ _,.vec _ _,.vec _ _,.vec _ _,.int _ _,.int _ _,.int _ _,.int _ _,.own _ _ _ _ e.lt.2.1,.own _ _ _ _ e.lt.2.2,trivial⟩)),t2,by exact ⟨congrArg (AV.int .i64) (by omega),by simp only[aW,List.length_append,List.length_cons,List.length_nil]⟩⟩
end
section
attribute [local go_sem] oI BI JX JY
theorem c_call3 {e:Frm}(hl:s.l.length<1000000)(t:Int){c:Ctx}(sc:SC E c vars s.l)(hE:E.c4=s.p.c4)(hc:c.nm=s.p.c4.length){x y:BA}{n:Int}(hf:cO s.l x=some ⟨y,3,n⟩)(hn:0≤n∧n<s.p.funcs.length){ps:List Pm}(hp:(s.p.funcs.getD n.toNat j7).params=ps)(hp2:ps.length≤2)(ha:GAs E vars ps xs):CB 168 [.ptr e.k 0 0,.agg [.int .i64 3,.str x,.int .i64 0,.int .i64 0,.str ByteArray.empty,.vec 0 [],.str ByteArray.empty,.vec 0 [],.vec xs.length (cC xs),.vec 0 [],.vec 0 []],.int .i64 t] (hT e (aW e.k s) s.code s.sites) (.agg (fT ⟨2,n,false,l9,cS,bO s.l xs,aU s.l xs⟩)):=by
  refine .bz Tryz.f168 112 ?_;refine c75z ?_;refine c1z ?_;refine c20z ?_;refine c26z ?_;refine c136z ?_;refine c265z ?_;refine .sb ?_;refine .c7 [0,2,4,6,7,8,9] ?_;refine c33z ?_;refine c5z ?_;refine c185z ?_;refine .ss z8 (mkP 11 [0,1,3,7,15,0,32,127,255,511,1023] []) ?_;refine c47z ?_;refine .seq ?_;refine .c7 [0,2,4,6,7,10,54] ?_;have hml:=GAs.mu ha;have hml1:=hml.1;rw[hp];refine .z ?_;refine .spl 61 rfl rfl (fun e1=>by exfalso;have hml1:=(GAs.mu ha).1;have q:=fact e1;omega) (fun e1=>?_);try simp only[e1]
  have qe1:=fact e1;refine c20z ?_;refine c7z ?_;refine c9.oV (β:=e.n+2) (k:=10) t106 rfl ?_;simp only[List.append_assoc,List.cons_append,List.nil_append,fG,jD,List.set_cons_succ,List.set_cons_zero,List.length_append,bF,List.length_cons,List.length_nil,Nat.reduceAdd,Nat.zero_add];refine c9.oV (β:=e.n+2) (k:=11) t106 rfl ?_;simp only[List.append_assoc,List.cons_append,List.nil_append,fG,jD,List.set_cons_succ,List.set_cons_zero,List.length_append,bF,List.length_cons,List.length_nil,Nat.reduceAdd,Nat.zero_add];refine .aN (fun m st=>∃(q:Nat) (es:List Ex) (ps':List Pl) (gi:Nat) (gp:Nat),(m=ps.length-q∧(q≤ps.length∧bO s.l xs=es++bO s.l (xs.drop q)∧aU s.l xs=ps'++aU s.l (xs.drop q)∧es.length≤q∧ps'.length≤q))∧st=⟨mkS 112 [(0,AV.ptr e.k 0 0),(2,AV.int .i64 t),(4,AV.ptr e.n 0 0),(6,AV.ptr (e.n+1) 0 0),(7,AV.ptr (e.n+2) 0 0),(10,AV.vec ps.length (aC ps)),(11,AV.int .i64 ((q:Nat):Int))],(hT e (aW e.k s) s.code s.sites)++[⟨0,false,190,11,[.int .i64 3,.str x,.int .i64 0,.int .i64 0,.str ByteArray.empty,.vec 0 [],.str ByteArray.empty,.vec 0 [],.vec xs.length (cC xs),.vec 0 [],.vec 0 []],0⟩,⟨0,false,54,12,[.int .i64 0,.int .i64 0,.bool false,.int .i64 0,.int .i64 0,.str ByteArray.empty,.j4,.bool false,.int .i64 0,.j4,.j4,.j4],0⟩,⟨0,false,54,12,[.int .i64 2,.int .i64 n,.bool false,.int .i64 0,.int .i64 0,.str ByteArray.empty,.j4,.bool false,.int .i64 0,.j4,.own (e.n+4) gi 0 es.length,.own (e.n+5) gp 0 ps'.length],0⟩,⟨0,false,145,3,[.str y,.int .i64 3,.int .i64 n],0⟩,s8 49 4 gi (o2 es),s8 51 3 gp (eS ps')]⟩) (.v ⟨0,([]:List Ex),([]:List Pl),0,0,⟨rfl,⟨by omega,by simp,by simp,by simp,by simp⟩⟩,rfl⟩ (hr:=t21)) ?_;rintro m sl h' ⟨q,es,ps',gi,gp,⟨hm,⟨hq,hes,hps,hel,hpl⟩⟩,hst⟩;obtain ⟨rfl,rfl⟩:=St.mk.inj hst;clear hst;refine c1z ?_;refine u2z ?_ ?_
  ·intro e2 qe2;refine c3z ?_;have har:=ar_is ha (i:=q) (by omega);refine c23z ?_;refine .c7 [0,2,4,6,7,10,11,12] ?_;refine .ss z8 (mkP 8 [0,1,0,0,12,28,60,127] []) ?_;refine .n [] ?_;refine .spl 84 rfl rfl (fun e3=>by exfalso;have hml2:=(GAs.mu ha).2 q (by omega);simp_all) (fun e3=>?_);try simp only[e3]
   have qe3:=fact e3;refine c20z ?_;refine .c7 [0,2,4,6,7,10,11,12] ?_;refine .z ?_;refine u2z ?_ ?_
   ·intro e4 qe4;have hmu:(xs.getD q eR).mu=true:=by assumption
    refine c55z ?_;refine c187z ?_;refine c72z ?_;refine .cn [true] [64,0] [_] rfl rfl t174 ?_;refine c100z ?_;refine c125z ?_;refine c58z ?_;refine c208z ?_;refine .rz ?_;exact ⟨_,by omega,.v ⟨(q+1),es,(ps'++[sC s.l (xs.getD q eR).r]),gi,(gp+1),⟨rfl,⟨by omega,cEx_t (by omega) hmu hes,cPl_t (by omega) hmu hps,by omega,t65⟩⟩,rfl⟩ (he:=t41) (hl:=t113) (hk:=t35) (hr:=t21)⟩
   intro e4 qe4;have hmu:(xs.getD q eR).mu=false:=by assumption
   refine c55z ?_;refine c187z ?_;refine c72z ?_;refine .cn [true] [64,0] [_] rfl rfl t176 ?_;refine c100z ?_;refine c125z ?_;refine c58z ?_;refine c208z ?_;refine .rz ?_;exact ⟨_,by omega,.v ⟨(q+1),(es++[iB s.l (xs.getD q eR).e]),ps',(gi+1),gp,⟨rfl,⟨by omega,cEx_f (by omega) hmu hes,cPl_f (by omega) hmu hps,t65,by omega⟩⟩,rfl⟩ (he:=t41) (hl:=t113) (hk:=t35) (hr:=t21)⟩
  intro e2 qe2;refine .exit ?_;obtain rfl:q=ps.length:=by omega
  rw[List.drop_of_length_le (by omega)]at hes hps;simp only[bO,aU,List.append_nil]at hes hps;refine c9.qQ (γ:=e.n+4) (β:=e.n+2) (k:=10) (len:=es.length) t106 (by rw[cB,Nat.mul_comm]) (by omega) (Ck _) t106 (by omega) rfl ?_;simp only[List.append_assoc,List.cons_append,List.nil_append,fG,jD,List.set_cons_succ,List.set_cons_zero,List.length_append,bF,List.length_cons,List.length_nil,Nat.reduceAdd,Nat.zero_add];refine c9.qQ (γ:=e.n+5) (β:=e.n+2) (k:=11) (len:=ps'.length) t106 t228 (by omega) (JV _) t106 (by omega) rfl ?_;simp only[List.append_assoc,List.cons_append,List.nil_append,fG,jD,List.set_cons_succ,List.set_cons_zero,List.length_append,bF,List.length_cons,List.length_nil,Nat.reduceAdd,Nat.zero_add];generalize gK 49 4 gi (o2 es) (es.length*4)=Eb;generalize gK 51 3 gp (eS ps') (ps'.length*3)=Pb;change c9 ..;refine c256z ?_;exact .ret (.ex (hf:=t2) (hq:=t229))
end
section
attribute [local go_sem] oI BI JX JY
theorem c_call4 {e:Frm}(hl:s.l.length<1000000)(t:Int){c:Ctx}(sc:SC E c vars s.l)(hE:E.c4=s.p.c4)(hc:c.nm=s.p.c4.length){x y:BA}{n:Int}(hf:cO s.l x=some ⟨y,3,n⟩)(hn:0≤n∧n<s.p.funcs.length){ps:List Pm}(hp:(s.p.funcs.getD n.toNat j7).params=ps)(hp2:ps.length≤2)(ha:GAs E vars ps xs):CB 168 [.ptr e.k 0 0,.agg [.int .i64 4,.str x,.int .i64 0,.int .i64 0,.str ByteArray.empty,.vec 0 [],.str ByteArray.empty,.vec 0 [],.vec xs.length (cC xs),.vec 0 [],.vec 0 []],.int .i64 t] (hT e (aW e.k s) s.code s.sites) (.agg (fT ⟨3,n,false,l9,cS,bO s.l xs,aU s.l xs⟩)):=by
  refine .bz Tryz.f168 112 ?_;refine c75z ?_;refine c1z ?_;refine .T ?_;refine c2z ?_;refine c26z ?_;refine c136z ?_;refine c265z ?_;refine .sb ?_;refine .c7 [0,2,4,6,7,8,9] ?_;refine c33z ?_;refine c5z ?_;refine c185z ?_;refine .ss z8 (mkP 11 [0,1,3,7,15,0,32,127,255,511,1023] []) ?_;refine c47z ?_;refine .seq ?_;refine .c7 [0,2,4,6,7,10,54] ?_;have hml:=GAs.mu ha;have hml1:=hml.1;rw[hp];refine .z ?_;refine .spl 61 rfl rfl (fun e1=>by exfalso;have hml1:=(GAs.mu ha).1;have q:=fact e1;omega) (fun e1=>?_);try simp only[e1]
  have qe1:=fact e1;refine c20z ?_;refine c7z ?_;refine c9.oV (β:=e.n+2) (k:=10) t106 rfl ?_;simp only[List.append_assoc,List.cons_append,List.nil_append,fG,jD,List.set_cons_succ,List.set_cons_zero,List.length_append,bF,List.length_cons,List.length_nil,Nat.reduceAdd,Nat.zero_add];refine c9.oV (β:=e.n+2) (k:=11) t106 rfl ?_;simp only[List.append_assoc,List.cons_append,List.nil_append,fG,jD,List.set_cons_succ,List.set_cons_zero,List.length_append,bF,List.length_cons,List.length_nil,Nat.reduceAdd,Nat.zero_add];refine .aN (fun m st=>∃(q:Nat) (es:List Ex) (ps':List Pl) (gi:Nat) (gp:Nat),(m=ps.length-q∧(q≤ps.length∧bO s.l xs=es++bO s.l (xs.drop q)∧aU s.l xs=ps'++aU s.l (xs.drop q)∧es.length≤q∧ps'.length≤q))∧st=⟨mkS 112 [(0,AV.ptr e.k 0 0),(2,AV.int .i64 t),(4,AV.ptr e.n 0 0),(6,AV.ptr (e.n+1) 0 0),(7,AV.ptr (e.n+2) 0 0),(10,AV.vec ps.length (aC ps)),(11,AV.int .i64 ((q:Nat):Int))],(hT e (aW e.k s) s.code s.sites)++[⟨0,false,190,11,[.int .i64 4,.str x,.int .i64 0,.int .i64 0,.str ByteArray.empty,.vec 0 [],.str ByteArray.empty,.vec 0 [],.vec xs.length (cC xs),.vec 0 [],.vec 0 []],0⟩,⟨0,false,54,12,[.int .i64 0,.int .i64 0,.bool false,.int .i64 0,.int .i64 0,.str ByteArray.empty,.j4,.bool false,.int .i64 0,.j4,.j4,.j4],0⟩,⟨0,false,54,12,[.int .i64 3,.int .i64 n,.bool false,.int .i64 0,.int .i64 0,.str ByteArray.empty,.j4,.bool false,.int .i64 0,.j4,.own (e.n+4) gi 0 es.length,.own (e.n+5) gp 0 ps'.length],0⟩,⟨0,false,145,3,[.str y,.int .i64 3,.int .i64 n],0⟩,s8 49 4 gi (o2 es),s8 51 3 gp (eS ps')]⟩) (.v ⟨0,([]:List Ex),([]:List Pl),0,0,⟨rfl,⟨by omega,by simp,by simp,by simp,by simp⟩⟩,rfl⟩ (hr:=t21)) ?_;rintro m sl h' ⟨q,es,ps',gi,gp,⟨hm,⟨hq,hes,hps,hel,hpl⟩⟩,hst⟩;obtain ⟨rfl,rfl⟩:=St.mk.inj hst;clear hst;refine c1z ?_;refine u2z ?_ ?_
  ·intro e2 qe2;refine c3z ?_;have har:=ar_is ha (i:=q) (by omega);refine c23z ?_;refine .c7 [0,2,4,6,7,10,11,12] ?_;refine .ss z8 (mkP 8 [0,1,0,0,12,28,60,127] []) ?_;refine .n [] ?_;refine .spl 84 rfl rfl (fun e3=>by exfalso;have hml2:=(GAs.mu ha).2 q (by omega);simp_all) (fun e3=>?_);try simp only[e3]
   have qe3:=fact e3;refine c20z ?_;refine .c7 [0,2,4,6,7,10,11,12] ?_;refine .z ?_;refine u2z ?_ ?_
   ·intro e4 qe4;have hmu:(xs.getD q eR).mu=true:=by assumption
    refine c55z ?_;refine c187z ?_;refine c72z ?_;refine .cn [true] [64,0] [_] rfl rfl t174 ?_;refine c100z ?_;refine c125z ?_;refine c58z ?_;refine c208z ?_;refine .rz ?_;exact ⟨_,by omega,.v ⟨(q+1),es,(ps'++[sC s.l (xs.getD q eR).r]),gi,(gp+1),⟨rfl,⟨by omega,cEx_t (by omega) hmu hes,cPl_t (by omega) hmu hps,by omega,t65⟩⟩,rfl⟩ (he:=t41) (hl:=t113) (hk:=t35) (hr:=t21)⟩
   intro e4 qe4;have hmu:(xs.getD q eR).mu=false:=by assumption
   refine c55z ?_;refine c187z ?_;refine c72z ?_;refine .cn [true] [64,0] [_] rfl rfl t176 ?_;refine c100z ?_;refine c125z ?_;refine c58z ?_;refine c208z ?_;refine .rz ?_;exact ⟨_,by omega,.v ⟨(q+1),(es++[iB s.l (xs.getD q eR).e]),ps',(gi+1),gp,⟨rfl,⟨by omega,cEx_f (by omega) hmu hes,cPl_f (by omega) hmu hps,t65,by omega⟩⟩,rfl⟩ (he:=t41) (hl:=t113) (hk:=t35) (hr:=t21)⟩
  intro e2 qe2;refine .exit ?_;obtain rfl:q=ps.length:=by omega
  rw[List.drop_of_length_le (by omega)]at hes hps;simp only[bO,aU,List.append_nil]at hes hps;refine c9.qQ (γ:=e.n+4) (β:=e.n+2) (k:=10) (len:=es.length) t106 (by rw[cB,Nat.mul_comm]) (by omega) (Ck _) t106 (by omega) rfl ?_;simp only[List.append_assoc,List.cons_append,List.nil_append,fG,jD,List.set_cons_succ,List.set_cons_zero,List.length_append,bF,List.length_cons,List.length_nil,Nat.reduceAdd,Nat.zero_add];refine c9.qQ (γ:=e.n+5) (β:=e.n+2) (k:=11) (len:=ps'.length) t106 t228 (by omega) (JV _) t106 (by omega) rfl ?_;simp only[List.append_assoc,List.cons_append,List.nil_append,fG,jD,List.set_cons_succ,List.set_cons_zero,List.length_append,bF,List.length_cons,List.length_nil,Nat.reduceAdd,Nat.zero_add];generalize gK 49 4 gi (o2 es) (es.length*4)=Eb;generalize gK 51 3 gp (eS ps') (ps'.length*3)=Pb;change c9 ..;refine c256z ?_;exact .ret (.ex (hf:=t2) (hq:=t229))
end
end Go.Proofs.YtonbocmibeikmaaGreat
end
section
namespace Go.Proofs.YtonbocmibeikmaaGreat
open Go.Ab Go.Un
def dH:Sl→Int→List Int
  | .nil,_=>[]
  | .cons k n e r xs th el rest,t=>
    if k=7 then t::(dH th (t+1)++((if 0<el.len then t::dH el (t+1+(th.wt:Int)) else [])++dH rest (t+1+(th.wt:Int)+(el.wt:Int))))
    else if k=8 then t::(dH th (t+1)++(t::dH rest (t+1+(th.wt:Int))))
    else t::dH rest (t+1)
theorem jS:∀(S:Sl) (t:Int),(dH S t).length≤2*S.wt
  | .nil,t=>by simp[dH]
  | .cons k n e r xs th el rest,t=>by
    have h1:=jS th (t+1);have h2:=jS el (t+1+(th.wt:Int));have h3:=jS rest (t+1+(th.wt:Int)+(el.wt:Int));have h4:=jS rest (t+1+(th.wt:Int));have h5:=jS rest (t+1);unfold dH;simp only[Sl.wt];split
    · split<;>simp only[List.length_cons,List.length_append,List.length_nil]<;>omega
    · split<;>simp only[List.length_cons,List.length_append]<;>omega
def tQ (c:List Ins)(i:Nat)(v:Int):List Ins:=c.set i { c.getD i g0 with target:=v }
theorem mN {c:List Ins}{i:Nat}{v:Int}:(tQ c i v).length=c.length:=by simp[tQ]
theorem F0 {c d:List Ins}{x:Ins}{i:Nat}{v:Int}(hi:i=c.length):tQ (c++(x::d)) i v=c++({ x with target:=v }::d):=by subst hi;simp[tQ,List.getD]
def cI (s:Sco):Sco:={ s with st:=s.st+1 }
def p8 (s:Sco)(i:Ins)(t:Int):Sco:={ s with code:=s.code++[i],sites:=s.sites++[t] }
def dJ (s:Sco)(i:Nat)(v:Int):Sco:={ s with code:=tQ s.code i v }
def sG (s:Sco)(n:BA):Sco:={ s with l:=s.l++[⟨n,4,s.loc⟩],loc:=s.loc+1 }
def dT (l0:List Ent)(s:Sco)(S:Sl):Sco:={ s with l:=l0,loc:=iC S s.loc,st:=s.st+(S.wt:Int),code:=s.code++r8 S s.l s.loc s.code.length,sites:=s.sites++dH S s.st }
variable {k:Nat}{s:Sco}
theorem uV {i:Nat}{v:Int}:aW k (dJ s i v)=aW k s:=by simp only[aW,dJ,mN]
variable {t:Int}
theorem TB {i:Ins}{n:BA}:aW k (sG (p8 (cI s) i t) n)=⟨0,false,198,10,[.vec s.p.globals.length (u0 s.p.globals),.vec s.p.c4.length (g6 s.p.c4),.vec s.p.funcs.length (o8 s.p.funcs),.vec (s.l.length+1) (j8 (s.l++[⟨n,4,s.loc⟩])),.int .i64 (s.loc+1),.int .i64 (s.st+1),.int .i64 0,.int .i64 0,.own (k+1) (s.code.length+1) 0 (s.code.length+1),.own (k+2) (s.sites.length+1) 0 (s.sites.length+1)],0⟩:=by simp only[aW,sG,p8,cI,List.length_append,List.length_cons,List.length_nil,Nat.zero_add]
theorem F1:(aW k s).gen=0:=rfl
theorem wZ:(aW k s).cQ=false:=rfl
theorem xA:(aW k s).elem=198:=rfl
theorem F2:(aW k s).esz=10:=rfl
theorem F3:(aW k s).frz=0:=rfl
theorem sH:(aW k s).cells=[.vec s.p.globals.length (u0 s.p.globals),.vec s.p.c4.length (g6 s.p.c4),.vec s.p.funcs.length (o8 s.p.funcs),.vec s.l.length (j8 s.l),.int .i64 s.loc,.int .i64 s.st,.int .i64 0,.int .i64 0,.own (k+1) s.code.length 0 s.code.length,.own (k+2) s.sites.length 0 s.sites.length]:=rfl
theorem KA:(cI s).l=s.l:=rfl
theorem BJ:(cI s).loc=s.loc:=rfl
theorem stSt_p:(cI s).p=s.p:=rfl
theorem iQ:(cI s).code.length=s.code.length:=rfl
theorem gC:(cI s).sites.length=s.sites.length:=rfl
theorem V2 {i:Ins}:(p8 s i t).l=s.l:=rfl
theorem xB {i:Ins}:(p8 s i t).loc=s.loc:=rfl
theorem BK {i:Ins}:(p8 s i t).st=s.st:=rfl
theorem stPut_p {i:Ins}:(p8 s i t).p=s.p:=rfl
theorem dB {i:Ins}:(p8 s i t).code.length=s.code.length+1:=by simp[p8]
theorem cP {i:Ins}:(p8 s i t).sites.length=s.sites.length+1:=by simp[p8]
theorem stTgt_l {i:Nat}:(dJ s i t).l=s.l:=rfl
theorem lM {i:Nat}:(dJ s i t).code.length=s.code.length:=mN
theorem pN {i:Nat}:(dJ s i t).sites.length=s.sites.length:=rfl
variable {l0:List Ent}{S:Sl}
theorem finS_l:(dT l0 s S).l=l0:=rfl
theorem finS_p:(dT l0 s S).p=s.p:=rfl
theorem kA:s.code.length≤(dT l0 s S).code.length∧(dT l0 s S).code.length≤s.code.length+2*S.wt:=by have:=gL S s.l s.loc s.code.length;simp only[dT,List.length_append];omega
theorem jT:s.sites.length≤(dT l0 s S).sites.length∧(dT l0 s S).sites.length≤s.sites.length+2*S.wt:=by have:=jS S s.st;simp only[dT,List.length_append];omega
theorem tE:∀(S:Sl) (n:Int),n≤iC S n∧iC S n≤n+(S.wt:Int)
  | .nil,n=>by simp[iC,Sl.wt]
  | .cons k nm e r xs th el rest,n=>by
    have r1:=tE rest (n+1);have r2:=tE rest (iC el (iC th n));have r3:=tE rest (iC th n);have r4:=tE rest n;have t1:=tE th n;have e1:=tE el (iC th n);simp only[iC,Sl.wt];split
    · omega
    · split
      · omega
      · split<;>omega
structure Bnd (s:Sco)(W:Nat):Prop where
  lp:0<s.l.length
  lb:s.l.length+W≤900
  cb:s.code.length+2*W≤5000
  sb:s.sites.length+2*W≤5000
  o0:0≤s.loc
  ob:s.loc+(W:Int)≤5000
  t0:0≤s.st
  tb:s.st+(W:Int)≤5000
structure Bd (E:Env)(c:Ctx)(p:Go.Un.Pg):Prop where
  hE:E.c4=p.c4
  hc:c.nm=p.c4.length
  hf:E.funcs=p.funcs.map fun f=>(f.name,f.params)
  fp:∀f∈E.funcs,f.2.length≤2
theorem Sco.eq {a b:Sco}(h1:a.p=b.p)(h2:a.l=b.l)(h3:a.loc=b.loc)(h4:a.st=b.st)(h5:a.code=b.code)(h6:a.sites=b.sites):a=b:=by cases a;cases b;simp_all
variable {rest:Sl}
theorem fin_var {n:BA}{e:Ex}:dT l0 (sG (p8 (cI s) ⟨1,s.loc,false,iB s.l e,cS,[],[]⟩ s.st) n) rest=dT l0 s (.cons 1 n e o1 [] .nil .nil rest):=by
  refine Sco.eq rfl rfl ?_ ?_ ?_ ?_
  · simp only[dT,sG,p8,cI,iC,if_true]
  · simp only[dT,sG,p8,cI,Sl.wt];omega
  · simp only[dT,sG,p8,cI,r8,if_true,List.append_assoc,List.cons_append,List.nil_append,List.length_append,List.length_cons,List.length_nil,Nat.zero_add]
  · simp only[dT,sG,p8,cI,dH,show ¬(1:Int)=7 from by decide,show ¬(1:Int)=8 from by decide,if_false,List.append_assoc,List.cons_append,List.nil_append]
variable {r:Rf}{xs:List Ar}
theorem sI {i:Ins}{k:Int}{n:BA}{e:Ex}(h:r8 (.cons k n e r xs .nil .nil rest) s.l s.loc s.code.length=i::r8 rest s.l s.loc (s.code.length+1))(hk:k≠1∧k≠7∧k≠8):dT l0 (p8 (cI s) i s.st) rest=dT l0 s (.cons k n e r xs .nil .nil rest):=by
  refine Sco.eq rfl rfl ?_ ?_ ?_ ?_
  · simp only[dT,p8,cI,iC,hk.1,hk.2.1,hk.2.2,if_false]
  · simp only[dT,p8,cI,Sl.wt];omega
  · simp only[dT,h,p8,cI,List.append_assoc,List.cons_append,List.nil_append,List.length_append,List.length_cons,List.length_nil,Nat.zero_add]
  · simp only[dT,p8,cI,dH,hk.2.1,hk.2.2,if_false,List.append_assoc,List.cons_append,List.nil_append]
theorem len_nil {s:Sl}:¬0<s.len↔s=.nil:=⟨fun h=>Sl.C0 (by omega),fun h=>by subst h;simp[Go.Un.Sl.len]⟩
def eT (s:Sco)(e:Ex)(th:Sl):Sco:=dT s.l (p8 (cI s) ⟨6,0,false,iB s.l e,cS,[],[]⟩ s.st) th
def stJ (s:Sco)(e:Ex)(th:Sl):Sco:=p8 (eT s e th) ⟨7,0,false,l9,cS,[],[]⟩ s.st
def eU (s:Sco)(e:Ex)(th el:Sl):Sco:=dT s.l (dJ (stJ s e th) s.code.length ((stJ s e th).code.length:Int)) el
def H4 (s:Sco)(e:Ex)(th:Sl):Sco:=p8 (eT s e th) ⟨7,((s.code.length:Nat):Int),false,l9,cS,[],[]⟩ s.st
variable {th:Sl}
theorem rB {e:Ex}:(eT s e th).code=s.code++((⟨6,0,false,iB s.l e,cS,[],[]⟩:Ins)::r8 th s.l s.loc (s.code.length+1)):=by simp only[eT,dT,p8,cI,List.append_assoc,List.cons_append,List.nil_append,List.length_append,List.length_cons,List.length_nil,Nat.zero_add]
theorem rC {e:Ex}:(eT s e th).code.length=s.code.length+1+(r8 th s.l s.loc (s.code.length+1)).length:=by rw[rB];simp;omega
theorem TC {e:Ex}{v:Int}:(dJ (stJ s e th) s.code.length v).code=s.code++((⟨6,v,false,iB s.l e,cS,[],[]⟩:Ins)::(r8 th s.l s.loc (s.code.length+1)++[⟨7,0,false,l9,cS,[],[]⟩])):=by simp only[dJ,stJ,p8,rB,List.append_assoc,List.cons_append];exact F0 rfl
variable {el:Sl}
theorem xC {e:Ex}:(eU s e th el).code=s.code++((⟨6,((stJ s e th).code.length:Int),false,iB s.l e,cS,[],[]⟩:Ins)::(r8 th s.l s.loc (s.code.length+1)++(⟨7,0,false,l9,cS,[],[]⟩::r8 el s.l (iC th s.loc) ((eT s e th).code.length+1)))):=by
  have h1:(dJ (stJ s e th) s.code.length ((stJ s e th).code.length:Int)).code.length=(eT s e th).code.length+1:=by simp only[dJ,mN,stJ,p8,List.length_append,List.length_cons,List.length_nil,Nat.zero_add]
  show (dJ (stJ s e th) s.code.length ((stJ s e th).code.length:Int)).code++r8 el s.l (iC th s.loc) _=_;rw[h1,TC];simp only[List.append_assoc,List.cons_append,List.nil_append]
theorem stJ_len {e:Ex}:(stJ s e th).code.length=(eT s e th).code.length+1:=by simp[stJ,p8]
theorem EU {e:Ex}:(eU s e th el).code.length=(eT s e th).code.length+1+(r8 el s.l (iC th s.loc) ((eT s e th).code.length+1)).length:=by rw[xC,rC];simp;omega
theorem fin_if {n:BA}{e:Ex}:dT l0 (dJ (eT s e th) s.code.length ((eT s e th).code.length:Int)) rest=dT l0 s (.cons 7 n e r xs th .nil rest):=by
  have hne:¬(7:Int)=1∧¬(7:Int)=2∧¬((7:Int)=3∨(7:Int)=4)∧¬(7:Int)=5∧¬(7:Int)=6:=by decide
  have h0:¬0<Sl.nil.len:=by simp[Go.Un.Sl.len]
  refine Sco.eq rfl rfl ?_ ?_ ?_ ?_
  · simp only[dT,dJ,eT,p8,cI,iC,hne.1,if_false,if_true]
  · simp only[dT,dJ,eT,p8,cI,Sl.wt];omega
  · show tQ (eT s e th).code s.code.length _++r8 rest s.l (iC th s.loc) (tQ (eT s e th).code s.code.length _).length=s.code++r8 _ s.l s.loc s.code.length
    rw[mN,rC,rB,F0 rfl];simp only[r8,iC,hne.1,hne.2.1,hne.2.2.1,hne.2.2.2.1,hne.2.2.2.2,h0,if_false,if_true,List.append_assoc,List.cons_append]
  · show s.sites++[s.st]++dH th (s.st+1)++dH rest (s.st+1+(th.wt:Int))=s.sites++dH _ s.st
    simp only[dH,Sl.wt,h0,if_true,if_false,List.append_assoc,List.cons_append,List.nil_append,Int.natCast_zero,Int.add_zero]
theorem TD {n:BA}{e:Ex}(hel:0<el.len):dT l0 (dJ (eU s e th el) (eT s e th).code.length ((eU s e th el).code.length:Int)) rest=dT l0 s (.cons 7 n e r xs th el rest):=by
  have hne:¬(7:Int)=1∧¬(7:Int)=2∧¬((7:Int)=3∨(7:Int)=4)∧¬(7:Int)=5∧¬(7:Int)=6:=by decide
  refine Sco.eq rfl rfl ?_ ?_ ?_ ?_
  · simp only[dT,dJ,eU,stJ,eT,p8,cI,iC,hne.1,if_false,if_true]
  · simp only[dT,dJ,eU,stJ,eT,p8,cI,Sl.wt];omega
  · show tQ (eU s e th el).code (eT s e th).code.length _++r8 rest s.l (iC el (iC th s.loc)) (tQ (eU s e th el).code (eT s e th).code.length _).length=s.code++r8 _ s.l s.loc s.code.length
    rw[mN,EU,xC];rw[show s.code++((⟨6,((stJ s e th).code.length:Int),false,iB s.l e,cS,[],[]⟩:Ins)::(r8 th s.l s.loc (s.code.length+1)++(⟨7,0,false,l9,cS,[],[]⟩::r8 el s.l (iC th s.loc) ((eT s e th).code.length+1))))=(s.code++((⟨6,((stJ s e th).code.length:Int),false,iB s.l e,cS,[],[]⟩:Ins)::r8 th s.l s.loc (s.code.length+1)))++(⟨7,0,false,l9,cS,[],[]⟩::r8 el s.l (iC th s.loc) ((eT s e th).code.length+1)) from by simp only[List.append_assoc,List.cons_append]];rw[F0 (by rw[rC];simp;omega),stJ_len,rC];simp only[r8,hne.1,hne.2.1,hne.2.2.1,hne.2.2.2.1,hne.2.2.2.2,hel,if_false,if_true,List.append_assoc,List.cons_append]
  · show s.sites++[s.st]++dH th (s.st+1)++[s.st]++dH el (s.st+1+(th.wt:Int))++dH rest (s.st+1+(th.wt:Int)+(el.wt:Int))=s.sites++dH _ s.st
    simp only[dH,hel,if_true,List.append_assoc,List.cons_append,List.nil_append]
theorem fin_wh {n:BA}{e:Ex}:dT l0 (dJ (H4 s e th) s.code.length ((H4 s e th).code.length:Int)) rest=dT l0 s (.cons 8 n e r xs th .nil rest):=by
  have hne:¬(8:Int)=1∧¬(8:Int)=2∧¬((8:Int)=3∨(8:Int)=4)∧¬(8:Int)=5∧¬(8:Int)=6∧¬(8:Int)=7:=by decide
  rw[show (H4 s e th).code.length=(eT s e th).code.length+1 from by simp[H4,p8]];refine Sco.eq rfl rfl ?_ ?_ ?_ ?_
  · simp only[dT,dJ,H4,eT,p8,cI,iC,hne.1,hne.2.2.2.2.2,if_false,if_true]
  · simp only[dT,dJ,H4,eT,p8,cI,Sl.wt];omega
  · show tQ ((eT s e th).code++[⟨7,((s.code.length:Nat):Int),false,l9,cS,[],[]⟩]) s.code.length _++r8 rest s.l (iC th s.loc) (tQ ((eT s e th).code++[⟨7,((s.code.length:Nat):Int),false,l9,cS,[],[]⟩]) s.code.length _).length=s.code++r8 _ s.l s.loc s.code.length
    rw[mN,List.length_append,rC,rB,List.append_assoc,List.cons_append,F0 rfl];simp only[r8,hne.1,hne.2.1,hne.2.2.1,hne.2.2.2.1,hne.2.2.2.2.1,hne.2.2.2.2.2,if_false,if_true,List.append_assoc,List.cons_append,List.nil_append,List.length_cons,List.length_nil,Nat.zero_add]
  · show s.sites++[s.st]++dH th (s.st+1)++[s.st]++dH rest (s.st+1+(th.wt:Int))=s.sites++dH _ s.st
    simp only[dH,hne.2.2.2.2.2,if_true,if_false,List.append_assoc,List.cons_append,List.nil_append]
theorem agg_nil {h:c6}{φ:Map}{w:World}{xs xs':List AV}(hn:pV xs' xs){v:Value}(r:Rel h φ w v (.agg xs)):Rel h φ w v (.agg xs'):=by
  cases r with
  | pure hp=>cases hp
  | agg a _ ha h1 hr=>
    obtain ⟨k1,k2⟩:=hn.get;refine .agg a xs' (by rw[ha,k1]) h1 fun j v y e1 e2=>?_;have hj:j<xs.length:=by rw[←k1];exact (List.getElem?_eq_some_iff.1 e2).1
    have hx:xs[j]?=some xs[j]:=List.getElem?_eq_getElem hj;rcases k2 j y _ e2 hx with rfl | ⟨e3,rfl⟩
    · exact hr j v _ e1 hx
    · exact S2 (e3▸hr j v _ e1 hx)
def Qa:List AV→List AV→Prop
  | [],[]=>True
  | x::xs,y::ys=>(x=y∨∃a b,x=.agg a∧y=.agg b∧pV a b)∧Qa xs ys
  | _,_=>False
theorem Qa.get:∀{xs ys:List AV},Qa xs ys→xs.length=ys.length∧∀(t:Nat) (x y:AV),xs[t]?=some x→ys[t]?=some y→x=y∨∃a b,x=.agg a∧y=.agg b∧pV a b
  | [],[],_=>⟨rfl,fun t x y h=>by simp at h⟩
  | x::xs,y::ys,h=>by
    obtain ⟨h1,h2⟩:=h;obtain ⟨k1,k2⟩:=Qa.get h2;refine ⟨by simp[k1],fun t u v hu hv=>?_⟩
    match t with
    | 0=>simp at hu hv;subst hu;subst hv;exact h1
    | t+1=>exact k2 t u v t149 t158
  | [],_::_,h=>h.elim
  | _::_,[],h=>h.elim
theorem aggArg {f:FuncId}{h:c6}{args args':List AV}{Q:AV→c6→Prop}(ha:Qa args' args)(r:CallA Tryz.prog cfg f args' h Q):CallA Tryz.prog cfg f args h Q:=by
  intro B φ w cargs i hs hr;obtain ⟨k1,k2⟩:=ha.get;refine r B φ w cargs i t221 fun j v y h1 h2=>?_;have hj:j<args.length:=by rw[←k1];exact (List.getElem?_eq_some_iff.1 h2).1
  have hx:args[j]?=some args[j]:=List.getElem?_eq_getElem hj;rcases k2 j y _ h2 hx with rfl | ⟨a,b,rfl,e2,hn⟩
  · exact hr j v _ h1 hx
  · exact agg_nil hn (e2▸hr j v _ h1 hx)
theorem nT {e:Frm}(hc:s.code.length<10000)(hs:s.sites.length<10000)(i:Ins)(t:Int){zs:List AV}(hz:pV (fT i) zs):CH 134 [.ptr e.k 0 0,.agg zs,.int .i64 t] (hT e (aW e.k s) s.code s.sites) (.int .i64 ((s.code.length:Nat):Int)) (hT e (aW e.k (p8 s i t)) (p8 s i t).code (p8 s i t).sites):=
  aggArg (args':=[.ptr e.k 0 0,.agg (fT i),.int .i64 t]) ⟨.inl rfl,.inr ⟨_,_,rfl,rfl,hz⟩,.inl rfl,trivial⟩ (c_put hc hs i t)
theorem KB:∀{c:List Ins} {i:Nat} {v:Int},i<c.length→List.take (i*12+1) (s5 c)++AV.int .i64 v::List.drop (i*12+1+1) (s5 c)=s5 (tQ c i v)
  | x::c,0,v,_=>by
    have e1:s5 (x::c)=fT x++s5 c:=by simp[s5]
    have e2:tQ (x::c) 0 v={ x with target:=v }::c:=by simp[tQ]
    have e3:s5 ({ x with target:=v }::c)=fT { x with target:=v }++s5 c:=by simp[s5]
    rw[e1,e2,e3];rfl
  | x::c,i+1,v,h=>by
    have ih:=KB (c:=c) (i:=i) (v:=v) (by simpa using h);have e1:s5 (x::c)=fT x++s5 c:=by simp[s5]
    have e2:tQ (x::c) (i+1) v=x::tQ c i v:=by simp[tQ]
    have e3:s5 (x::tQ c i v)=fT x++s5 (tQ c i v):=by simp[s5]
    have hl:(fT x).length=12:=bN x;rw[e1,e2,e3,←ih,show (i+1)*12+1=(fT x).length+(i*12+1) from by omega,List.take_length_add_append,show (fT x).length+(i*12+1)+1=(fT x).length+(i*12+1+1) from by omega,List.drop_length_add_append,List.append_assoc]
theorem O2 {c:List Ins}(h:0<c.length):s5 c≠[]:=by intro h0;have:=congrArg List.length h0;rw[p7]at this;simp at this;omega
section
variable {e:Frm}{b:Blk}{c:List Ins}{ss:List Int}{l:c6}{v:Int}{i n:Nat}
theorem hT_1na (h:0<c.length):(hT e b c ss++l)[e.k+1]?=some ⟨c.length,false,54,12,s5 c,0⟩:=by rw[SW,eE (O2 h)]
theorem hT_pn (h:c.length=n)(h0:0<n):(hT e b c ss++l).set (e.k+1) ⟨n,false,54,12,s5 (tQ c i v),0⟩=hT e b (tQ c i v) ss++l:=by
  subst h;have hl:(tQ c i v).length=c.length:=mN;have:s8 54 12 (tQ c i v).length (s5 (tQ c i v))=⟨c.length,false,54,12,s5 (tQ c i v),0⟩:=by rw[eE (O2 (by omega)),hl]
  rw[←this,XS]
theorem app_cpE {b0 b1 b2:Blk}{es:List Ent}{n:Nat}(hz:es.length=n)(h0:0<n)(hn:n<1000):j9 cfg 145 (hT e b c ss++(b0::b1::b2::⟨1,false,145,3,[],0⟩::l)) (.own (e.n+3) 1 0 0) (.vec n (j8 es))=some (.own (e.n+3) 2 0 n,hT e b c ss++(b0::b1::b2::⟨2,false,145,3,j8 es,0⟩::l)):=by
  subst hz;have e1:cfg.sz 145=3:=rfl;have e2:(cfg.ti 145).bytes=32:=rfl;have hm:es.length≤maxLen:=by
    have:(1000:Nat)≤maxLen:=by decide
    omega
  have hb:es.length*32≤140737488355328:=by omega
  have h1:(j8 es).length=es.length*3:=by rw[v7];omega
  have h2:¬es.length=0:=by omega
  have h3:¬es.length*3=0:=by omega
  simp[j9,rd,lenOf,e1,e2,h1,hm,hb,fG,jD,h0,h2,h3]
theorem app_onE {b0 b1 b2:Blk}{es:List Ent}{x:BA}{k m:Int}{n:Nat}(hz:es.length=n)(hn:n<1000):j9 cfg 145 (hT e b c ss++(b0::b1::b2::⟨2,false,145,3,j8 es,0⟩::⟨1,false,145,3,[.str x,.int .i64 k,.int .i64 m],0⟩::l)) (.own (e.n+3) 2 0 n) (.own (e.n+4) 1 0 1)=some (.own (e.n+3) 3 0 (n+1),hT e b c ss++(b0::b1::b2::⟨3,false,145,3,j8 (es++[⟨x,k,m⟩]),0⟩::⟨1,false,145,3,[.str x,.int .i64 k,.int .i64 m],0⟩::l)):=by
  subst hz;have e1:cfg.sz 145=3:=rfl;have e2:(cfg.ti 145).bytes=32:=rfl;have hm:es.length+1≤maxLen:=by
    have:(1001:Nat)≤maxLen:=by decide
    omega
  have hb:(es.length+1)*32≤140737488355328:=by omega
  have h1:(j8 es).length=es.length*3:=by rw[v7];omega
  have ht:List.take (es.length*3) (j8 es)=j8 es:=List.take_of_length_le (by omega);have hnl:¬(es.length+1)*3≤es.length*3:=by omega
  have hs:j8 (es++[⟨x,k,m⟩])=j8 es++[.str x,.int .i64 k,.int .i64 m]:=by simp[j8,jY]
  simp[j9,rd,lenOf,e1,e2,h1,hm,hb,ht,hnl,fG,jD,hs]
end
theorem sJ (l:List Ent):z7 (j8 l):=z7.flat fun _=>z7.cons .str (z7.cons .int (z7.cons .int .nil))
theorem stIf_l {e:Ex}:(eT s e th).l=s.l:=rfl
attribute [local go_sem] rd v7 o7 cB dQ p7 bN iA eO n6 bX bK l8 cD Int.natCast_nonneg Int.natCast_inj List.length_map wrap64 iF kP kQ AQ M7 T7 AR D0 max2 gM dY cG Nat.reduceMul oG lL jY qZ mL wY bF hT_0 hT_2 SV SX fG E7 jD U8 SY BE hT_1na hT_pn KB app_cpE app_onE F1 wZ xA F2 F3 sH D8 KA BJ stSt_p iQ gC V2 xB BK stPut_p dB cP stTgt_l lM pN finS_l finS_p stIf_l
variable {E:Env}{vs:List BA}{pre:Sl}{W:Nat}
theorem c_blk1 {e:Frm}{c:Ctx}(sc:SC E c vs s.l)(bd:Bd E c s.p)(B:Bnd s W)(hW:1≤W)(j:Nat)(hj:j<24)(hn:vnm j∉vs)(a:Ex)(he:GE vs 2 a):c9 Tryz.prog cfg (sA [1,0,1,0,0,1,0] (kU Tryz.f133)) ⟨mkS 253 [(0,AV.ptr e.k 0 0),(1,AV.vec (Go.Un.Sl.len (pre.app (.cons 1 (vnm j) a o1 [] .nil .nil rest))) (s4 (pre.app (.cons 1 (vnm j) a o1 [] .nil .nil rest)))),(4,AV.vec l0.length (j8 l0)),(5,AV.int .i64 ((pre.len:Nat):Int))],(hT e (aW e.k s) s.code s.sites)⟩ (Led 253 [(0,AV.ptr e.k 0 0),(1,AV.vec (Go.Un.Sl.len (pre.app (.cons 1 (vnm j) a o1 [] .nil .nil rest))) (s4 (pre.app (.cons 1 (vnm j) a o1 [] .nil .nil rest)))),(4,AV.vec l0.length (j8 l0)),(5,AV.int .i64 ((pre.len:Nat):Int))] ((hT e (aW e.k (sG (p8 (cI s) ⟨1,s.loc,false,iB s.l a,cS,[],[]⟩ s.st) (vnm j))) ((sG (p8 (cI s) ⟨1,s.loc,false,iB s.l a,cS,[],[]⟩ s.st) (vnm j))).code ((sG (p8 (cI s) ⟨1,s.loc,false,iB s.l a,cS,[],[]⟩ s.st) (vnm j))).sites))):=by obtain ⟨q1,q2,q3,q4,q5,q6,q7,q8⟩:=B;have hlc:=@aK pre 1 (vnm j) a o1 [] .nil .nil rest;refine c176z ?_;refine c9.aG (hT e (aW e.k (cI s)) s.code s.sites++[⟨0,false,190,11,[.int .i64 1,.str (vnm j),.int .i64 a.op,.int .i64 a.num,.str a.name,.vec a.args.length (o2 a.args),.str o1.name,.vec o1.idx.length (o2 o1.idx),.vec (([]:List Ar)).length (cC ([]:List Ar)),.vec (Go.Un.Sl.len Go.Un.Sl.nil) (s4 Go.Un.Sl.nil),.vec (Go.Un.Sl.len Go.Un.Sl.nil) (s4 Go.Un.Sl.nil)],0⟩]) rfl ?_;refine c64z ?_;refine c71z ?_;refine .seq ?_;refine c26z ?_;refine c110z ?_;refine .cl rfl rfl (fun _=>JW (sc.fr j hj hn) (by omega)) ?_;refine c265z ?_;refine .c7 [0,1,4,5,6,7,9] ?_;refine c6z ?_;refine .sk ?_;refine c30z ?_;refine .ch rfl rfl (iH (TA (s:=cI s) t137 s.st sc.var he _)) ?_;refine .n ?_;refine .sg z8 (mkH 9 [0,0,2,6,14,0,62,0,255] [8] [] [0,256] []) 0 ?_;refine aB.aG t28 ?_;refine .p 4 ?_;refine .rn [true] ?_;refine c188z ?_;refine .cn [true] [256,0] [_] rfl rfl (by simp only[lH,and_true,List.cons_append,List.nil_append];exact iH (nT t52 t50 ⟨1,s.loc,false,iB s.l a,cS,[],[]⟩ s.st t27)) ?_;refine aB.nil rfl ?_;refine .c7 [0,1,4,5,6] ?_;refine .sg z8 (mkH 19 [0,0,0,4,12,28,62,0,128,0,512,1536,3584,8064,16256,32766,65535,131071,262143] [1,6,14,15,18] [(1,0),(14,1)] [0,2,66,16384,16386,16450,49218,311362] [0,1,2,3,4,5,6]) 2 ?_;refine .p 1 ?_;refine .em [true] [2,0] [_] ?_;refine .p 3 ?_;refine .rm [true,true] ?_;refine .em [true,false] [66,2,0] [_] ?_;refine .p 1 ?_;refine .rn [true,true,true] ?_;refine .p 3 ?_;refine .rn [true,true,true] ?_;refine .p 1 ?_;refine .en [true,true,true] [16450,16386,16384,66,2,0] [_,_,_] ?_;refine .en [true,false,false,false,false,false] [49218,16450,16386,16384,66,2,0] [_] ?_;refine .p 2 ?_;refine .en [true,false,false,false,false,false,false] [311362,49218,16450,16386,16384,66,2,0] [_] ?_;refine .po [false,false,false,true,false,false,true,false] ?_;refine .po [false,false,false,true,true,false,true,true] ?_;refine .po [false,false,false,false,true,false,false,true] ?_;refine aB.nil rfl ?_;refine .c7 [0,1,4,5] ?_;refine c9.L2 (γ:=e.n+3) (β:=e.k) (k:=3) (off:=0) (len:=s.l.length+1) (cs:=j8 (s.l++[⟨vnm j,4,s.loc⟩])) t106 rfl t199 (by rw[List.drop_zero,List.take_of_length_le t199];exact (sJ _).WN) (by simp only[SV];rfl) (by have:=e.lt;omega) rfl ?_;simp only[jD,BE,List.set_cons_succ,List.set_cons_zero];refine .rz ?_;exact .mk _ (by rw[TB];rfl)
theorem c_blk2 {e:Frm}{c:Ctx}(sc:SC E c vs s.l)(bd:Bd E c s.p)(B:Bnd s W)(hW:1≤W)(n:BA)(hn:n∈vs)(a:Ex)(he:GE vs 2 a):c9 Tryz.prog cfg (sA [1,0,1,0,0,1,0] (kU Tryz.f133)) ⟨mkS 253 [(0,AV.ptr e.k 0 0),(1,AV.vec (Go.Un.Sl.len (pre.app (.cons 2 n a o1 [] .nil .nil rest))) (s4 (pre.app (.cons 2 n a o1 [] .nil .nil rest)))),(4,AV.vec l0.length (j8 l0)),(5,AV.int .i64 ((pre.len:Nat):Int))],(hT e (aW e.k s) s.code s.sites)⟩ (Led 253 [(0,AV.ptr e.k 0 0),(1,AV.vec (Go.Un.Sl.len (pre.app (.cons 2 n a o1 [] .nil .nil rest))) (s4 (pre.app (.cons 2 n a o1 [] .nil .nil rest)))),(4,AV.vec l0.length (j8 l0)),(5,AV.int .i64 ((pre.len:Nat):Int))] ((hT e (aW e.k (p8 (cI s) ⟨1,(gI s.l n).n,(gI s.l n).kind==1,iB s.l a,cS,[],[]⟩ s.st)) ((p8 (cI s) ⟨1,(gI s.l n).n,(gI s.l n).kind==1,iB s.l a,cS,[],[]⟩ s.st)).code ((p8 (cI s) ⟨1,(gI s.l n).n,(gI s.l n).kind==1,iB s.l a,cS,[],[]⟩ s.st)).sites))):=by obtain ⟨q1,q2,q3,q4,q5,q6,q7,q8⟩:=B;have hlc:=@aK pre 2 n a o1 [] .nil .nil rest;obtain ⟨v,hv1,hv2⟩:=sc.var n hn;refine c176z ?_;refine c9.aG (hT e (aW e.k (cI s)) s.code s.sites++[⟨0,false,190,11,[.int .i64 2,.str n,.int .i64 a.op,.int .i64 a.num,.str a.name,.vec a.args.length (o2 a.args),.str o1.name,.vec o1.idx.length (o2 o1.idx),.vec (([]:List Ar)).length (cC ([]:List Ar)),.vec (Go.Un.Sl.len Go.Un.Sl.nil) (s4 Go.Un.Sl.nil),.vec (Go.Un.Sl.len Go.Un.Sl.nil) (s4 Go.Un.Sl.nil)],0⟩]) rfl ?_;refine c64z ?_;refine c175z ?_;refine c30z ?_;refine .ch rfl rfl (iH (c_var (s:=cI s) t137 s.st hv1 hv2)) ?_;refine .n ?_;refine .c7 [0,1,4,5,6,7,11] ?_;refine .og z8 (mkH 14 [0,0,2,0,8,24,0,0,128,0,960,2046,0,8191] [10,13] [] [0,1024,9216] [0,1,2,3,4,5]) 0 ?_;refine aB.aG t28 ?_;refine .p 2 ?_;refine c110z ?_;refine .p 3 ?_;refine c72z ?_;refine .cn [true] [1024,0] [_] rfl rfl (by simp only[lH,and_true,List.cons_append,List.nil_append];exact iH (TA (s:=cI s) t137 s.st sc.var he _)) ?_;refine .p 2 ?_;refine .cn [true,false] [9216,1024,0] [_] rfl rfl (by simp only[lH,and_true,List.cons_append,List.nil_append];exact iH (nT t52 t50 ⟨1,v.n,v.kind==1,iB s.l a,cS,[],[]⟩ s.st t27)) ?_;refine c145z ?_;exact .mk _ (by rw[fK hv1])
theorem c_blk3 {e:Frm}{c:Ctx}(sc:SC E c vs s.l)(bd:Bd E c s.p)(B:Bnd s W)(hW:1≤W)(f:BA×List Pm)(hf:f∈E.funcs)(xs:List Ar)(ha:GAs E vs f.2 xs):c9 Tryz.prog cfg (sA [1,0,1,0,0,1,0] (kU Tryz.f133)) ⟨mkS 253 [(0,AV.ptr e.k 0 0),(1,AV.vec (Go.Un.Sl.len (pre.app (.cons 3 f.1 l9 o1 xs .nil .nil rest))) (s4 (pre.app (.cons 3 f.1 l9 o1 xs .nil .nil rest)))),(4,AV.vec l0.length (j8 l0)),(5,AV.int .i64 ((pre.len:Nat):Int))],(hT e (aW e.k s) s.code s.sites)⟩ (Led 253 [(0,AV.ptr e.k 0 0),(1,AV.vec (Go.Un.Sl.len (pre.app (.cons 3 f.1 l9 o1 xs .nil .nil rest))) (s4 (pre.app (.cons 3 f.1 l9 o1 xs .nil .nil rest)))),(4,AV.vec l0.length (j8 l0)),(5,AV.int .i64 ((pre.len:Nat):Int))] ((hT e (aW e.k (p8 (cI s) ⟨2,(gI s.l f.1).n,false,l9,cS,bO s.l xs,aU s.l xs⟩ s.st)) ((p8 (cI s) ⟨2,(gI s.l f.1).n,false,l9,cS,bO s.l xs,aU s.l xs⟩ s.st)).code ((p8 (cI s) ⟨2,(gI s.l f.1).n,false,l9,cS,bO s.l xs,aU s.l xs⟩ s.st)).sites))):=by
  obtain ⟨q1,q2,q3,q4,q5,q6,q7,q8⟩:=B;have hlc:=@aK pre 3 f.1 l9 o1 xs .nil .nil rest;obtain ⟨⟨fy,fk,fn⟩,hf1,hfk,hf5,hf6,hf7⟩:=sc.fn f hf;simp only at hfk hf5 hf6 hf7;subst hfk;have hf2:0≤fn∧fn<s.p.funcs.length:=by rw[bd.hf,List.length_map]at hf6;exact ⟨hf5,hf6⟩
  have hf3:(s.p.funcs.getD fn.toNat j7).params=f.2:=by rw[bd.hf,getD_map (d':=j7) (by omega)]at hf7;rw[←hf7]
  have hf4:=bd.fp f hf;refine c176z ?_;refine c9.aG (hT e (aW e.k (cI s)) s.code s.sites++[⟨0,false,190,11,[.int .i64 3,.str f.1,.int .i64 l9.op,.int .i64 l9.num,.str l9.name,.vec l9.args.length (o2 l9.args),.str o1.name,.vec o1.idx.length (o2 o1.idx),.vec (xs).length (cC xs),.vec (Go.Un.Sl.len Go.Un.Sl.nil) (s4 Go.Un.Sl.nil),.vec (Go.Un.Sl.len Go.Un.Sl.nil) (s4 Go.Un.Sl.nil)],0⟩]) rfl ?_;refine c216z ?_;refine .T ?_;refine .sk ?_;refine .T ?_;refine c186z ?_;refine .ch rfl rfl (iH (c_call3 (s:=cI s) t137 s.st sc bd.hE bd.hc hf1 hf2 hf3 hf4 ha)) ?_;refine .e 1 ?_;refine .ch rfl rfl (iH (nT t52 t50 ⟨2,fn,false,l9,cS,bO s.l xs,aU s.l xs⟩ s.st t27)) ?_;refine .nil ?_;exact .mk _ (by rw[fK hf1])
theorem c_blk4 {e:Frm}{c:Ctx}(sc:SC E c vs s.l)(bd:Bd E c s.p)(B:Bnd s W)(hW:1≤W)(f:BA×List Pm)(hf:f∈E.funcs)(xs:List Ar)(ha:GAs E vs f.2 xs):c9 Tryz.prog cfg (sA [1,0,1,0,0,1,0] (kU Tryz.f133)) ⟨mkS 253 [(0,AV.ptr e.k 0 0),(1,AV.vec (Go.Un.Sl.len (pre.app (.cons 4 f.1 l9 o1 xs .nil .nil rest))) (s4 (pre.app (.cons 4 f.1 l9 o1 xs .nil .nil rest)))),(4,AV.vec l0.length (j8 l0)),(5,AV.int .i64 ((pre.len:Nat):Int))],(hT e (aW e.k s) s.code s.sites)⟩ (Led 253 [(0,AV.ptr e.k 0 0),(1,AV.vec (Go.Un.Sl.len (pre.app (.cons 4 f.1 l9 o1 xs .nil .nil rest))) (s4 (pre.app (.cons 4 f.1 l9 o1 xs .nil .nil rest)))),(4,AV.vec l0.length (j8 l0)),(5,AV.int .i64 ((pre.len:Nat):Int))] ((hT e (aW e.k (p8 (cI s) ⟨3,(gI s.l f.1).n,false,l9,cS,bO s.l xs,aU s.l xs⟩ s.st)) ((p8 (cI s) ⟨3,(gI s.l f.1).n,false,l9,cS,bO s.l xs,aU s.l xs⟩ s.st)).code ((p8 (cI s) ⟨3,(gI s.l f.1).n,false,l9,cS,bO s.l xs,aU s.l xs⟩ s.st)).sites))):=by
  obtain ⟨q1,q2,q3,q4,q5,q6,q7,q8⟩:=B;have hlc:=@aK pre 4 f.1 l9 o1 xs .nil .nil rest;obtain ⟨⟨fy,fk,fn⟩,hf1,hfk,hf5,hf6,hf7⟩:=sc.fn f hf;simp only at hfk hf5 hf6 hf7;subst hfk;have hf2:0≤fn∧fn<s.p.funcs.length:=by rw[bd.hf,List.length_map]at hf6;exact ⟨hf5,hf6⟩
  have hf3:(s.p.funcs.getD fn.toNat j7).params=f.2:=by rw[bd.hf,getD_map (d':=j7) (by omega)]at hf7;rw[←hf7]
  have hf4:=bd.fp f hf;refine c176z ?_;refine c9.aG (hT e (aW e.k (cI s)) s.code s.sites++[⟨0,false,190,11,[.int .i64 4,.str f.1,.int .i64 l9.op,.int .i64 l9.num,.str l9.name,.vec l9.args.length (o2 l9.args),.str o1.name,.vec o1.idx.length (o2 o1.idx),.vec (xs).length (cC xs),.vec (Go.Un.Sl.len Go.Un.Sl.nil) (s4 Go.Un.Sl.nil),.vec (Go.Un.Sl.len Go.Un.Sl.nil) (s4 Go.Un.Sl.nil)],0⟩]) rfl ?_;refine c248z ?_;refine .T ?_;refine .c7 [0,1,4,5,6,7] ?_;refine c186z ?_;refine .ch rfl rfl (iH (c_call4 (s:=cI s) t137 s.st sc bd.hE bd.hc hf1 hf2 hf3 hf4 ha)) ?_;refine .e 1 ?_;refine .ch rfl rfl (iH (nT t52 t50 ⟨3,fn,false,l9,cS,bO s.l xs,aU s.l xs⟩ s.st t27)) ?_;refine .nil ?_;exact .mk _ (by rw[fK hf1])
theorem c_blk5 {e:Frm}{c:Ctx}(sc:SC E c vs s.l)(bd:Bd E c s.p)(B:Bnd s W)(hW:1≤W)(r:Rf)(hR:GR E vs r):c9 Tryz.prog cfg (sA [1,0,1,0,0,1,0] (kU Tryz.f133)) ⟨mkS 253 [(0,AV.ptr e.k 0 0),(1,AV.vec (Go.Un.Sl.len (pre.app (.cons 5 ByteArray.empty l9 r [] .nil .nil rest))) (s4 (pre.app (.cons 5 ByteArray.empty l9 r [] .nil .nil rest)))),(4,AV.vec l0.length (j8 l0)),(5,AV.int .i64 ((pre.len:Nat):Int))],(hT e (aW e.k s) s.code s.sites)⟩ (Led 253 [(0,AV.ptr e.k 0 0),(1,AV.vec (Go.Un.Sl.len (pre.app (.cons 5 ByteArray.empty l9 r [] .nil .nil rest))) (s4 (pre.app (.cons 5 ByteArray.empty l9 r [] .nil .nil rest)))),(4,AV.vec l0.length (j8 l0)),(5,AV.int .i64 ((pre.len:Nat):Int))] ((hT e (aW e.k (p8 (cI s) ⟨4,0,false,l9,sC s.l r,[],[]⟩ s.st)) ((p8 (cI s) ⟨4,0,false,l9,sC s.l r,[],[]⟩ s.st)).code ((p8 (cI s) ⟨4,0,false,l9,sC s.l r,[],[]⟩ s.st)).sites))):=by obtain ⟨q1,q2,q3,q4,q5,q6,q7,q8⟩:=B;have hlc:=@aK pre 5 ByteArray.empty l9 r [] .nil .nil rest;refine c176z ?_;refine c9.aG (hT e (aW e.k (cI s)) s.code s.sites++[⟨0,false,190,11,[.int .i64 5,.str ByteArray.empty,.int .i64 l9.op,.int .i64 l9.num,.str l9.name,.vec l9.args.length (o2 l9.args),.str r.name,.vec r.idx.length (o2 r.idx),.vec (([]:List Ar)).length (cC ([]:List Ar)),.vec (Go.Un.Sl.len Go.Un.Sl.nil) (s4 Go.Un.Sl.nil),.vec (Go.Un.Sl.len Go.Un.Sl.nil) (s4 Go.Un.Sl.nil)],0⟩]) rfl ?_;refine c282z ?_;refine c71z ?_;refine .c7 [0,1,4,5,6,7] ?_;refine .r ?_;refine .e 5 ?_;refine .ch rfl rfl (iH (JZ (s:=cI s) t137 s.st sc bd.hE bd.hc hR)) ?_;refine .e 2 ?_;refine .ch rfl rfl (iH (nT t52 t50 ⟨4,0,false,l9,sC s.l r,[],[]⟩ s.st t27)) ?_;refine .nil ?_;exact .mk _ rfl
theorem c_blk6 {e:Frm}{c:Ctx}(sc:SC E c vs s.l)(bd:Bd E c s.p)(B:Bnd s W)(hW:1≤W)(r:Rf)(hR:GR E vs r):c9 Tryz.prog cfg (sA [1,0,1,0,0,1,0] (kU Tryz.f133)) ⟨mkS 253 [(0,AV.ptr e.k 0 0),(1,AV.vec (Go.Un.Sl.len (pre.app (.cons 6 ByteArray.empty l9 r [] .nil .nil rest))) (s4 (pre.app (.cons 6 ByteArray.empty l9 r [] .nil .nil rest)))),(4,AV.vec l0.length (j8 l0)),(5,AV.int .i64 ((pre.len:Nat):Int))],(hT e (aW e.k s) s.code s.sites)⟩ (Led 253 [(0,AV.ptr e.k 0 0),(1,AV.vec (Go.Un.Sl.len (pre.app (.cons 6 ByteArray.empty l9 r [] .nil .nil rest))) (s4 (pre.app (.cons 6 ByteArray.empty l9 r [] .nil .nil rest)))),(4,AV.vec l0.length (j8 l0)),(5,AV.int .i64 ((pre.len:Nat):Int))] ((hT e (aW e.k (p8 (cI s) ⟨5,0,false,l9,sC s.l r,[],[]⟩ s.st)) ((p8 (cI s) ⟨5,0,false,l9,sC s.l r,[],[]⟩ s.st)).code ((p8 (cI s) ⟨5,0,false,l9,sC s.l r,[],[]⟩ s.st)).sites))):=by obtain ⟨q1,q2,q3,q4,q5,q6,q7,q8⟩:=B;have hlc:=@aK pre 6 ByteArray.empty l9 r [] .nil .nil rest;refine c176z ?_;refine c9.aG (hT e (aW e.k (cI s)) s.code s.sites++[⟨0,false,190,11,[.int .i64 6,.str ByteArray.empty,.int .i64 l9.op,.int .i64 l9.num,.str l9.name,.vec l9.args.length (o2 l9.args),.str r.name,.vec r.idx.length (o2 r.idx),.vec (([]:List Ar)).length (cC ([]:List Ar)),.vec (Go.Un.Sl.len Go.Un.Sl.nil) (s4 Go.Un.Sl.nil),.vec (Go.Un.Sl.len Go.Un.Sl.nil) (s4 Go.Un.Sl.nil)],0⟩]) rfl ?_;refine c282z ?_;refine c161z ?_;refine c71z ?_;refine .r ?_;refine .e 5 ?_;refine .ch rfl rfl (iH (JZ (s:=cI s) t137 s.st sc bd.hE bd.hc hR)) ?_;refine .e 2 ?_;refine .ch rfl rfl (iH (nT t52 t50 ⟨5,0,false,l9,sC s.l r,[],[]⟩ s.st t27)) ?_;refine .nil ?_;exact .mk _ rfl
theorem c_blk7 {e:Frm}{c:Ctx}(sc:SC E c vs s.l)(bd:Bd E c s.p)(B:Bnd s W)(a:Ex)(he:GE vs 2 a)(th:Sl)(hW:1+th.wt≤W)(ith:(∀s':Sco,SC E c vs s'.l→s'.p=s.p→Bnd s' th.wt→∀e:Frm,CH 133 [.ptr e.k 0 0,.vec th.len (s4 th)] (hT e (aW e.k s') (s').code (s').sites) (.tup []) (hT e (aW e.k (dT s'.l s' th)) ((dT s'.l s' th)).code ((dT s'.l s' th)).sites))):c9 Tryz.prog cfg (sA [1,0,1,0,0,1,0] (kU Tryz.f133)) ⟨mkS 253 [(0,AV.ptr e.k 0 0),(1,AV.vec (Go.Un.Sl.len (pre.app (.cons 7 ByteArray.empty a o1 [] th .nil rest))) (s4 (pre.app (.cons 7 ByteArray.empty a o1 [] th .nil rest)))),(4,AV.vec l0.length (j8 l0)),(5,AV.int .i64 ((pre.len:Nat):Int))],(hT e (aW e.k s) s.code s.sites)⟩ (Led 253 [(0,AV.ptr e.k 0 0),(1,AV.vec (Go.Un.Sl.len (pre.app (.cons 7 ByteArray.empty a o1 [] th .nil rest))) (s4 (pre.app (.cons 7 ByteArray.empty a o1 [] th .nil rest)))),(4,AV.vec l0.length (j8 l0)),(5,AV.int .i64 ((pre.len:Nat):Int))] ((hT e (aW e.k (dJ (eT s a th) s.code.length ((eT s a th).code.length:Int))) ((dJ (eT s a th) s.code.length ((eT s a th).code.length:Int))).code ((dJ (eT s a th) s.code.length ((eT s a th).code.length:Int))).sites))):=by obtain ⟨q1,q2,q3,q4,q5,q6,q7,q8⟩:=B;have hlc:=@aK pre 7 ByteArray.empty a o1 [] th .nil rest;refine c176z ?_;refine c9.aG (hT e (aW e.k (cI s)) s.code s.sites++[⟨0,false,190,11,[.int .i64 7,.str ByteArray.empty,.int .i64 a.op,.int .i64 a.num,.str a.name,.vec a.args.length (o2 a.args),.str o1.name,.vec o1.idx.length (o2 o1.idx),.vec (([]:List Ar)).length (cC ([]:List Ar)),.vec (Go.Un.Sl.len th) (s4 th),.vec (Go.Un.Sl.len Go.Un.Sl.nil) (s4 Go.Un.Sl.nil)],0⟩]) rfl ?_;refine c282z ?_;refine c161z ?_;refine c175z ?_;refine c29z ?_;refine c172z ?_;refine .n ?_;refine .c7 [0,1,4,5,6,7,12] ?_;have b1:Bnd (p8 (cI s) ⟨6,0,false,iB s.l a,cS,[],[]⟩ s.st) th.wt:=⟨q1,t204,t186,t181,q5,t192,t182,t160⟩;refine c116z ?_;refine .nil ?_;have fc:=kA (l0:=s.l) (s:=p8 (cI s) ⟨6,0,false,iB s.l a,cS,[],[]⟩ s.st) (S:=th);have fs:=jT (l0:=s.l) (s:=p8 (cI s) ⟨6,0,false,iB s.l a,cS,[],[]⟩ s.st) (S:=th);rw[dB,iQ]at fc;rw[cP,gC]at fs;change _≤(eT s a th).code.length∧(eT s a th).code.length≤_ at fc;change _≤(eT s a th).sites.length∧(eT s a th).sites.length≤_ at fs;change c9 _ _ _ ⟨mkS _ _,hT e (aW e.k (eT s a th)) (eT s a th).code (eT s a th).sites++_⟩ _;refine c6z ?_;refine .c7 [0,1,4,5,12] ?_;refine c126z ?_;refine c221z ?_;refine c111z ?_;refine c194z ?_;exact .mk _ (by rw[uV];rfl)
theorem c_blk17 {e:Frm}{c:Ctx}(sc:SC E c vs s.l)(bd:Bd E c s.p)(B:Bnd s W)(a:Ex)(he:GE vs 2 a)(th el:Sl)(hel:0<el.len)(hW:1+th.wt+el.wt≤W)(ith:(∀s':Sco,SC E c vs s'.l→s'.p=s.p→Bnd s' th.wt→∀e:Frm,CH 133 [.ptr e.k 0 0,.vec th.len (s4 th)] (hT e (aW e.k s') (s').code (s').sites) (.tup []) (hT e (aW e.k (dT s'.l s' th)) ((dT s'.l s' th)).code ((dT s'.l s' th)).sites)))(iel:(∀s':Sco,SC E c vs s'.l→s'.p=s.p→Bnd s' el.wt→∀e:Frm,CH 133 [.ptr e.k 0 0,.vec el.len (s4 el)] (hT e (aW e.k s') (s').code (s').sites) (.tup []) (hT e (aW e.k (dT s'.l s' el)) ((dT s'.l s' el)).code ((dT s'.l s' el)).sites))):c9 Tryz.prog cfg (sA [1,0,1,0,0,1,0] (kU Tryz.f133)) ⟨mkS 253 [(0,AV.ptr e.k 0 0),(1,AV.vec (Go.Un.Sl.len (pre.app (.cons 7 ByteArray.empty a o1 [] th el rest))) (s4 (pre.app (.cons 7 ByteArray.empty a o1 [] th el rest)))),(4,AV.vec l0.length (j8 l0)),(5,AV.int .i64 ((pre.len:Nat):Int))],(hT e (aW e.k s) s.code s.sites)⟩ (Led 253 [(0,AV.ptr e.k 0 0),(1,AV.vec (Go.Un.Sl.len (pre.app (.cons 7 ByteArray.empty a o1 [] th el rest))) (s4 (pre.app (.cons 7 ByteArray.empty a o1 [] th el rest)))),(4,AV.vec l0.length (j8 l0)),(5,AV.int .i64 ((pre.len:Nat):Int))] ((hT e (aW e.k (dJ (eU s a th el) (eT s a th).code.length ((eU s a th el).code.length:Int))) ((dJ (eU s a th el) (eT s a th).code.length ((eU s a th el).code.length:Int))).code ((dJ (eU s a th el) (eT s a th).code.length ((eU s a th el).code.length:Int))).sites))):=by
  obtain ⟨q1,q2,q3,q4,q5,q6,q7,q8⟩:=B;have hlc:=@aK pre 7 ByteArray.empty a o1 [] th el rest;refine c176z ?_;refine c9.aG (hT e (aW e.k (cI s)) s.code s.sites++[⟨0,false,190,11,[.int .i64 7,.str ByteArray.empty,.int .i64 a.op,.int .i64 a.num,.str a.name,.vec a.args.length (o2 a.args),.str o1.name,.vec o1.idx.length (o2 o1.idx),.vec (([]:List Ar)).length (cC ([]:List Ar)),.vec (Go.Un.Sl.len th) (s4 th),.vec (Go.Un.Sl.len el) (s4 el)],0⟩]) rfl ?_;refine c282z ?_;refine c161z ?_;refine c175z ?_;refine c29z ?_;refine c172z ?_;refine .n ?_;refine .c7 [0,1,4,5,6,7,12] ?_;have b1:Bnd (p8 (cI s) ⟨6,0,false,iB s.l a,cS,[],[]⟩ s.st) th.wt:=⟨q1,t204,t186,t181,q5,t192,t182,t160⟩;refine c116z ?_;refine .nil ?_;have fc:=kA (l0:=s.l) (s:=p8 (cI s) ⟨6,0,false,iB s.l a,cS,[],[]⟩ s.st) (S:=th);have fs:=jT (l0:=s.l) (s:=p8 (cI s) ⟨6,0,false,iB s.l a,cS,[],[]⟩ s.st) (S:=th);rw[dB,iQ]at fc;rw[cP,gC]at fs;change _≤(eT s a th).code.length∧(eT s a th).code.length≤_ at fc;change _≤(eT s a th).sites.length∧(eT s a th).sites.length≤_ at fs;change c9 _ _ _ ⟨mkS _ _,hT e (aW e.k (eT s a th)) (eT s a th).code (eT s a th).sites++_⟩ _;refine .z ?_;refine uTbz ?_;intro e1 qe1;refine .c7 [0,1,4,5,6,7,12] ?_;refine c12z ?_;refine .ch rfl rfl (iH (nT t52 t50 ⟨7,0,false,l9,cS,[],[]⟩ s.st t27)) ?_;refine .n ?_;change c9 _ _ _ ⟨mkS _ _,hT e (aW e.k (stJ s a th)) (stJ s a th).code (stJ s a th).sites++_⟩ _;have jc:(stJ s a th).code.length=(eT s a th).code.length+1:=dB;have js:(stJ s a th).sites.length=(eT s a th).sites.length+1:=cP;refine .sg z8 (mkH 13 [0,1,3,7,0,0,32,96,224,480,1023,2047,4095] [12] [] [0,4096] []) 0 ?_;refine .p 3 ?_;refine c221z ?_;refine c111z ?_;refine c194z ?_;refine .c7 [0,1,4,5,6,13] ?_;refine c9.aG (hT e (aW e.k (dJ (stJ s a th) s.code.length ((stJ s a th).code.length:Int))) (dJ (stJ s a th) s.code.length ((stJ s a th).code.length:Int)).code (dJ (stJ s a th) s.code.length ((stJ s a th).code.length:Int)).sites++[_]) (by rw[uV];rfl) ?_;have lb:=tE th s.loc;have b2:Bnd (dJ (stJ s a th) s.code.length ((stJ s a th).code.length:Int)) el.wt:=⟨q1,by show s.l.length+_≤_;omega,by rw[lM,jc];omega,by rw[pN,js];omega,by show 0≤iC th s.loc;omega,by show iC th s.loc+_≤_;omega,by show 0≤s.st+1+(th.wt:Int);omega,by show s.st+1+(th.wt:Int)+_≤_;omega⟩;refine c12z ?_;refine .ch rfl rfl (iH (iel (dJ (stJ s a th) s.code.length ((stJ s a th).code.length:Int)) sc rfl b2 _)) ?_;refine .nil ?_;have ec:(stJ s a th).code.length≤(eU s a th el).code.length∧(eU s a th el).code.length≤(stJ s a th).code.length+2*el.wt:=by have h0:=kA (l0:=s.l) (s:=(dJ (stJ s a th) s.code.length ((stJ s a th).code.length:Int))) (S:=el);rw[lM]at h0;exact h0
  change c9 _ _ _ ⟨mkS _ _,hT e (aW e.k (eU s a th el)) (eU s a th el).code (eU s a th el).sites++_⟩ _;refine c126z ?_;refine c221z ?_;refine c111z ?_;refine c194z ?_;exact .mk _ (by rw[uV];rfl)
theorem c_blk8 {e:Frm}{c:Ctx}(sc:SC E c vs s.l)(bd:Bd E c s.p)(B:Bnd s W)(a:Ex)(he:GE vs 2 a)(th:Sl)(hW:1+th.wt≤W)(ith:(∀s':Sco,SC E c vs s'.l→s'.p=s.p→Bnd s' th.wt→∀e:Frm,CH 133 [.ptr e.k 0 0,.vec th.len (s4 th)] (hT e (aW e.k s') (s').code (s').sites) (.tup []) (hT e (aW e.k (dT s'.l s' th)) ((dT s'.l s' th)).code ((dT s'.l s' th)).sites))):c9 Tryz.prog cfg (sA [1,0,1,0,0,1,0] (kU Tryz.f133)) ⟨mkS 253 [(0,AV.ptr e.k 0 0),(1,AV.vec (Go.Un.Sl.len (pre.app (.cons 8 ByteArray.empty a o1 [] th .nil rest))) (s4 (pre.app (.cons 8 ByteArray.empty a o1 [] th .nil rest)))),(4,AV.vec l0.length (j8 l0)),(5,AV.int .i64 ((pre.len:Nat):Int))],(hT e (aW e.k s) s.code s.sites)⟩ (Led 253 [(0,AV.ptr e.k 0 0),(1,AV.vec (Go.Un.Sl.len (pre.app (.cons 8 ByteArray.empty a o1 [] th .nil rest))) (s4 (pre.app (.cons 8 ByteArray.empty a o1 [] th .nil rest)))),(4,AV.vec l0.length (j8 l0)),(5,AV.int .i64 ((pre.len:Nat):Int))] ((hT e (aW e.k (dJ (H4 s a th) s.code.length ((H4 s a th).code.length:Int))) ((dJ (H4 s a th) s.code.length ((H4 s a th).code.length:Int))).code ((dJ (H4 s a th) s.code.length ((H4 s a th).code.length:Int))).sites))):=by obtain ⟨q1,q2,q3,q4,q5,q6,q7,q8⟩:=B;have hlc:=@aK pre 8 ByteArray.empty a o1 [] th .nil rest;refine c176z ?_;refine c9.aG (hT e (aW e.k (cI s)) s.code s.sites++[⟨0,false,190,11,[.int .i64 8,.str ByteArray.empty,.int .i64 a.op,.int .i64 a.num,.str a.name,.vec a.args.length (o2 a.args),.str o1.name,.vec o1.idx.length (o2 o1.idx),.vec (([]:List Ar)).length (cC ([]:List Ar)),.vec (Go.Un.Sl.len th) (s4 th),.vec (Go.Un.Sl.len Go.Un.Sl.nil) (s4 Go.Un.Sl.nil)],0⟩]) rfl ?_;refine c282z ?_;refine c161z ?_;refine c33z ?_;refine c71z ?_;refine c29z ?_;refine c172z ?_;refine .n ?_;refine .c7 [0,1,4,5,6,7,14] ?_;have b1:Bnd (p8 (cI s) ⟨6,0,false,iB s.l a,cS,[],[]⟩ s.st) th.wt:=⟨q1,t204,t186,t181,q5,t192,t182,t160⟩;refine c116z ?_;refine .nil ?_;have fc:=kA (l0:=s.l) (s:=p8 (cI s) ⟨6,0,false,iB s.l a,cS,[],[]⟩ s.st) (S:=th);have fs:=jT (l0:=s.l) (s:=p8 (cI s) ⟨6,0,false,iB s.l a,cS,[],[]⟩ s.st) (S:=th);rw[dB,iQ]at fc;rw[cP,gC]at fs;change _≤(eT s a th).code.length∧(eT s a th).code.length≤_ at fc;change _≤(eT s a th).sites.length∧(eT s a th).sites.length≤_ at fs;change c9 _ _ _ ⟨mkS _ _,hT e (aW e.k (eT s a th)) (eT s a th).code (eT s a th).sites++_⟩ _;refine c30z ?_;refine .ch rfl rfl (iH (nT t52 t50 ⟨7,((s.code.length:Nat):Int),false,l9,cS,[],[]⟩ s.st t27)) ?_;refine .nil ?_;refine .c7 [0,1,4,5,14] ?_;change c9 _ _ _ ⟨mkS _ _,hT e (aW e.k (H4 s a th)) (H4 s a th).code (H4 s a th).sites++_⟩ _;have jc:(H4 s a th).code.length=(eT s a th).code.length+1:=dB;refine c126z ?_;refine c221z ?_;refine c111z ?_;refine c194z ?_;exact .mk _ (by rw[uV];rfl)
theorem c_blk9 {e:Frm}{c:Ctx}(sc:SC E c vs s.l)(bd:Bd E c s.p)(B:Bnd s W)(hW:1≤W):c9 Tryz.prog cfg (sA [1,0,1,0,0,1,0] (kU Tryz.f133)) ⟨mkS 253 [(0,AV.ptr e.k 0 0),(1,AV.vec (Go.Un.Sl.len (pre.app (.cons 9 ByteArray.empty l9 o1 [] .nil .nil rest))) (s4 (pre.app (.cons 9 ByteArray.empty l9 o1 [] .nil .nil rest)))),(4,AV.vec l0.length (j8 l0)),(5,AV.int .i64 ((pre.len:Nat):Int))],(hT e (aW e.k s) s.code s.sites)⟩ (Led 253 [(0,AV.ptr e.k 0 0),(1,AV.vec (Go.Un.Sl.len (pre.app (.cons 9 ByteArray.empty l9 o1 [] .nil .nil rest))) (s4 (pre.app (.cons 9 ByteArray.empty l9 o1 [] .nil .nil rest)))),(4,AV.vec l0.length (j8 l0)),(5,AV.int .i64 ((pre.len:Nat):Int))] ((hT e (aW e.k (p8 (cI s) ⟨8,0,false,l9,cS,[],[]⟩ s.st)) ((p8 (cI s) ⟨8,0,false,l9,cS,[],[]⟩ s.st)).code ((p8 (cI s) ⟨8,0,false,l9,cS,[],[]⟩ s.st)).sites))):=by obtain ⟨q1,q2,q3,q4,q5,q6,q7,q8⟩:=B;have hlc:=@aK pre 9 ByteArray.empty l9 o1 [] .nil .nil rest;refine c176z ?_;refine c9.aG (hT e (aW e.k (cI s)) s.code s.sites++[⟨0,false,190,11,[.int .i64 9,.str ByteArray.empty,.int .i64 l9.op,.int .i64 l9.num,.str l9.name,.vec l9.args.length (o2 l9.args),.str o1.name,.vec o1.idx.length (o2 o1.idx),.vec (([]:List Ar)).length (cC ([]:List Ar)),.vec (Go.Un.Sl.len Go.Un.Sl.nil) (s4 Go.Un.Sl.nil),.vec (Go.Un.Sl.len Go.Un.Sl.nil) (s4 Go.Un.Sl.nil)],0⟩]) rfl ?_;refine c282z ?_;refine c161z ?_;refine c33z ?_;refine c6z ?_;refine .c7 [0,1,4,5,7] ?_;refine .r ?_;refine .e 3 ?_;refine .ch rfl rfl (iH (nT t52 t50 ⟨8,0,false,l9,cS,[],[]⟩ s.st t27)) ?_;refine .nil ?_;exact .mk _ rfl
theorem Bnd.mono {W':Nat}(h:Bnd s W)(hw:W'≤W):Bnd s W':=by obtain ⟨q1,q2,q3,q4,q5,q6,q7,q8⟩:=h;exact ⟨q1,by omega,by omega,by omega,q5,by omega,q7,by omega⟩
theorem Bnd.ins (h:Bnd s (1+W))(i:Ins):Bnd (p8 (cI s) i s.st) W:=by obtain ⟨q1,q2,q3,q4,q5,q6,q7,q8⟩:=h;exact ⟨q1,t204,t186,t181,q5,t192,t182,t160⟩
theorem Bnd.var (h:Bnd s (1+W))(i:Ins)(n:BA):Bnd (sG (p8 (cI s) i s.st) n) W:=by obtain ⟨q1,q2,q3,q4,q5,q6,q7,q8⟩:=h;exact ⟨by simp[sG],by show (s.l++[_]).length+_≤_;simp;omega,by show (p8 (cI s) i s.st).code.length+_≤_;rw[dB,iQ];omega,by show (p8 (cI s) i s.st).sites.length+_≤_;rw[cP,gC];omega,by show 0≤s.loc+1;omega,by show s.loc+1+_≤_;omega,t182,t160⟩
theorem Bnd.fin (h:Bnd s (S.wt+W)):Bnd (dT s.l s S) W:=by obtain ⟨q1,q2,q3,q4,q5,q6,q7,q8⟩:=h;have h1:=kA (l0:=s.l) (s:=s) (S:=S);have h2:=jT (l0:=s.l) (s:=s) (S:=S);have h3:=tE S s.loc;exact ⟨q1,by show s.l.length+_≤_;omega,by omega,by omega,by show 0≤iC S s.loc;omega,by show iC S s.loc+_≤_;omega,by show 0≤s.st+(S.wt:Int);omega,by show s.st+(S.wt:Int)+_≤_;omega⟩
theorem Bnd.tgt {i:Nat}{v:Int}(h:Bnd s W):Bnd (dJ s i v) W:=by obtain ⟨q1,q2,q3,q4,q5,q6,q7,q8⟩:=h;exact ⟨q1,q2,by rw[lM];exact q3,q4,q5,q6,q7,q8⟩
theorem Bnd.put2 (h:Bnd s W)(i:Ins)(t:Int)(hc:s.code.length+1+2*W≤5000)(hs:s.sites.length+1+2*W≤5000):Bnd (p8 s i t) W:=by obtain ⟨q1,q2,q3,q4,q5,q6,q7,q8⟩:=h;exact ⟨q1,by rw[V2];omega,by rw[dB];omega,by rw[cP];omega,q5,by rw[xB];omega,q7,by rw[BK];omega⟩
variable {a:Ex}
theorem O3 (h:Bnd s (1+th.wt+W)):Bnd (eT s a th) W∧(eT s a th).code.length+1+2*W≤5000∧(eT s a th).sites.length+1+2*W≤5000:=by have h1:=(show Bnd s (1+(th.wt+W)) from h.mono (by omega)).ins ⟨6,0,false,iB s.l a,cS,[],[]⟩;have h2:=kA (l0:=s.l) (s:=p8 (cI s) ⟨6,0,false,iB s.l a,cS,[],[]⟩ s.st) (S:=th);have h3:=jT (l0:=s.l) (s:=p8 (cI s) ⟨6,0,false,iB s.l a,cS,[],[]⟩ s.st) (S:=th);rw[dB,iQ]at h2;rw[cP,gC]at h3;have q3:=h.cb;have q4:=h.sb;exact ⟨h1.fin,by show (dT s.l (p8 (cI s) _ s.st) th).code.length+1+2*W≤5000;omega,by show (dT s.l (p8 (cI s) _ s.st) th).sites.length+1+2*W≤5000;omega⟩
theorem TE (h:Bnd s (1+th.wt+(el.wt+W))):Bnd (eU s a th el) W:=by obtain ⟨h1,h2,h3⟩:=O3 (a:=a) h;exact (((h1.put2 ⟨7,0,false,l9,cS,[],[]⟩ s.st h2 h3).tgt (i:=s.code.length) (v:=((stJ s a th).code.length:Int)))).fin
theorem TF {e:Frm}{c:Ctx}(sc:SC E c vs s.l)(bd:Bd E c s.p){k:Int}{n:BA}(hG:GS E (.cons k n a r xs th el rest) vs)(B:Bnd s (Sl.cons k n a r xs th el rest).wt)(ih:∀T:Sl,(T=th∨T=el)→GS E T vs→(∀s':Sco,SC E c vs s'.l→s'.p=s.p→Bnd s' T.wt→∀e:Frm,CH 133 [.ptr e.k 0 0,.vec T.len (s4 T)] (hT e (aW e.k s') (s').code (s').sites) (.tup []) (hT e (aW e.k (dT s'.l s' T)) ((dT s'.l s' T)).code ((dT s'.l s' T)).sites))):∃s' vs',SC E c vs' s'.l∧GS E rest vs'∧s'.p=s.p∧Bnd s' rest.wt∧dT l0 s' rest=dT l0 s (.cons k n a r xs th el rest)∧c9 Tryz.prog cfg (sA [1,0,1,0,0,1,0] (kU Tryz.f133)) ⟨mkS 253 [(0,AV.ptr e.k 0 0),(1,AV.vec (Go.Un.Sl.len (pre.app (.cons k n a r xs th el rest))) (s4 (pre.app (.cons k n a r xs th el rest)))),(4,AV.vec l0.length (j8 l0)),(5,AV.int .i64 ((pre.len:Nat):Int))],(hT e (aW e.k s) s.code s.sites)⟩ (Led 253 [(0,AV.ptr e.k 0 0),(1,AV.vec (Go.Un.Sl.len (pre.app (.cons k n a r xs th el rest))) (s4 (pre.app (.cons k n a r xs th el rest)))),(4,AV.vec l0.length (j8 l0)),(5,AV.int .i64 ((pre.len:Nat):Int))] (hT e (aW e.k s') (s').code (s').sites)):=by
  rcases hG with ⟨rfl,⟨j,hj,rfl⟩,hn,he,rfl,rfl,rfl,rfl,hr⟩ | ⟨rfl,hn,he,rfl,rfl,rfl,rfl,hr⟩ | ⟨rfl | rfl,⟨f,hf,rfl,ha⟩,rfl,rfl,rfl,rfl,hr⟩ | ⟨rfl | rfl,rfl,rfl,hR,rfl,rfl,rfl,hr⟩ | ⟨rfl,rfl,he,rfl,rfl,hth,hel,hr⟩ | ⟨rfl,rfl,he,rfl,rfl,hth,rfl,hr⟩ | ⟨rfl,rfl,rfl,rfl,rfl,rfl,rfl,hr⟩
  all_goals simp only[Sl.wt,Nat.add_zero]at B
  · exact ⟨(sG (p8 (cI s) ⟨1,s.loc,false,iB s.l a,cS,[],[]⟩ s.st) (vnm j)),_,sc.push hj hn s.loc,hr,rfl,B.var _ _,fin_var,c_blk1 sc bd B (by omega) j hj hn a he⟩
  · exact ⟨(p8 (cI s) ⟨1,(gI s.l n).n,(gI s.l n).kind==1,iB s.l a,cS,[],[]⟩ s.st),vs,sc,hr,rfl,B.ins _,sI (by simp only[r8,show ¬(2:Int)=1 from by decide,if_true,if_false];rfl) (by decide),c_blk2 sc bd B (by omega) n hn a he⟩
  · exact ⟨(p8 (cI s) ⟨2,(gI s.l f.1).n,false,l9,cS,bO s.l xs,aU s.l xs⟩ s.st),vs,sc,hr,rfl,B.ins _,sI (by simp only[r8,show ¬(3:Int)=1 from by decide,show ¬(3:Int)=2 from by decide,show ¬(3:Int)=4 from by decide,true_or,if_true,if_false]) (by decide),c_blk3 sc bd B (by omega) f hf xs ha⟩
  · exact ⟨(p8 (cI s) ⟨3,(gI s.l f.1).n,false,l9,cS,bO s.l xs,aU s.l xs⟩ s.st),vs,sc,hr,rfl,B.ins _,sI (by simp only[r8,show ¬(4:Int)=1 from by decide,show ¬(4:Int)=2 from by decide,or_true,if_true,if_false]) (by decide),c_blk4 sc bd B (by omega) f hf xs ha⟩
  · exact ⟨(p8 (cI s) ⟨4,0,false,l9,sC s.l r,[],[]⟩ s.st),vs,sc,hr,rfl,B.ins _,sI (by simp only[r8,show ¬(5:Int)=1 from by decide,show ¬(5:Int)=2 from by decide,show ¬((5:Int)=3∨(5:Int)=4) from by decide,if_true,if_false]) (by decide),c_blk5 sc bd B (by omega) r hR⟩
  · exact ⟨(p8 (cI s) ⟨5,0,false,l9,sC s.l r,[],[]⟩ s.st),vs,sc,hr,rfl,B.ins _,sI (by simp only[r8,show ¬(6:Int)=1 from by decide,show ¬(6:Int)=2 from by decide,show ¬((6:Int)=3∨(6:Int)=4) from by decide,show ¬(6:Int)=5 from by decide,if_true,if_false]) (by decide),c_blk6 sc bd B (by omega) r hR⟩
  · by_cases h0:0<el.len
    · exact ⟨(dJ (eU s a th el) (eT s a th).code.length ((eU s a th el).code.length:Int)),vs,sc,hr,rfl,(TE (B.mono (by omega))).tgt,TD h0,c_blk17 sc bd B a he th el h0 (by omega) (ih _ (.inl rfl) hth) (ih _ (.inr rfl) hel)⟩
    · obtain rfl:=len_nil.1 h0
      simp only[Sl.wt,Nat.add_zero]at B;exact ⟨(dJ (eT s a th) s.code.length ((eT s a th).code.length:Int)),vs,sc,hr,rfl,(O3 B).1.tgt,fin_if,c_blk7 sc bd B a he th (by omega) (ih _ (.inl rfl) hth)⟩
  · exact ⟨(dJ (H4 s a th) s.code.length ((H4 s a th).code.length:Int)),vs,sc,hr,rfl,((O3 (a:=a) B).1.put2 _ _ (O3 B).2.1 (O3 B).2.2).tgt,fin_wh,c_blk8 sc bd B a he th (by omega) (ih _ (.inl rfl) hth)⟩
  · exact ⟨(p8 (cI s) ⟨8,0,false,l9,cS,[],[]⟩ s.st),vs,sc,hr,rfl,B.ins _,sI (by simp only[r8,show ¬(9:Int)=1 from by decide,show ¬(9:Int)=2 from by decide,show ¬((9:Int)=3∨(9:Int)=4) from by decide,show ¬(9:Int)=5 from by decide,show ¬(9:Int)=6 from by decide,show ¬(9:Int)=7 from by decide,show ¬(9:Int)=8 from by decide,if_false]) (by decide),c_blk9 sc bd B (by omega)⟩
theorem fin_nil:dT l0 s .nil={ s with l:=l0 }:=by
  refine Sco.eq rfl rfl rfl ?_ ?_ ?_
  · simp[dT,Sl.wt]
  · simp[dT,r8]
  · simp[dT,dH]
theorem TG {c:Ctx}(S:Sl)(hSl:S.wt≤1000)(vars:List BA)(s:Sco)(sc0:SC E c vars s.l)(hG0:GS E S vars)(bd:Bd E c s.p)(B0:Bnd s S.wt)(e:Frm)(ih:∀S':Sl,S'.wt<S.wt→∀(vars:List BA) (s:Sco),SC E c vars s.l→GS E S' vars→Bd E c s.p→Bnd s S'.wt→∀e:Frm,CH 133 [.ptr e.k 0 0,.vec S'.len (s4 S')] (hT e (aW e.k s) (s).code (s).sites) (.tup []) (hT e (aW e.k (dT s.l s S')) ((dT s.l s S')).code ((dT s.l s S')).sites)):CH 133 [.ptr e.k 0 0,.vec S.len (s4 S)] (hT e (aW e.k s) s.code s.sites) (.tup []) (hT e (aW e.k (dT s.l s S)) ((dT s.l s S)).code ((dT s.l s S)).sites):=by
  refine .wz Tryz.f133 253 ?_;have hlw:=eH S;refine c16z ?_;refine .aN (fun m st=>∃(Z:Sl) (pre:Sl) (rst:Sl) (vs:List BA) (cur:Sco),(m=rst.len∧(Z=S∧S=pre.app rst∧GS E rst vs∧SC E c vs cur.l∧cur.p=s.p∧Bnd cur rst.wt∧dT s.l cur rst=dT s.l s S))∧st=⟨mkS 253 [(0,AV.ptr e.k 0 0),(1,AV.vec (Go.Un.Sl.len Z) (s4 Z)),(4,AV.vec s.l.length (j8 s.l)),(5,AV.int .i64 ((pre.len:Nat):Int))],hT e (aW e.k cur) cur.code cur.sites⟩) (.v ⟨S,Sl.nil,S,vars,s,⟨rfl,⟨rfl,rfl,hG0,sc0,rfl,B0,rfl⟩⟩,rfl⟩ (hs:=t11) (hr:=t104)) ?_;rintro m sl h' ⟨Z,pre,rst,vs,cur,⟨hm,⟨hZ,hS,hG,sc,hp,B,hF⟩⟩,hst⟩;obtain ⟨rfl,rfl⟩:=St.mk.inj hst;clear hst;subst hZ;have hlen:=congrArg Go.Un.Sl.len hS;rw[Go.Un.Sl.dA]at hlen;refine c1z ?_;refine u2z ?_ ?_
  ·intro e1 qe1;refine c137z ?_;obtain ⟨k,n,a,r,xs,th,el,rest,rfl⟩:=Go.Un.Sl.pL (s:=rst) (by omega);subst hS;have hwc:=@U5 pre k n a r xs th el rest;have hlc:=@aK pre k n a r xs th el rest;obtain ⟨s2,vs2,r1,r2,r3,r4,r5,hrun⟩:=TF (e:=e) (l0:=s.l) (pre:=pre) sc (by rw[hp];exact bd) hG B (fun T hT hgT s' q1 q2 q3 e'=>ih T (by rcases hT with rfl | rfl<;>omega) _ s' q1 hgT (by rw[q2,hp];exact bd) q3 e');refine c9.fitS [(0,AV.ptr e.k 0 0),(1,AV.vec (Go.Un.Sl.len (pre.app (.cons k n a r xs th el rest))) (s4 (pre.app (.cons k n a r xs th el rest)))),(4,AV.vec s.l.length (j8 s.l)),(5,AV.int .i64 ((pre.len:Nat):Int))] ?_;refine c9.led (hrun) ?_;intro lq hq haq;change c9 ..;refine c9.fitS [(0,AV.ptr e.k 0 0),(1,AV.vec (Go.Un.Sl.len (pre.app (.cons k n a r xs th el rest))) (s4 (pre.app (.cons k n a r xs th el rest)))),(4,AV.vec s.l.length (j8 s.l)),(5,AV.int .i64 ((pre.len:Nat):Int))] ?_ haq;refine .rz ?_;exact ⟨_,by omega,.v ⟨_,(pre.app (.cons k n a r xs th el .nil)),rest,vs2,s2,⟨rfl,⟨rfl,fO,r2,r1,r3.trans hp,r4,r5.trans hF⟩⟩,rfl⟩ (he:=by rfl) (hl:=by simp only[bF];exact Nat.le_refl _) (hk:=by exact hT_keep rfl) (hs:=t11) (hr:=t104)⟩
  intro e1 qe1;refine .exit ?_;have hr0:rst=.nil:=Sl.C0 (by omega);subst hr0;refine c195z ?_;refine Ends.n ?_;exact ⟨hT e ⟨0,false,198,10,[.vec cur.p.globals.length (u0 cur.p.globals),.vec cur.p.c4.length (g6 cur.p.c4),.vec cur.p.funcs.length (o8 cur.p.funcs),.vec s.l.length (j8 s.l),.int .i64 cur.loc,.int .i64 cur.st,.int .i64 0,.int .i64 0,.own (e.k+1) cur.code.length 0 cur.code.length,.own (e.k+2) cur.sites.length 0 cur.sites.length],0⟩ cur.code cur.sites,[],_,(List.append_nil _).symm,by (simp only[bF];exact Nat.le_refl _),(E8 (iW.get ⟨.vec _ _,.vec _ _,.vec _ _,.vec _ _,.int _ _,.int _ _,.int _ _,.int _ _,.own _ _ _ _ e.lt.2.1,.own _ _ _ _ e.lt.2.2,trivial⟩)),rfl,by rw[←hF,fin_nil];exact ⟨rfl,rfl⟩⟩
theorem BL {E:Env}{c:Ctx}:∀(n:Nat) (S:Sl),S.wt≤n→n≤1000→∀(vars:List BA) (s:Sco),SC E c vars s.l→GS E S vars→Bd E c s.p→Bnd s S.wt→∀e:Frm,CH 133 [.ptr e.k 0 0,.vec S.len (s4 S)] (hT e (aW e.k s) (s).code (s).sites) (.tup []) (hT e (aW e.k (dT s.l s S)) ((dT s.l s S)).code ((dT s.l s S)).sites)
  | n,S,hn,h1,vars,s,sc,hG,bd,B,e=>by
    refine TG S (by omega) vars s sc hG bd B e (fun S' hS'=>?_);cases n with
    | zero=>omega
    | succ n=>exact BL n S' (by omega) (by omega)
end Go.Proofs.YtonbocmibeikmaaGreat
end
