/- My own texts, put together by a program of mine. -/
import Derived.Test.YtonbocmibeikmaaGreatCW3
set_option linter.unusedSimpArgs false
set_option linter.unusedVariables false
set_option maxRecDepth 100000
set_option maxHeartbeats 4000000
section
namespace Go.Proofs.YtonbocmibeikmaaGreat
open Go.Ab Go.Un
theorem DJ {l:List Ex}{x:Ex}:n5 (l++[x])=n5 l++s5 x:=by simp[n5]
theorem Q9 {l:List Pl}{x:Pl}:cY (l++[x])=cY l++J1 x:=by simp[cY]
section
variable {e:Frm}{b b0 b1 b2 b3 b4 b5 b6:Blk}{c:List Ins}{ss:List Int}{l:c6}{es:List Ex}{x:Ex}{ps:List Pl}{p:Pl}{g n:Nat}
theorem IY (hn:es.length=n)(hl:n<100000):j0 cfg 49 (hT e b c ss++(b0::b1::b2::b3::o8 49 4 g (n5 es)::b5::b6::⟨0,false,49,4,s5 x,0⟩::l)) (.own (e.n+4) g 0 n) (.own (e.n+7) 0 0 1)=some (.own (e.n+4) (g+1) 0 (n+1),hT e b c ss++(b0::b1::b2::b3::o8 49 4 (g+1) (n5 (es++[x]))::b5::b6::⟨0,false,49,4,s5 x,0⟩::l)):=by subst hn;rw[u3 (C:=cfg) (K:=4) (m:=1) (new:=s5 x) (zs:=n5 es) (by rw[dV];rfl) rfl (by omega) (by rw[bA,Nat.mul_comm]) (by rw[o3]) (by omega) (by simp[rd,dV,o3,fW]) rfl (by decide) (by omega),←DJ,hC];rfl
theorem IZ (hn:ps.length=n)(hl:n<100000):j0 cfg 51 (hT e b c ss++(b0::b1::b2::b3::b4::o8 51 3 g (cY ps)::b6::⟨0,false,51,3,[.bool p.param,.int .i64 p.index,.vec p.at'.length (n5 p.at')],0⟩::l)) (.own (e.n+5) g 0 n) (.own (e.n+7) 0 0 1)=some (.own (e.n+5) (g+1) 0 (n+1),hT e b c ss++(b0::b1::b2::b3::b4::o8 51 3 (g+1) (cY (ps++[p]))::b6::⟨0,false,51,3,[.bool p.param,.int .i64 p.index,.vec p.at'.length (n5 p.at')],0⟩::l)):=by subst hn;rw[u3 (C:=cfg) (K:=3) (m:=1) (new:=J1 p) (zs:=cY ps) (by rw[dV];rfl) rfl (by omega) t210 rfl (by omega) (by simp[rd,dV,J1]) rfl (by decide) (by omega),←Q9,hC];rfl
end
theorem hT_same {e:Frm}{b:Blk}{c:List Ins}{ss:List Int}{l l':c6}(hl:nN (e.n+l'.length) l l'):u6 (hT e b c ss++l) (hT e b c ss++l'):=
  (u6.refl _).app rfl (by rw[aF];exact hl)
variable {E:Env}{vars:List BA}{xs:List Ar}
theorem GAs.mu {ps:List Pm}(h:GAs E vars ps xs):ps.length=xs.length∧∀i,i<xs.length→(xs.getD i dJ).mu=(ps.getD i iD).mu:=by
  induction ps generalizing xs with
  | nil=>
    cases xs with
    | nil=>exact ⟨rfl,fun i hi=>by simp at hi⟩
    | cons=>exact h.elim
  | cons p ps ih=>
    cases xs with
    | nil=>exact h.elim
    | cons a xs=>
      obtain ⟨⟨h1,_⟩,h3⟩:=h;obtain ⟨i1,i2⟩:=ih h3;refine ⟨by simp[i1],fun i hi=>?_⟩;cases i with
      | zero=>exact h1
      | succ i=>exact i2 i (by simpa using hi)
theorem ar_is {ps:List Pm}(h:GAs E vars ps xs){i:Nat}(hi:i<xs.length):((xs.getD i dJ).mu=true→GR E vars (xs.getD i dJ).r)∧((xs.getD i dJ).mu=false→GE vars 2 (xs.getD i dJ).e):=by
  induction ps generalizing xs i with
  | nil=>
    cases xs with
    | nil=>simp at hi
    | cons=>exact h.elim
  | cons p ps ih=>
    cases xs with
    | nil=>exact h.elim
    | cons a xs=>
      obtain ⟨⟨h1,h2⟩,h3⟩:=h;cases i with
      | succ i=>exact ih h3 (by simpa using hi)
      | zero=>
        simp only[List.getD_cons_zero];rcases h2 with ⟨q1,q2,_⟩ | ⟨q1,_,q3⟩
        · exact ⟨fun _=>q2,fun h=>absurd ((h1.trans q1).symm.trans h) (by decide)⟩
        · exact ⟨fun h=>absurd ((h1.trans q1).symm.trans h) (by decide),fun _=>q3⟩
variable {i:Nat}
theorem C2 (hi:i<xs.length):xs.drop i=xs.getD i dJ::xs.drop (i+1):=by rw[List.drop_eq_getElem_cons hi];simp[List.getD,hi]
theorem cEx_t {l:List Ent}(hi:i<xs.length)(h:(xs.getD i dJ).mu=true){es:List Ex}(he:aO l xs=es++aO l (xs.drop i)):aO l xs=es++aO l (xs.drop (i+1)):=by rw[he,C2 hi,aO,if_pos h]
theorem cEx_f {l:List Ent}(hi:i<xs.length)(h:(xs.getD i dJ).mu=false){es:List Ex}(he:aO l xs=es++aO l (xs.drop i)):aO l xs=(es++[fP l (xs.getD i dJ).e])++aO l (xs.drop (i+1)):=by rw[he,C2 hi,aO,if_neg t202];simp
theorem cPl_t {l:List Ent}(hi:i<xs.length)(h:(xs.getD i dJ).mu=true){ps:List Pl}(he:z6 l xs=ps++z6 l (xs.drop i)):z6 l xs=(ps++[rD l (xs.getD i dJ).r])++z6 l (xs.drop (i+1)):=by rw[he,C2 hi,z6,if_pos h];simp
theorem cPl_f {l:List Ent}(hi:i<xs.length)(h:(xs.getD i dJ).mu=false){ps:List Pl}(he:z6 l xs=ps++z6 l (xs.drop i)):z6 l xs=ps++z6 l (xs.drop (i+1)):=by rw[he,C2 hi,z6,if_neg t202]
theorem AF {l:List Ar}(h:i<l.length):List.take 7 (List.drop (i*7) (bB l))=[.bool (l.getD i dJ).mu,.str (l.getD i dJ).r.name,.vec (l.getD i dJ).r.idx.length (n5 (l.getD i dJ).r.idx),.int .i64 (l.getD i dJ).e.op,.int .i64 (l.getD i dJ).e.num,.str (l.getD i dJ).e.name,.vec (l.getD i dJ).e.args.length (n5 (l.getD i dJ).e.args)]:=by rw[vA h,vQ]
variable {s:Sco}
theorem RO (hl:s.l.length<1000000)(t:Int)(hv:∀x∈vars,∃v,bI s.l x=some v∧(v.kind=1∨v.kind=4)){d:Nat}{a:Ex}(g:GE vars d a)(e:Frm):CB 166 [.ptr e.k 0 0,.agg [.int .i64 a.op,.int .i64 a.num,.str a.name,.vec a.args.length (n5 a.args)],.int .i64 t] (hT e (z8 e.k s) s.code s.sites) (.agg (s5 (fP s.l a))):=by rw[←bG];exact Nz hl t hv g e
theorem JA {e:Frm}(hl:s.l.length<1000000)(t:Int){c:Ctx}(sc:SC E c vars s.l)(hE:E.mutexes=s.p.mutexes)(hc:c.nm=s.p.mutexes.length){r:Rf}(g:GR E vars r):CB 169 [.ptr e.k 0 0,.agg [.str r.name,.vec r.idx.length (n5 r.idx)],.int .i64 t] (hT e (z8 e.k s) s.code s.sites) (.agg [.bool (rD s.l r).param,.int .i64 (rD s.l r).index,.vec (rD s.l r).at'.length (n5 (rD s.l r).at')]):=c_refL hl t sc hE hc g
attribute [local go_sem] rd r9 o3 bA cI s6 aN fO dF o4 aW aK l9 bC Int.natCast_nonneg Int.natCast_inj List.length_map wrap64 fW iY iZ Y8 J7 P4 Y9 tN max2 eU cN bD Nat.reduceMul nC kB z8 iM pW lF vT aF hT_0 hT_1 hT_2 RJ RK RL dV C0 hC Q5 RM AA nF L0 AE IY IZ
section
attribute [local go_sem] L0 AE
theorem c_put {e:Frm}(hc:s.code.length<10000)(hs:s.sites.length<10000)(i:Ins)(t:Int):CH 134 [.ptr e.k 0 0,.agg (eH i),.int .i64 t] (hT e (z8 e.k s) s.code s.sites) (.int .i64 ((s.code.length:Nat):Int)) (hT e (z8 e.k {s with code:=s.code++[i],sites:=s.sites++[t]}) (s.code++[i]) (s.sites++[t])):=by rw[lG];refine .wz Tryz.f134 33 ?_;refine .z ?_;refine .sg u4 (mkH 22 [0,0,0,4,12,28,0,64,252,0,512,1536,3584,0,8192,32764,65533,131069,262141,524287,1048575,2097151] [7,8,14,15,18,21] [(7,0),(14,1)] [0,128,384,16384,16512,16768,49536,311680,2408832] [0,1,2,3,4,5,6,7,8,9,10,11,12]) 2 ?_;refine .p 5 ?_;refine .rm [true] ?_;refine .rm [true] ?_;refine .em [true] [128,0] [_] ?_;refine .em [true,false] [384,128,0] [_] ?_;refine .p 3 ?_;refine .rm [true,true,true] ?_;refine .p 1 ?_;refine .en [true,true,true] [16768,16512,16384,384,128,0] [_,_,_] ?_;refine .en [true,false,false,false,false,false] [49536,16768,16512,16384,384,128,0] [_] ?_;refine .p 2 ?_;refine .en [true,false,false,false,false,false,false] [311680,49536,16768,16512,16384,384,128,0] [_] ?_;refine .p 2 ?_;refine .en [true,false,false,false,false,false,false,false] [2408832,311680,49536,16768,16512,16384,384,128,0] [_] ?_;refine .po [false,false,false,true,true,true,true,true,true] ?_;refine .po [false,false,false,false,true,false,false,true,false] ?_;refine .po [false,false,false,false,false,true,false,false,true] ?_;refine .po [false,false,false,false,false,true,false,false,true] ?_;refine .po [false,false,false,false,true,true,false,true,true] ?_;refine w4.nil rfl ?_;refine .c7 [0] ?_;refine c17z ?_;exact ⟨hT _ _ _ _,_,_,rfl,by (simp only[aF];exact Nat.le_refl _),(C1 (fF.get ⟨.vec _ _,.vec _ _,.vec _ _,.vec _ _,.int _ _,.int _ _,.int _ _,.int _ _,.own _ _ _ _ e.lt.2.1,.own _ _ _ _ e.lt.2.2,trivial⟩)),t2,by exact ⟨congrArg (AV.int .i64) (by omega),by simp only[z8,List.length_append,List.length_cons,List.length_nil]⟩⟩
end
section
attribute [local go_sem] nF AF IY IZ
theorem c_call3 {e:Frm}(hl:s.l.length<1000000)(t:Int){c:Ctx}(sc:SC E c vars s.l)(hE:E.mutexes=s.p.mutexes)(hc:c.nm=s.p.mutexes.length){x y:BA}{n:Int}(hf:bI s.l x=some ⟨y,3,n⟩)(hn:0≤n∧n<s.p.funcs.length){ps:List Pm}(hp:(s.p.funcs.getD n.toNat j8).params=ps)(hp2:ps.length≤2)(ha:GAs E vars ps xs):CB 168 [.ptr e.k 0 0,.agg [.int .i64 3,.str x,.int .i64 0,.int .i64 0,.str ByteArray.empty,.vec 0 [],.str ByteArray.empty,.vec 0 [],.vec xs.length (bB xs),.vec 0 [],.vec 0 []],.int .i64 t] (hT e (z8 e.k s) s.code s.sites) (.agg (eH ⟨2,n,false,l7,bO,aO s.l xs,z6 s.l xs⟩)):=by
  refine .bz Tryz.f168 112 ?_;refine .z ?_;refine c66z ?_;refine c20z ?_;refine c25z ?_;refine c128z ?_;refine c255z ?_;refine .sb ?_;refine .c7 [0,2,4,6,7,8,9] ?_;refine c126z ?_;refine c4z ?_;refine c168z ?_;refine .ss u4 (mkP 11 [0,1,3,7,15,0,32,127,255,511,1023] []) ?_;refine c36z ?_;refine .seq ?_;refine .c7 [0,2,4,6,7,10,54] ?_;have hml:=GAs.mu ha;have hml1:=hml.1;rw[hp];refine .z ?_;refine .spl 61 rfl rfl (fun e1=>by exfalso;have hml1:=(GAs.mu ha).1;have q:=fact e1;omega) (fun e1=>?_);try simp only[e1]
  have qe1:=fact e1;refine c20z ?_;refine c5z ?_;refine g5.mI (β:=e.n+2) (k:=10) t93 rfl ?_;simp only[List.append_assoc,List.cons_append,List.nil_append,dV,hC,List.set_cons_succ,List.set_cons_zero,List.length_append,aF,List.length_cons,List.length_nil,Nat.reduceAdd,Nat.zero_add];refine g5.mI (β:=e.n+2) (k:=11) t93 rfl ?_;simp only[List.append_assoc,List.cons_append,List.nil_append,dV,hC,List.set_cons_succ,List.set_cons_zero,List.length_append,aF,List.length_cons,List.length_nil,Nat.reduceAdd,Nat.zero_add];refine .s4 (fun m st=>∃(q:Nat) (es:List Ex) (ps':List Pl) (gi:Nat) (gp:Nat),(m=ps.length-q∧(q≤ps.length∧aO s.l xs=es++aO s.l (xs.drop q)∧z6 s.l xs=ps'++z6 s.l (xs.drop q)∧es.length≤q∧ps'.length≤q))∧st=⟨mkS 112 [(0,AV.ptr e.k 0 0),(2,AV.int .i64 t),(4,AV.ptr e.n 0 0),(6,AV.ptr (e.n+1) 0 0),(7,AV.ptr (e.n+2) 0 0),(10,AV.vec ps.length (v8 ps)),(11,AV.int .i64 ((q:Nat):Int))],(hT e (z8 e.k s) s.code s.sites)++[⟨0,false,190,11,[.int .i64 3,.str x,.int .i64 0,.int .i64 0,.str ByteArray.empty,.vec 0 [],.str ByteArray.empty,.vec 0 [],.vec xs.length (bB xs),.vec 0 [],.vec 0 []],0⟩,⟨0,false,54,12,[.int .i64 0,.int .i64 0,.bool false,.int .i64 0,.int .i64 0,.str ByteArray.empty,.nils,.bool false,.int .i64 0,.nils,.nils,.nils],0⟩,⟨0,false,54,12,[.int .i64 2,.int .i64 n,.bool false,.int .i64 0,.int .i64 0,.str ByteArray.empty,.nils,.bool false,.int .i64 0,.nils,.own (e.n+4) gi 0 es.length,.own (e.n+5) gp 0 ps'.length],0⟩,⟨0,false,145,3,[.str y,.int .i64 3,.int .i64 n],0⟩,o8 49 4 gi (n5 es),o8 51 3 gp (cY ps')]⟩) (.v ⟨0,([]:List Ex),([]:List Pl),0,0,⟨rfl,⟨by omega,by simp,by simp,by simp,by simp⟩⟩,rfl⟩ (hr:=t19)) ?_;rintro m sl h' ⟨q,es,ps',gi,gp,⟨hm,⟨hq,hes,hps,hel,hpl⟩⟩,hst⟩;obtain ⟨rfl,rfl⟩:=St.mk.inj hst;clear hst;refine c0z ?_;refine u2z ?_ ?_
  ·intro e2 qe2;refine c3z ?_;have har:=ar_is ha (i:=q) (by omega);refine c10z ?_;refine .c7 [0,2,4,6,7,10,11,12] ?_;refine .ss u4 (mkP 8 [0,1,0,0,12,28,60,127] []) ?_;refine .n [] ?_;refine .spl 84 rfl rfl (fun e3=>by exfalso;have hml2:=(GAs.mu ha).2 q (by omega);simp_all) (fun e3=>?_);try simp only[e3]
   have qe3:=fact e3;refine c20z ?_;refine .c7 [0,2,4,6,7,10,11,12] ?_;refine .z ?_;refine u2z ?_ ?_
   ·intro e4 qe4;have hmu:(xs.getD q dJ).mu=true:=by assumption
    refine c55z ?_;refine c30z ?_;refine c171z ?_;refine .cn [true] [64,0] [_] rfl rfl t151 ?_;refine c96z ?_;refine c118z ?_;refine c58z ?_;refine c191z ?_;refine .rz ?_;exact ⟨_,by omega,.v ⟨(q+1),es,(ps'++[rD s.l (xs.getD q dJ).r]),gi,(gp+1),⟨rfl,⟨by omega,cEx_t (by omega) hmu hes,cPl_t (by omega) hmu hps,by omega,t55⟩⟩,rfl⟩ (he:=t38) (hl:=t84) (hk:=t32) (hr:=t19)⟩
   intro e4 qe4;have hmu:(xs.getD q dJ).mu=false:=by assumption
   refine c55z ?_;refine c30z ?_;refine c171z ?_;refine .cn [true] [64,0] [_] rfl rfl t152 ?_;refine c96z ?_;refine c118z ?_;refine c58z ?_;refine c191z ?_;refine .rz ?_;exact ⟨_,by omega,.v ⟨(q+1),(es++[fP s.l (xs.getD q dJ).e]),ps',(gi+1),gp,⟨rfl,⟨by omega,cEx_f (by omega) hmu hes,cPl_f (by omega) hmu hps,t55,by omega⟩⟩,rfl⟩ (he:=t38) (hl:=t84) (hk:=t32) (hr:=t19)⟩
  intro e2 qe2;refine .exit ?_;obtain rfl:q=ps.length:=by omega
  rw[List.drop_of_length_le (by omega)]at hes hps;simp only[aO,z6,List.append_nil]at hes hps;refine g5.nO (γ:=e.n+4) (β:=e.n+2) (k:=10) (len:=es.length) t93 (by rw[bA,Nat.mul_comm]) (by omega) (Be _) t93 (by omega) rfl ?_;simp only[List.append_assoc,List.cons_append,List.nil_append,dV,hC,List.set_cons_succ,List.set_cons_zero,List.length_append,aF,List.length_cons,List.length_nil,Nat.reduceAdd,Nat.zero_add];refine g5.nO (γ:=e.n+5) (β:=e.n+2) (k:=11) (len:=ps'.length) t93 t210 (by omega) (IW _) t93 (by omega) rfl ?_;simp only[List.append_assoc,List.cons_append,List.nil_append,dV,hC,List.set_cons_succ,List.set_cons_zero,List.length_append,aF,List.length_cons,List.length_nil,Nat.reduceAdd,Nat.zero_add];generalize fG 49 4 gi (n5 es) (es.length*4)=Eb;generalize fG 51 3 gp (cY ps') (ps'.length*3)=Pb;change g5 ..;refine c244z ?_;exact .ret (.ex (hf:=t2) (hq:=t211))
end
section
attribute [local go_sem] nF AF IY IZ
theorem c_call4 {e:Frm}(hl:s.l.length<1000000)(t:Int){c:Ctx}(sc:SC E c vars s.l)(hE:E.mutexes=s.p.mutexes)(hc:c.nm=s.p.mutexes.length){x y:BA}{n:Int}(hf:bI s.l x=some ⟨y,3,n⟩)(hn:0≤n∧n<s.p.funcs.length){ps:List Pm}(hp:(s.p.funcs.getD n.toNat j8).params=ps)(hp2:ps.length≤2)(ha:GAs E vars ps xs):CB 168 [.ptr e.k 0 0,.agg [.int .i64 4,.str x,.int .i64 0,.int .i64 0,.str ByteArray.empty,.vec 0 [],.str ByteArray.empty,.vec 0 [],.vec xs.length (bB xs),.vec 0 [],.vec 0 []],.int .i64 t] (hT e (z8 e.k s) s.code s.sites) (.agg (eH ⟨3,n,false,l7,bO,aO s.l xs,z6 s.l xs⟩)):=by
  refine .bz Tryz.f168 112 ?_;refine .z ?_;refine c66z ?_;refine .T ?_;refine c1z ?_;refine c25z ?_;refine c128z ?_;refine c255z ?_;refine .sb ?_;refine .c7 [0,2,4,6,7,8,9] ?_;refine c126z ?_;refine c4z ?_;refine c168z ?_;refine .ss u4 (mkP 11 [0,1,3,7,15,0,32,127,255,511,1023] []) ?_;refine c36z ?_;refine .seq ?_;refine .c7 [0,2,4,6,7,10,54] ?_;have hml:=GAs.mu ha;have hml1:=hml.1;rw[hp];refine .z ?_;refine .spl 61 rfl rfl (fun e1=>by exfalso;have hml1:=(GAs.mu ha).1;have q:=fact e1;omega) (fun e1=>?_);try simp only[e1]
  have qe1:=fact e1;refine c20z ?_;refine c5z ?_;refine g5.mI (β:=e.n+2) (k:=10) t93 rfl ?_;simp only[List.append_assoc,List.cons_append,List.nil_append,dV,hC,List.set_cons_succ,List.set_cons_zero,List.length_append,aF,List.length_cons,List.length_nil,Nat.reduceAdd,Nat.zero_add];refine g5.mI (β:=e.n+2) (k:=11) t93 rfl ?_;simp only[List.append_assoc,List.cons_append,List.nil_append,dV,hC,List.set_cons_succ,List.set_cons_zero,List.length_append,aF,List.length_cons,List.length_nil,Nat.reduceAdd,Nat.zero_add];refine .s4 (fun m st=>∃(q:Nat) (es:List Ex) (ps':List Pl) (gi:Nat) (gp:Nat),(m=ps.length-q∧(q≤ps.length∧aO s.l xs=es++aO s.l (xs.drop q)∧z6 s.l xs=ps'++z6 s.l (xs.drop q)∧es.length≤q∧ps'.length≤q))∧st=⟨mkS 112 [(0,AV.ptr e.k 0 0),(2,AV.int .i64 t),(4,AV.ptr e.n 0 0),(6,AV.ptr (e.n+1) 0 0),(7,AV.ptr (e.n+2) 0 0),(10,AV.vec ps.length (v8 ps)),(11,AV.int .i64 ((q:Nat):Int))],(hT e (z8 e.k s) s.code s.sites)++[⟨0,false,190,11,[.int .i64 4,.str x,.int .i64 0,.int .i64 0,.str ByteArray.empty,.vec 0 [],.str ByteArray.empty,.vec 0 [],.vec xs.length (bB xs),.vec 0 [],.vec 0 []],0⟩,⟨0,false,54,12,[.int .i64 0,.int .i64 0,.bool false,.int .i64 0,.int .i64 0,.str ByteArray.empty,.nils,.bool false,.int .i64 0,.nils,.nils,.nils],0⟩,⟨0,false,54,12,[.int .i64 3,.int .i64 n,.bool false,.int .i64 0,.int .i64 0,.str ByteArray.empty,.nils,.bool false,.int .i64 0,.nils,.own (e.n+4) gi 0 es.length,.own (e.n+5) gp 0 ps'.length],0⟩,⟨0,false,145,3,[.str y,.int .i64 3,.int .i64 n],0⟩,o8 49 4 gi (n5 es),o8 51 3 gp (cY ps')]⟩) (.v ⟨0,([]:List Ex),([]:List Pl),0,0,⟨rfl,⟨by omega,by simp,by simp,by simp,by simp⟩⟩,rfl⟩ (hr:=t19)) ?_;rintro m sl h' ⟨q,es,ps',gi,gp,⟨hm,⟨hq,hes,hps,hel,hpl⟩⟩,hst⟩;obtain ⟨rfl,rfl⟩:=St.mk.inj hst;clear hst;refine c0z ?_;refine u2z ?_ ?_
  ·intro e2 qe2;refine c3z ?_;have har:=ar_is ha (i:=q) (by omega);refine c10z ?_;refine .c7 [0,2,4,6,7,10,11,12] ?_;refine .ss u4 (mkP 8 [0,1,0,0,12,28,60,127] []) ?_;refine .n [] ?_;refine .spl 84 rfl rfl (fun e3=>by exfalso;have hml2:=(GAs.mu ha).2 q (by omega);simp_all) (fun e3=>?_);try simp only[e3]
   have qe3:=fact e3;refine c20z ?_;refine .c7 [0,2,4,6,7,10,11,12] ?_;refine .z ?_;refine u2z ?_ ?_
   ·intro e4 qe4;have hmu:(xs.getD q dJ).mu=true:=by assumption
    refine c55z ?_;refine c30z ?_;refine c171z ?_;refine .cn [true] [64,0] [_] rfl rfl t151 ?_;refine c96z ?_;refine c118z ?_;refine c58z ?_;refine c191z ?_;refine .rz ?_;exact ⟨_,by omega,.v ⟨(q+1),es,(ps'++[rD s.l (xs.getD q dJ).r]),gi,(gp+1),⟨rfl,⟨by omega,cEx_t (by omega) hmu hes,cPl_t (by omega) hmu hps,by omega,t55⟩⟩,rfl⟩ (he:=t38) (hl:=t84) (hk:=t32) (hr:=t19)⟩
   intro e4 qe4;have hmu:(xs.getD q dJ).mu=false:=by assumption
   refine c55z ?_;refine c30z ?_;refine c171z ?_;refine .cn [true] [64,0] [_] rfl rfl t152 ?_;refine c96z ?_;refine c118z ?_;refine c58z ?_;refine c191z ?_;refine .rz ?_;exact ⟨_,by omega,.v ⟨(q+1),(es++[fP s.l (xs.getD q dJ).e]),ps',(gi+1),gp,⟨rfl,⟨by omega,cEx_f (by omega) hmu hes,cPl_f (by omega) hmu hps,t55,by omega⟩⟩,rfl⟩ (he:=t38) (hl:=t84) (hk:=t32) (hr:=t19)⟩
  intro e2 qe2;refine .exit ?_;obtain rfl:q=ps.length:=by omega
  rw[List.drop_of_length_le (by omega)]at hes hps;simp only[aO,z6,List.append_nil]at hes hps;refine g5.nO (γ:=e.n+4) (β:=e.n+2) (k:=10) (len:=es.length) t93 (by rw[bA,Nat.mul_comm]) (by omega) (Be _) t93 (by omega) rfl ?_;simp only[List.append_assoc,List.cons_append,List.nil_append,dV,hC,List.set_cons_succ,List.set_cons_zero,List.length_append,aF,List.length_cons,List.length_nil,Nat.reduceAdd,Nat.zero_add];refine g5.nO (γ:=e.n+5) (β:=e.n+2) (k:=11) (len:=ps'.length) t93 t210 (by omega) (IW _) t93 (by omega) rfl ?_;simp only[List.append_assoc,List.cons_append,List.nil_append,dV,hC,List.set_cons_succ,List.set_cons_zero,List.length_append,aF,List.length_cons,List.length_nil,Nat.reduceAdd,Nat.zero_add];generalize fG 49 4 gi (n5 es) (es.length*4)=Eb;generalize fG 51 3 gp (cY ps') (ps'.length*3)=Pb;change g5 ..;refine c244z ?_;exact .ret (.ex (hf:=t2) (hq:=t211))
end
end Go.Proofs.YtonbocmibeikmaaGreat
end
section
namespace Go.Proofs.YtonbocmibeikmaaGreat
open Go.Ab Go.Un
def cC:Sl→Int→List Int
  | .nil,_=>[]
  | .cons k n e r xs th el rest,t=>
    if k=7 then t::(cC th (t+1)++((if 0<el.len then t::cC el (t+1+(th.wt:Int)) else [])++cC rest (t+1+(th.wt:Int)+(el.wt:Int))))
    else if k=8 then t::(cC th (t+1)++(t::cC rest (t+1+(th.wt:Int))))
    else t::cC rest (t+1)
theorem iJ:∀(S:Sl) (t:Int),(cC S t).length≤2*S.wt
  | .nil,t=>by simp[cC]
  | .cons k n e r xs th el rest,t=>by
    have h1:=iJ th (t+1);have h2:=iJ el (t+1+(th.wt:Int));have h3:=iJ rest (t+1+(th.wt:Int)+(el.wt:Int));have h4:=iJ rest (t+1+(th.wt:Int));have h5:=iJ rest (t+1);unfold cC;simp only[Sl.wt];split
    · split<;>simp only[List.length_cons,List.length_append,List.length_nil]<;>omega
    · split<;>simp only[List.length_cons,List.length_append]<;>omega
def sO (c:List Ins)(i:Nat)(v:Int):List Ins:=c.set i { c.getD i c8 with target:=v }
theorem lH {c:List Ins}{i:Nat}{v:Int}:(sO c i v).length=c.length:=by simp[sO]
theorem C3 {c d:List Ins}{x:Ins}{i:Nat}{v:Int}(hi:i=c.length):sO (c++(x::d)) i v=c++({ x with target:=v }::d):=by subst hi;simp[sO,List.getD]
def bF (s:Sco):Sco:={ s with st:=s.st+1 }
def o5 (s:Sco)(i:Ins)(t:Int):Sco:={ s with code:=s.code++[i],sites:=s.sites++[t] }
def cG (s:Sco)(i:Nat)(v:Int):Sco:={ s with code:=sO s.code i v }
def rH (s:Sco)(n:BA):Sco:={ s with l:=s.l++[⟨n,4,s.loc⟩],loc:=s.loc+1 }
def cK (l0:List Ent)(s:Sco)(S:Sl):Sco:={ s with l:=l0,loc:=fQ S s.loc,st:=s.st+(S.wt:Int),code:=s.code++p4 S s.l s.loc s.code.length,sites:=s.sites++cC S s.st }
variable {k:Nat}{s:Sco}
theorem tU {i:Nat}{v:Int}:z8 k (cG s i v)=z8 k s:=by simp only[z8,cG,lH]
variable {t:Int}
theorem RP {i:Ins}{n:BA}:z8 k (rH (o5 (bF s) i t) n)=⟨0,false,198,10,[.vec s.p.globals.length (r7 s.p.globals),.vec s.p.mutexes.length (g6 s.p.mutexes),.vec s.p.funcs.length (o9 s.p.funcs),.vec (s.l.length+1) (l3 (s.l++[⟨n,4,s.loc⟩])),.int .i64 (s.loc+1),.int .i64 (s.st+1),.int .i64 0,.int .i64 0,.own (k+1) (s.code.length+1) 0 (s.code.length+1),.own (k+2) (s.sites.length+1) 0 (s.sites.length+1)],0⟩:=by simp only[z8,rH,o5,bF,List.length_append,List.length_cons,List.length_nil,Nat.zero_add]
theorem C4:(z8 k s).gen=0:=rfl
theorem vU:(z8 k s).virt=false:=rfl
theorem vV:(z8 k s).elem=198:=rfl
theorem C5:(z8 k s).esz=10:=rfl
theorem C6:(z8 k s).frz=0:=rfl
theorem rI:(z8 k s).cells=[.vec s.p.globals.length (r7 s.p.globals),.vec s.p.mutexes.length (g6 s.p.mutexes),.vec s.p.funcs.length (o9 s.p.funcs),.vec s.l.length (l3 s.l),.int .i64 s.loc,.int .i64 s.st,.int .i64 0,.int .i64 0,.own (k+1) s.code.length 0 s.code.length,.own (k+2) s.sites.length 0 s.sites.length]:=rfl
theorem JB:(bF s).l=s.l:=rfl
theorem AG:(bF s).loc=s.loc:=rfl
theorem stSt_p:(bF s).p=s.p:=rfl
theorem gQ:(bF s).code.length=s.code.length:=rfl
theorem eN:(bF s).sites.length=s.sites.length:=rfl
theorem R2 {i:Ins}:(o5 s i t).l=s.l:=rfl
theorem vW {i:Ins}:(o5 s i t).loc=s.loc:=rfl
theorem AH {i:Ins}:(o5 s i t).st=s.st:=rfl
theorem stPut_p {i:Ins}:(o5 s i t).p=s.p:=rfl
theorem bU {i:Ins}:(o5 s i t).code.length=s.code.length+1:=by simp[o5]
theorem bJ {i:Ins}:(o5 s i t).sites.length=s.sites.length+1:=by simp[o5]
theorem stTgt_l {i:Nat}:(cG s i t).l=s.l:=rfl
theorem kC {i:Nat}:(cG s i t).code.length=s.code.length:=lH
theorem oG {i:Nat}:(cG s i t).sites.length=s.sites.length:=rfl
variable {l0:List Ent}{S:Sl}
theorem finS_l:(cK l0 s S).l=l0:=rfl
theorem finS_p:(cK l0 s S).p=s.p:=rfl
theorem iO:s.code.length≤(cK l0 s S).code.length∧(cK l0 s S).code.length≤s.code.length+2*S.wt:=by have:=eS S s.l s.loc s.code.length;simp only[cK,List.length_append];omega
theorem iK:s.sites.length≤(cK l0 s S).sites.length∧(cK l0 s S).sites.length≤s.sites.length+2*S.wt:=by have:=iJ S s.st;simp only[cK,List.length_append];omega
theorem sB:∀(S:Sl) (n:Int),n≤fQ S n∧fQ S n≤n+(S.wt:Int)
  | .nil,n=>by simp[fQ,Sl.wt]
  | .cons k nm e r xs th el rest,n=>by
    have r1:=sB rest (n+1);have r2:=sB rest (fQ el (fQ th n));have r3:=sB rest (fQ th n);have r4:=sB rest n;have t1:=sB th n;have e1:=sB el (fQ th n);simp only[fQ,Sl.wt];split
    · omega
    · split
      · omega
      · split<;>omega
structure Bnd (s:Sco)(W:Nat):Prop where
  lp:0<s.l.length
  lb:s.l.length+W≤900
  cb:s.code.length+2*W≤5000
  sb:s.sites.length+2*W≤5000
  o0:0≤s.loc
  ob:s.loc+(W:Int)≤5000
  t0:0≤s.st
  tb:s.st+(W:Int)≤5000
structure Bd (E:Env)(c:Ctx)(p:Go.Un.Pg):Prop where
  hE:E.mutexes=p.mutexes
  hc:c.nm=p.mutexes.length
  hf:E.funcs=p.funcs.map fun f=>(f.name,f.params)
  fp:∀f∈E.funcs,f.2.length≤2
theorem Sco.eq {a b:Sco}(h1:a.p=b.p)(h2:a.l=b.l)(h3:a.loc=b.loc)(h4:a.st=b.st)(h5:a.code=b.code)(h6:a.sites=b.sites):a=b:=by cases a;cases b;simp_all
variable {rest:Sl}
theorem fin_var {n:BA}{e:Ex}:cK l0 (rH (o5 (bF s) ⟨1,s.loc,false,fP s.l e,bO,[],[]⟩ s.st) n) rest=cK l0 s (.cons 1 n e n6 [] .nil .nil rest):=by
  refine Sco.eq rfl rfl ?_ ?_ ?_ ?_
  · simp only[cK,rH,o5,bF,fQ,if_true]
  · simp only[cK,rH,o5,bF,Sl.wt];omega
  · simp only[cK,rH,o5,bF,p4,if_true,List.append_assoc,List.cons_append,List.nil_append,List.length_append,List.length_cons,List.length_nil,Nat.zero_add]
  · simp only[cK,rH,o5,bF,cC,show ¬(1:Int)=7 from by decide,show ¬(1:Int)=8 from by decide,if_false,List.append_assoc,List.cons_append,List.nil_append]
variable {r:Rf}{xs:List Ar}
theorem rJ {i:Ins}{k:Int}{n:BA}{e:Ex}(h:p4 (.cons k n e r xs .nil .nil rest) s.l s.loc s.code.length=i::p4 rest s.l s.loc (s.code.length+1))(hk:k≠1∧k≠7∧k≠8):cK l0 (o5 (bF s) i s.st) rest=cK l0 s (.cons k n e r xs .nil .nil rest):=by
  refine Sco.eq rfl rfl ?_ ?_ ?_ ?_
  · simp only[cK,o5,bF,fQ,hk.1,hk.2.1,hk.2.2,if_false]
  · simp only[cK,o5,bF,Sl.wt];omega
  · simp only[cK,h,o5,bF,List.append_assoc,List.cons_append,List.nil_append,List.length_append,List.length_cons,List.length_nil,Nat.zero_add]
  · simp only[cK,o5,bF,cC,hk.2.1,hk.2.2,if_false,List.append_assoc,List.cons_append,List.nil_append]
theorem len_nil {s:Sl}:¬0<s.len↔s=.nil:=⟨fun h=>Sl.zX (by omega),fun h=>by subst h;simp[Go.Un.Sl.len]⟩
def dK (s:Sco)(e:Ex)(th:Sl):Sco:=cK s.l (o5 (bF s) ⟨6,0,false,fP s.l e,bO,[],[]⟩ s.st) th
def stJ (s:Sco)(e:Ex)(th:Sl):Sco:=o5 (dK s e th) ⟨7,0,false,l7,bO,[],[]⟩ s.st
def dL (s:Sco)(e:Ex)(th el:Sl):Sco:=cK s.l (cG (stJ s e th) s.code.length ((stJ s e th).code.length:Int)) el
def F2 (s:Sco)(e:Ex)(th:Sl):Sco:=o5 (dK s e th) ⟨7,((s.code.length:Nat):Int),false,l7,bO,[],[]⟩ s.st
variable {th:Sl}
theorem pX {e:Ex}:(dK s e th).code=s.code++((⟨6,0,false,fP s.l e,bO,[],[]⟩:Ins)::p4 th s.l s.loc (s.code.length+1)):=by simp only[dK,cK,o5,bF,List.append_assoc,List.cons_append,List.nil_append,List.length_append,List.length_cons,List.length_nil,Nat.zero_add]
theorem pY {e:Ex}:(dK s e th).code.length=s.code.length+1+(p4 th s.l s.loc (s.code.length+1)).length:=by rw[pX];simp;omega
theorem RQ {e:Ex}{v:Int}:(cG (stJ s e th) s.code.length v).code=s.code++((⟨6,v,false,fP s.l e,bO,[],[]⟩:Ins)::(p4 th s.l s.loc (s.code.length+1)++[⟨7,0,false,l7,bO,[],[]⟩])):=by simp only[cG,stJ,o5,pX,List.append_assoc,List.cons_append];exact C3 rfl
variable {el:Sl}
theorem vX {e:Ex}:(dL s e th el).code=s.code++((⟨6,((stJ s e th).code.length:Int),false,fP s.l e,bO,[],[]⟩:Ins)::(p4 th s.l s.loc (s.code.length+1)++(⟨7,0,false,l7,bO,[],[]⟩::p4 el s.l (fQ th s.loc) ((dK s e th).code.length+1)))):=by
  have h1:(cG (stJ s e th) s.code.length ((stJ s e th).code.length:Int)).code.length=(dK s e th).code.length+1:=by simp only[cG,lH,stJ,o5,List.length_append,List.length_cons,List.length_nil,Nat.zero_add]
  show (cG (stJ s e th) s.code.length ((stJ s e th).code.length:Int)).code++p4 el s.l (fQ th s.loc) _=_;rw[h1,RQ];simp only[List.append_assoc,List.cons_append,List.nil_append]
theorem stJ_len {e:Ex}:(stJ s e th).code.length=(dK s e th).code.length+1:=by simp[stJ,o5]
theorem DK {e:Ex}:(dL s e th el).code.length=(dK s e th).code.length+1+(p4 el s.l (fQ th s.loc) ((dK s e th).code.length+1)).length:=by rw[vX,pY];simp;omega
theorem fin_if {n:BA}{e:Ex}:cK l0 (cG (dK s e th) s.code.length ((dK s e th).code.length:Int)) rest=cK l0 s (.cons 7 n e r xs th .nil rest):=by
  have hne:¬(7:Int)=1∧¬(7:Int)=2∧¬((7:Int)=3∨(7:Int)=4)∧¬(7:Int)=5∧¬(7:Int)=6:=by decide
  have h0:¬0<Sl.nil.len:=by simp[Go.Un.Sl.len]
  refine Sco.eq rfl rfl ?_ ?_ ?_ ?_
  · simp only[cK,cG,dK,o5,bF,fQ,hne.1,if_false,if_true]
  · simp only[cK,cG,dK,o5,bF,Sl.wt];omega
  · show sO (dK s e th).code s.code.length _++p4 rest s.l (fQ th s.loc) (sO (dK s e th).code s.code.length _).length=s.code++p4 _ s.l s.loc s.code.length
    rw[lH,pY,pX,C3 rfl];simp only[p4,fQ,hne.1,hne.2.1,hne.2.2.1,hne.2.2.2.1,hne.2.2.2.2,h0,if_false,if_true,List.append_assoc,List.cons_append]
  · show s.sites++[s.st]++cC th (s.st+1)++cC rest (s.st+1+(th.wt:Int))=s.sites++cC _ s.st
    simp only[cC,Sl.wt,h0,if_true,if_false,List.append_assoc,List.cons_append,List.nil_append,Int.natCast_zero,Int.add_zero]
theorem RR {n:BA}{e:Ex}(hel:0<el.len):cK l0 (cG (dL s e th el) (dK s e th).code.length ((dL s e th el).code.length:Int)) rest=cK l0 s (.cons 7 n e r xs th el rest):=by
  have hne:¬(7:Int)=1∧¬(7:Int)=2∧¬((7:Int)=3∨(7:Int)=4)∧¬(7:Int)=5∧¬(7:Int)=6:=by decide
  refine Sco.eq rfl rfl ?_ ?_ ?_ ?_
  · simp only[cK,cG,dL,stJ,dK,o5,bF,fQ,hne.1,if_false,if_true]
  · simp only[cK,cG,dL,stJ,dK,o5,bF,Sl.wt];omega
  · show sO (dL s e th el).code (dK s e th).code.length _++p4 rest s.l (fQ el (fQ th s.loc)) (sO (dL s e th el).code (dK s e th).code.length _).length=s.code++p4 _ s.l s.loc s.code.length
    rw[lH,DK,vX];rw[show s.code++((⟨6,((stJ s e th).code.length:Int),false,fP s.l e,bO,[],[]⟩:Ins)::(p4 th s.l s.loc (s.code.length+1)++(⟨7,0,false,l7,bO,[],[]⟩::p4 el s.l (fQ th s.loc) ((dK s e th).code.length+1))))=(s.code++((⟨6,((stJ s e th).code.length:Int),false,fP s.l e,bO,[],[]⟩:Ins)::p4 th s.l s.loc (s.code.length+1)))++(⟨7,0,false,l7,bO,[],[]⟩::p4 el s.l (fQ th s.loc) ((dK s e th).code.length+1)) from by simp only[List.append_assoc,List.cons_append]];rw[C3 (by rw[pY];simp;omega),stJ_len,pY];simp only[p4,hne.1,hne.2.1,hne.2.2.1,hne.2.2.2.1,hne.2.2.2.2,hel,if_false,if_true,List.append_assoc,List.cons_append]
  · show s.sites++[s.st]++cC th (s.st+1)++[s.st]++cC el (s.st+1+(th.wt:Int))++cC rest (s.st+1+(th.wt:Int)+(el.wt:Int))=s.sites++cC _ s.st
    simp only[cC,hel,if_true,List.append_assoc,List.cons_append,List.nil_append]
theorem fin_wh {n:BA}{e:Ex}:cK l0 (cG (F2 s e th) s.code.length ((F2 s e th).code.length:Int)) rest=cK l0 s (.cons 8 n e r xs th .nil rest):=by
  have hne:¬(8:Int)=1∧¬(8:Int)=2∧¬((8:Int)=3∨(8:Int)=4)∧¬(8:Int)=5∧¬(8:Int)=6∧¬(8:Int)=7:=by decide
  rw[show (F2 s e th).code.length=(dK s e th).code.length+1 from by simp[F2,o5]];refine Sco.eq rfl rfl ?_ ?_ ?_ ?_
  · simp only[cK,cG,F2,dK,o5,bF,fQ,hne.1,hne.2.2.2.2.2,if_false,if_true]
  · simp only[cK,cG,F2,dK,o5,bF,Sl.wt];omega
  · show sO ((dK s e th).code++[⟨7,((s.code.length:Nat):Int),false,l7,bO,[],[]⟩]) s.code.length _++p4 rest s.l (fQ th s.loc) (sO ((dK s e th).code++[⟨7,((s.code.length:Nat):Int),false,l7,bO,[],[]⟩]) s.code.length _).length=s.code++p4 _ s.l s.loc s.code.length
    rw[lH,List.length_append,pY,pX,List.append_assoc,List.cons_append,C3 rfl];simp only[p4,hne.1,hne.2.1,hne.2.2.1,hne.2.2.2.1,hne.2.2.2.2.1,hne.2.2.2.2.2,if_false,if_true,List.append_assoc,List.cons_append,List.nil_append,List.length_cons,List.length_nil,Nat.zero_add]
  · show s.sites++[s.st]++cC th (s.st+1)++[s.st]++cC rest (s.st+1+(th.wt:Int))=s.sites++cC _ s.st
    simp only[cC,hne.2.2.2.2.2,if_true,if_false,List.append_assoc,List.cons_append,List.nil_append]
theorem agg_nil {h:c6}{φ:Map}{w:World}{xs xs':List AV}(hn:oQ xs' xs){v:Value}(r:Rel h φ w v (.agg xs)):Rel h φ w v (.agg xs'):=by
  cases r with
  | pure hp=>cases hp
  | agg a _ ha h1 hr=>
    obtain ⟨k1,k2⟩:=hn.get;refine .agg a xs' (by rw[ha,k1]) h1 fun j v y e1 e2=>?_;have hj:j<xs.length:=by rw[←k1];exact (List.getElem?_eq_some_iff.1 e2).1
    have hx:xs[j]?=some xs[j]:=List.getElem?_eq_getElem hj;rcases k2 j y _ e2 hx with rfl | ⟨e3,rfl⟩
    · exact hr j v _ e1 hx
    · exact O5 (e3▸hr j v _ e1 hx)
def Oo:List AV→List AV→Prop
  | [],[]=>True
  | x::xs,y::ys=>(x=y∨∃a b,x=.agg a∧y=.agg b∧oQ a b)∧Oo xs ys
  | _,_=>False
theorem Oo.get:∀{xs ys:List AV},Oo xs ys→xs.length=ys.length∧∀(t:Nat) (x y:AV),xs[t]?=some x→ys[t]?=some y→x=y∨∃a b,x=.agg a∧y=.agg b∧oQ a b
  | [],[],_=>⟨rfl,fun t x y h=>by simp at h⟩
  | x::xs,y::ys,h=>by
    obtain ⟨h1,h2⟩:=h;obtain ⟨k1,k2⟩:=Oo.get h2;refine ⟨by simp[k1],fun t u v hu hv=>?_⟩
    match t with
    | 0=>simp at hu hv;subst hu;subst hv;exact h1
    | t+1=>exact k2 t u v t134 t139
  | [],_::_,h=>h.elim
  | _::_,[],h=>h.elim
theorem aggArg {f:FuncId}{h:c6}{args args':List AV}{Q:AV→c6→Prop}(ha:Oo args' args)(r:CallA Tryz.prog cfg f args' h Q):CallA Tryz.prog cfg f args h Q:=by
  intro B φ w cargs i hs hr;obtain ⟨k1,k2⟩:=ha.get;refine r B φ w cargs i (by rw[k1];exact hs) fun j v y h1 h2=>?_;have hj:j<args.length:=by rw[←k1];exact (List.getElem?_eq_some_iff.1 h2).1
  have hx:args[j]?=some args[j]:=List.getElem?_eq_getElem hj;rcases k2 j y _ h2 hx with rfl | ⟨a,b,rfl,e2,hn⟩
  · exact hr j v _ h1 hx
  · exact agg_nil hn (e2▸hr j v _ h1 hx)
theorem mP {e:Frm}(hc:s.code.length<10000)(hs:s.sites.length<10000)(i:Ins)(t:Int){zs:List AV}(hz:oQ (eH i) zs):CH 134 [.ptr e.k 0 0,.agg zs,.int .i64 t] (hT e (z8 e.k s) s.code s.sites) (.int .i64 ((s.code.length:Nat):Int)) (hT e (z8 e.k (o5 s i t)) (o5 s i t).code (o5 s i t).sites):=
  aggArg (args':=[.ptr e.k 0 0,.agg (eH i),.int .i64 t]) ⟨.inl rfl,.inr ⟨_,_,rfl,rfl,hz⟩,.inl rfl,trivial⟩ (c_put hc hs i t)
theorem JC:∀{c:List Ins} {i:Nat} {v:Int},i<c.length→List.take (i*12+1) (p9 c)++AV.int .i64 v::List.drop (i*12+1+1) (p9 c)=p9 (sO c i v)
  | x::c,0,v,_=>by
    have e1:p9 (x::c)=eH x++p9 c:=by simp[p9]
    have e2:sO (x::c) 0 v={ x with target:=v }::c:=by simp[sO]
    have e3:p9 ({ x with target:=v }::c)=eH { x with target:=v }++p9 c:=by simp[p9]
    rw[e1,e2,e3];rfl
  | x::c,i+1,v,h=>by
    have ih:=JC (c:=c) (i:=i) (v:=v) (by simpa using h);have e1:p9 (x::c)=eH x++p9 c:=by simp[p9]
    have e2:sO (x::c) (i+1) v=x::sO c i v:=by simp[sO]
    have e3:p9 (x::sO c i v)=eH x++p9 (sO c i v):=by simp[p9]
    have hl:(eH x).length=12:=aN x;rw[e1,e2,e3,←ih,show (i+1)*12+1=(eH x).length+(i*12+1) from by omega,List.take_length_add_append,show (eH x).length+(i*12+1)+1=(eH x).length+(i*12+1+1) from by omega,List.drop_length_add_append,List.append_assoc]
theorem L2 {c:List Ins}(h:0<c.length):p9 c≠[]:=by intro h0;have:=congrArg List.length h0;rw[s6]at this;simp at this;omega
section
variable {e:Frm}{b:Blk}{c:List Ins}{ss:List Int}{l:c6}{v:Int}{i n:Nat}
theorem hT_1na (h:0<c.length):(hT e b c ss++l)[e.k+1]?=some ⟨c.length,false,54,12,p9 c,0⟩:=by rw[RK,bS (L2 h)]
theorem hT_pn (h:c.length=n)(h0:0<n):(hT e b c ss++l).set (e.k+1) ⟨n,false,54,12,p9 (sO c i v),0⟩=hT e b (sO c i v) ss++l:=by
  subst h;have hl:(sO c i v).length=c.length:=lH;have:o8 54 12 (sO c i v).length (p9 (sO c i v))=⟨c.length,false,54,12,p9 (sO c i v),0⟩:=by rw[bS (L2 (by omega)),hl]
  rw[←this,WT]
theorem app_cpE {b0 b1 b2:Blk}{es:List Ent}{n:Nat}(hz:es.length=n)(h0:0<n)(hn:n<1000):j0 cfg 145 (hT e b c ss++(b0::b1::b2::⟨1,false,145,3,[],0⟩::l)) (.own (e.n+3) 1 0 0) (.vec n (l3 es))=some (.own (e.n+3) 2 0 n,hT e b c ss++(b0::b1::b2::⟨2,false,145,3,l3 es,0⟩::l)):=by
  subst hz;have e1:cfg.sz 145=3:=rfl;have e2:(cfg.ti 145).bytes=32:=rfl;have hm:es.length≤maxLen:=by
    have:(1000:Nat)≤maxLen:=by decide
    omega
  have hb:es.length*32≤140737488355328:=by omega
  have h1:(l3 es).length=es.length*3:=by rw[r9];omega
  have h2:¬es.length=0:=by omega
  have h3:¬es.length*3=0:=by omega
  simp[j0,rd,lenOf,e1,e2,h1,hm,hb,dV,hC,h0,h2,h3]
theorem app_onE {b0 b1 b2:Blk}{es:List Ent}{x:BA}{k m:Int}{n:Nat}(hz:es.length=n)(hn:n<1000):j0 cfg 145 (hT e b c ss++(b0::b1::b2::⟨2,false,145,3,l3 es,0⟩::⟨1,false,145,3,[.str x,.int .i64 k,.int .i64 m],0⟩::l)) (.own (e.n+3) 2 0 n) (.own (e.n+4) 1 0 1)=some (.own (e.n+3) 3 0 (n+1),hT e b c ss++(b0::b1::b2::⟨3,false,145,3,l3 (es++[⟨x,k,m⟩]),0⟩::⟨1,false,145,3,[.str x,.int .i64 k,.int .i64 m],0⟩::l)):=by
  subst hz;have e1:cfg.sz 145=3:=rfl;have e2:(cfg.ti 145).bytes=32:=rfl;have hm:es.length+1≤maxLen:=by
    have:(1001:Nat)≤maxLen:=by decide
    omega
  have hb:(es.length+1)*32≤140737488355328:=by omega
  have h1:(l3 es).length=es.length*3:=by rw[r9];omega
  have ht:List.take (es.length*3) (l3 es)=l3 es:=List.take_of_length_le (by omega);have hnl:¬(es.length+1)*3≤es.length*3:=by omega
  have hs:l3 (es++[⟨x,k,m⟩])=l3 es++[.str x,.int .i64 k,.int .i64 m]:=by simp[l3,iM]
  simp[j0,rd,lenOf,e1,e2,h1,hm,hb,ht,hnl,dV,hC,hs]
end
theorem rK (l:List Ent):v5 (l3 l):=v5.flat fun _=>v5.cons .str (v5.cons .int (v5.cons .int .nil))
theorem stIf_l {e:Ex}:(dK s e th).l=s.l:=rfl
attribute [local go_sem] rd r9 o3 bA cI s6 aN fO dF o4 aW aK l9 bC Int.natCast_nonneg Int.natCast_inj List.length_map wrap64 fW iY iZ Y8 J7 P4 Y9 tN max2 eU cN bD Nat.reduceMul nC kB iM pW lF vT aF hT_0 hT_2 RJ RL dV C0 hC Q5 RM AA hT_1na hT_pn JC app_cpE app_onE C4 vU vV C5 C6 rI B5 JB AG stSt_p gQ eN R2 vW AH stPut_p bU bJ stTgt_l kC oG finS_l finS_p stIf_l
variable {E:Env}{vs:List BA}{pre:Sl}{W:Nat}
theorem c_blk1 {e:Frm}{c:Ctx}(sc:SC E c vs s.l)(bd:Bd E c s.p)(B:Bnd s W)(hW:1≤W)(j:Nat)(hj:j<24)(hn:vnm j∉vs)(a:Ex)(he:GE vs 2 a):g5 Tryz.prog cfg (rB [1,0,1,0,0,1,0] (jJ Tryz.f133)) ⟨mkS 253 [(0,AV.ptr e.k 0 0),(1,AV.vec (Go.Un.Sl.len (pre.app (.cons 1 (vnm j) a n6 [] .nil .nil rest))) (p6 (pre.app (.cons 1 (vnm j) a n6 [] .nil .nil rest)))),(4,AV.vec l0.length (l3 l0)),(5,AV.int .i64 ((pre.len:Nat):Int))],(hT e (z8 e.k s) s.code s.sites)⟩ (Led 253 [(0,AV.ptr e.k 0 0),(1,AV.vec (Go.Un.Sl.len (pre.app (.cons 1 (vnm j) a n6 [] .nil .nil rest))) (p6 (pre.app (.cons 1 (vnm j) a n6 [] .nil .nil rest)))),(4,AV.vec l0.length (l3 l0)),(5,AV.int .i64 ((pre.len:Nat):Int))] ((hT e (z8 e.k (rH (o5 (bF s) ⟨1,s.loc,false,fP s.l a,bO,[],[]⟩ s.st) (vnm j))) ((rH (o5 (bF s) ⟨1,s.loc,false,fP s.l a,bO,[],[]⟩ s.st) (vnm j))).code ((rH (o5 (bF s) ⟨1,s.loc,false,fP s.l a,bO,[],[]⟩ s.st) (vnm j))).sites))):=by obtain ⟨q1,q2,q3,q4,q5,q6,q7,q8⟩:=B;have hlc:=@w8 pre 1 (vnm j) a n6 [] .nil .nil rest;refine c162z ?_;refine g5.aA (hT e (z8 e.k (bF s)) s.code s.sites++[⟨0,false,190,11,[.int .i64 1,.str (vnm j),.int .i64 a.op,.int .i64 a.num,.str a.name,.vec a.args.length (n5 a.args),.str n6.name,.vec n6.idx.length (n5 n6.idx),.vec (([]:List Ar)).length (bB ([]:List Ar)),.vec (Go.Un.Sl.len Go.Un.Sl.nil) (p6 Go.Un.Sl.nil),.vec (Go.Un.Sl.len Go.Un.Sl.nil) (p6 Go.Un.Sl.nil)],0⟩]) rfl ?_;refine c15z ?_;refine .c7 [0,1,4,5,6,7,41] ?_;refine c98z ?_;refine .seq ?_;refine c25z ?_;refine c120z ?_;refine .cl rfl rfl (fun _=>IX (sc.fr j hj hn) (by omega)) ?_;refine c255z ?_;refine .c7 [0,1,4,5,6,7,9] ?_;refine c9z ?_;refine .sk ?_;refine c26z ?_;refine .ch rfl rfl (fZ (RO (s:=bF s) t124 s.st sc.var he _)) ?_;refine .n ?_;refine .sg u4 (mkH 9 [0,0,2,6,14,0,62,0,255] [8] [] [0,256] []) 0 ?_;refine w4.aA t26 ?_;refine c172z ?_;refine .rn [true] ?_;refine .p 2 ?_;refine .cn [true] [256,0] [_] rfl rfl (by simp only[jY,and_true,List.cons_append,List.nil_append];exact fZ (mP t47 t44 ⟨1,s.loc,false,fP s.l a,bO,[],[]⟩ s.st t25)) ?_;refine w4.nil rfl ?_;refine .c7 [0,1,4,5,6] ?_;refine .sg u4 (mkH 19 [0,0,0,4,12,28,62,0,128,0,512,1536,3584,8064,16256,32766,65535,131071,262143] [1,6,14,15,18] [(1,0),(14,1)] [0,2,66,16384,16386,16450,49218,311362] [0,1,2,3,4,5,6]) 2 ?_;refine .p 1 ?_;refine .em [true] [2,0] [_] ?_;refine .p 3 ?_;refine .rm [true,true] ?_;refine .em [true,false] [66,2,0] [_] ?_;refine c99z ?_;refine .p 3 ?_;refine .rn [true,true,true] ?_;refine .p 1 ?_;refine .en [true,true,true] [16450,16386,16384,66,2,0] [_,_,_] ?_;refine .en [true,false,false,false,false,false] [49218,16450,16386,16384,66,2,0] [_] ?_;refine .p 2 ?_;refine .en [true,false,false,false,false,false,false] [311362,49218,16450,16386,16384,66,2,0] [_] ?_;refine .po [false,false,false,true,false,false,true,false] ?_;refine .po [false,false,false,true,true,false,true,true] ?_;refine .po [false,false,false,false,true,false,false,true] ?_;refine w4.nil rfl ?_;refine .c7 [0,1,4,5] ?_;refine g5.zR (γ:=e.n+3) (β:=e.k) (k:=3) (off:=0) (len:=s.l.length+1) (cs:=l3 (s.l++[⟨vnm j,4,s.loc⟩])) t93 rfl t174 (by rw[List.drop_zero,List.take_of_length_le t174];exact (rK _).OV) (by simp only[RJ];rfl) (by have:=e.lt;omega) rfl ?_;simp only[hC,AA,List.set_cons_succ,List.set_cons_zero];refine .rz ?_;exact .mk _ (by rw[RP];rfl)
theorem c_blk2 {e:Frm}{c:Ctx}(sc:SC E c vs s.l)(bd:Bd E c s.p)(B:Bnd s W)(hW:1≤W)(n:BA)(hn:n∈vs)(a:Ex)(he:GE vs 2 a):g5 Tryz.prog cfg (rB [1,0,1,0,0,1,0] (jJ Tryz.f133)) ⟨mkS 253 [(0,AV.ptr e.k 0 0),(1,AV.vec (Go.Un.Sl.len (pre.app (.cons 2 n a n6 [] .nil .nil rest))) (p6 (pre.app (.cons 2 n a n6 [] .nil .nil rest)))),(4,AV.vec l0.length (l3 l0)),(5,AV.int .i64 ((pre.len:Nat):Int))],(hT e (z8 e.k s) s.code s.sites)⟩ (Led 253 [(0,AV.ptr e.k 0 0),(1,AV.vec (Go.Un.Sl.len (pre.app (.cons 2 n a n6 [] .nil .nil rest))) (p6 (pre.app (.cons 2 n a n6 [] .nil .nil rest)))),(4,AV.vec l0.length (l3 l0)),(5,AV.int .i64 ((pre.len:Nat):Int))] ((hT e (z8 e.k (o5 (bF s) ⟨1,(eQ s.l n).n,(eQ s.l n).kind==1,fP s.l a,bO,[],[]⟩ s.st)) ((o5 (bF s) ⟨1,(eQ s.l n).n,(eQ s.l n).kind==1,fP s.l a,bO,[],[]⟩ s.st)).code ((o5 (bF s) ⟨1,(eQ s.l n).n,(eQ s.l n).kind==1,fP s.l a,bO,[],[]⟩ s.st)).sites))):=by obtain ⟨q1,q2,q3,q4,q5,q6,q7,q8⟩:=B;have hlc:=@w8 pre 2 n a n6 [] .nil .nil rest;obtain ⟨v,hv1,hv2⟩:=sc.var n hn;refine c162z ?_;refine g5.aA (hT e (z8 e.k (bF s)) s.code s.sites++[⟨0,false,190,11,[.int .i64 2,.str n,.int .i64 a.op,.int .i64 a.num,.str a.name,.vec a.args.length (n5 a.args),.str n6.name,.vec n6.idx.length (n5 n6.idx),.vec (([]:List Ar)).length (bB ([]:List Ar)),.vec (Go.Un.Sl.len Go.Un.Sl.nil) (p6 Go.Un.Sl.nil),.vec (Go.Un.Sl.len Go.Un.Sl.nil) (p6 Go.Un.Sl.nil)],0⟩]) rfl ?_;refine c173z ?_;refine c98z ?_;refine c26z ?_;refine .ch rfl rfl (fZ (c_var (s:=bF s) t124 s.st hv1 hv2)) ?_;refine .n ?_;refine .c7 [0,1,4,5,6,7,11] ?_;refine .og u4 (mkH 14 [0,0,2,0,8,24,0,0,128,0,960,2046,0,8191] [10,13] [] [0,1024,9216] [0,1,2,3,4,5]) 0 ?_;refine w4.aA t26 ?_;refine .p 2 ?_;refine c120z ?_;refine c102z ?_;refine .p 1 ?_;refine .cn [true] [1024,0] [_] rfl rfl (by simp only[jY,and_true,List.cons_append,List.nil_append];exact fZ (RO (s:=bF s) t124 s.st sc.var he _)) ?_;refine .p 2 ?_;refine .cn [true,false] [9216,1024,0] [_] rfl rfl (by simp only[jY,and_true,List.cons_append,List.nil_append];exact fZ (mP t47 t44 ⟨1,v.n,v.kind==1,fP s.l a,bO,[],[]⟩ s.st t25)) ?_;refine c158z ?_;exact .mk _ (by rw[eA hv1])
theorem c_blk3 {e:Frm}{c:Ctx}(sc:SC E c vs s.l)(bd:Bd E c s.p)(B:Bnd s W)(hW:1≤W)(f:BA×List Pm)(hf:f∈E.funcs)(xs:List Ar)(ha:GAs E vs f.2 xs):g5 Tryz.prog cfg (rB [1,0,1,0,0,1,0] (jJ Tryz.f133)) ⟨mkS 253 [(0,AV.ptr e.k 0 0),(1,AV.vec (Go.Un.Sl.len (pre.app (.cons 3 f.1 l7 n6 xs .nil .nil rest))) (p6 (pre.app (.cons 3 f.1 l7 n6 xs .nil .nil rest)))),(4,AV.vec l0.length (l3 l0)),(5,AV.int .i64 ((pre.len:Nat):Int))],(hT e (z8 e.k s) s.code s.sites)⟩ (Led 253 [(0,AV.ptr e.k 0 0),(1,AV.vec (Go.Un.Sl.len (pre.app (.cons 3 f.1 l7 n6 xs .nil .nil rest))) (p6 (pre.app (.cons 3 f.1 l7 n6 xs .nil .nil rest)))),(4,AV.vec l0.length (l3 l0)),(5,AV.int .i64 ((pre.len:Nat):Int))] ((hT e (z8 e.k (o5 (bF s) ⟨2,(eQ s.l f.1).n,false,l7,bO,aO s.l xs,z6 s.l xs⟩ s.st)) ((o5 (bF s) ⟨2,(eQ s.l f.1).n,false,l7,bO,aO s.l xs,z6 s.l xs⟩ s.st)).code ((o5 (bF s) ⟨2,(eQ s.l f.1).n,false,l7,bO,aO s.l xs,z6 s.l xs⟩ s.st)).sites))):=by
  obtain ⟨q1,q2,q3,q4,q5,q6,q7,q8⟩:=B;have hlc:=@w8 pre 3 f.1 l7 n6 xs .nil .nil rest;obtain ⟨⟨fy,fk,fn⟩,hf1,hfk,hf5,hf6,hf7⟩:=sc.fn f hf;simp only at hfk hf5 hf6 hf7;subst hfk;have hf2:0≤fn∧fn<s.p.funcs.length:=by rw[bd.hf,List.length_map]at hf6;exact ⟨hf5,hf6⟩
  have hf3:(s.p.funcs.getD fn.toNat j8).params=f.2:=by rw[bd.hf,getD_map (d':=j8) (by omega)]at hf7;rw[←hf7]
  have hf4:=bd.fp f hf;refine c162z ?_;refine g5.aA (hT e (z8 e.k (bF s)) s.code s.sites++[⟨0,false,190,11,[.int .i64 3,.str f.1,.int .i64 l7.op,.int .i64 l7.num,.str l7.name,.vec l7.args.length (n5 l7.args),.str n6.name,.vec n6.idx.length (n5 n6.idx),.vec (xs).length (bB xs),.vec (Go.Un.Sl.len Go.Un.Sl.nil) (p6 Go.Un.Sl.nil),.vec (Go.Un.Sl.len Go.Un.Sl.nil) (p6 Go.Un.Sl.nil)],0⟩]) rfl ?_;refine c199z ?_;refine .T ?_;refine .sk ?_;refine .T ?_;refine c153z ?_;refine .ch rfl rfl (fZ (c_call3 (s:=bF s) t124 s.st sc bd.hE bd.hc hf1 hf2 hf3 hf4 ha)) ?_;refine .e 1 ?_;refine .ch rfl rfl (fZ (mP t47 t44 ⟨2,fn,false,l7,bO,aO s.l xs,z6 s.l xs⟩ s.st t25)) ?_;refine .nil ?_;exact .mk _ (by rw[eA hf1])
theorem c_blk4 {e:Frm}{c:Ctx}(sc:SC E c vs s.l)(bd:Bd E c s.p)(B:Bnd s W)(hW:1≤W)(f:BA×List Pm)(hf:f∈E.funcs)(xs:List Ar)(ha:GAs E vs f.2 xs):g5 Tryz.prog cfg (rB [1,0,1,0,0,1,0] (jJ Tryz.f133)) ⟨mkS 253 [(0,AV.ptr e.k 0 0),(1,AV.vec (Go.Un.Sl.len (pre.app (.cons 4 f.1 l7 n6 xs .nil .nil rest))) (p6 (pre.app (.cons 4 f.1 l7 n6 xs .nil .nil rest)))),(4,AV.vec l0.length (l3 l0)),(5,AV.int .i64 ((pre.len:Nat):Int))],(hT e (z8 e.k s) s.code s.sites)⟩ (Led 253 [(0,AV.ptr e.k 0 0),(1,AV.vec (Go.Un.Sl.len (pre.app (.cons 4 f.1 l7 n6 xs .nil .nil rest))) (p6 (pre.app (.cons 4 f.1 l7 n6 xs .nil .nil rest)))),(4,AV.vec l0.length (l3 l0)),(5,AV.int .i64 ((pre.len:Nat):Int))] ((hT e (z8 e.k (o5 (bF s) ⟨3,(eQ s.l f.1).n,false,l7,bO,aO s.l xs,z6 s.l xs⟩ s.st)) ((o5 (bF s) ⟨3,(eQ s.l f.1).n,false,l7,bO,aO s.l xs,z6 s.l xs⟩ s.st)).code ((o5 (bF s) ⟨3,(eQ s.l f.1).n,false,l7,bO,aO s.l xs,z6 s.l xs⟩ s.st)).sites))):=by
  obtain ⟨q1,q2,q3,q4,q5,q6,q7,q8⟩:=B;have hlc:=@w8 pre 4 f.1 l7 n6 xs .nil .nil rest;obtain ⟨⟨fy,fk,fn⟩,hf1,hfk,hf5,hf6,hf7⟩:=sc.fn f hf;simp only at hfk hf5 hf6 hf7;subst hfk;have hf2:0≤fn∧fn<s.p.funcs.length:=by rw[bd.hf,List.length_map]at hf6;exact ⟨hf5,hf6⟩
  have hf3:(s.p.funcs.getD fn.toNat j8).params=f.2:=by rw[bd.hf,getD_map (d':=j8) (by omega)]at hf7;rw[←hf7]
  have hf4:=bd.fp f hf;refine c162z ?_;refine g5.aA (hT e (z8 e.k (bF s)) s.code s.sites++[⟨0,false,190,11,[.int .i64 4,.str f.1,.int .i64 l7.op,.int .i64 l7.num,.str l7.name,.vec l7.args.length (n5 l7.args),.str n6.name,.vec n6.idx.length (n5 n6.idx),.vec (xs).length (bB xs),.vec (Go.Un.Sl.len Go.Un.Sl.nil) (p6 Go.Un.Sl.nil),.vec (Go.Un.Sl.len Go.Un.Sl.nil) (p6 Go.Un.Sl.nil)],0⟩]) rfl ?_;refine c233z ?_;refine .T ?_;refine .c7 [0,1,4,5,6,7] ?_;refine c153z ?_;refine .ch rfl rfl (fZ (c_call4 (s:=bF s) t124 s.st sc bd.hE bd.hc hf1 hf2 hf3 hf4 ha)) ?_;refine .e 1 ?_;refine .ch rfl rfl (fZ (mP t47 t44 ⟨3,fn,false,l7,bO,aO s.l xs,z6 s.l xs⟩ s.st t25)) ?_;refine .nil ?_;exact .mk _ (by rw[eA hf1])
theorem c_blk5 {e:Frm}{c:Ctx}(sc:SC E c vs s.l)(bd:Bd E c s.p)(B:Bnd s W)(hW:1≤W)(r:Rf)(hR:GR E vs r):g5 Tryz.prog cfg (rB [1,0,1,0,0,1,0] (jJ Tryz.f133)) ⟨mkS 253 [(0,AV.ptr e.k 0 0),(1,AV.vec (Go.Un.Sl.len (pre.app (.cons 5 ByteArray.empty l7 r [] .nil .nil rest))) (p6 (pre.app (.cons 5 ByteArray.empty l7 r [] .nil .nil rest)))),(4,AV.vec l0.length (l3 l0)),(5,AV.int .i64 ((pre.len:Nat):Int))],(hT e (z8 e.k s) s.code s.sites)⟩ (Led 253 [(0,AV.ptr e.k 0 0),(1,AV.vec (Go.Un.Sl.len (pre.app (.cons 5 ByteArray.empty l7 r [] .nil .nil rest))) (p6 (pre.app (.cons 5 ByteArray.empty l7 r [] .nil .nil rest)))),(4,AV.vec l0.length (l3 l0)),(5,AV.int .i64 ((pre.len:Nat):Int))] ((hT e (z8 e.k (o5 (bF s) ⟨4,0,false,l7,rD s.l r,[],[]⟩ s.st)) ((o5 (bF s) ⟨4,0,false,l7,rD s.l r,[],[]⟩ s.st)).code ((o5 (bF s) ⟨4,0,false,l7,rD s.l r,[],[]⟩ s.st)).sites))):=by obtain ⟨q1,q2,q3,q4,q5,q6,q7,q8⟩:=B;have hlc:=@w8 pre 5 ByteArray.empty l7 r [] .nil .nil rest;refine c162z ?_;refine g5.aA (hT e (z8 e.k (bF s)) s.code s.sites++[⟨0,false,190,11,[.int .i64 5,.str ByteArray.empty,.int .i64 l7.op,.int .i64 l7.num,.str l7.name,.vec l7.args.length (n5 l7.args),.str r.name,.vec r.idx.length (n5 r.idx),.vec (([]:List Ar)).length (bB ([]:List Ar)),.vec (Go.Un.Sl.len Go.Un.Sl.nil) (p6 Go.Un.Sl.nil),.vec (Go.Un.Sl.len Go.Un.Sl.nil) (p6 Go.Un.Sl.nil)],0⟩]) rfl ?_;refine c268z ?_;refine c98z ?_;refine .c7 [0,1,4,5,6,7] ?_;refine .r ?_;refine .e 5 ?_;refine .ch rfl rfl (fZ (JA (s:=bF s) t124 s.st sc bd.hE bd.hc hR)) ?_;refine .e 2 ?_;refine .ch rfl rfl (fZ (mP t47 t44 ⟨4,0,false,l7,rD s.l r,[],[]⟩ s.st t25)) ?_;refine .nil ?_;exact .mk _ rfl
theorem c_blk6 {e:Frm}{c:Ctx}(sc:SC E c vs s.l)(bd:Bd E c s.p)(B:Bnd s W)(hW:1≤W)(r:Rf)(hR:GR E vs r):g5 Tryz.prog cfg (rB [1,0,1,0,0,1,0] (jJ Tryz.f133)) ⟨mkS 253 [(0,AV.ptr e.k 0 0),(1,AV.vec (Go.Un.Sl.len (pre.app (.cons 6 ByteArray.empty l7 r [] .nil .nil rest))) (p6 (pre.app (.cons 6 ByteArray.empty l7 r [] .nil .nil rest)))),(4,AV.vec l0.length (l3 l0)),(5,AV.int .i64 ((pre.len:Nat):Int))],(hT e (z8 e.k s) s.code s.sites)⟩ (Led 253 [(0,AV.ptr e.k 0 0),(1,AV.vec (Go.Un.Sl.len (pre.app (.cons 6 ByteArray.empty l7 r [] .nil .nil rest))) (p6 (pre.app (.cons 6 ByteArray.empty l7 r [] .nil .nil rest)))),(4,AV.vec l0.length (l3 l0)),(5,AV.int .i64 ((pre.len:Nat):Int))] ((hT e (z8 e.k (o5 (bF s) ⟨5,0,false,l7,rD s.l r,[],[]⟩ s.st)) ((o5 (bF s) ⟨5,0,false,l7,rD s.l r,[],[]⟩ s.st)).code ((o5 (bF s) ⟨5,0,false,l7,rD s.l r,[],[]⟩ s.st)).sites))):=by obtain ⟨q1,q2,q3,q4,q5,q6,q7,q8⟩:=B;have hlc:=@w8 pre 6 ByteArray.empty l7 r [] .nil .nil rest;refine c162z ?_;refine g5.aA (hT e (z8 e.k (bF s)) s.code s.sites++[⟨0,false,190,11,[.int .i64 6,.str ByteArray.empty,.int .i64 l7.op,.int .i64 l7.num,.str l7.name,.vec l7.args.length (n5 l7.args),.str r.name,.vec r.idx.length (n5 r.idx),.vec (([]:List Ar)).length (bB ([]:List Ar)),.vec (Go.Un.Sl.len Go.Un.Sl.nil) (p6 Go.Un.Sl.nil),.vec (Go.Un.Sl.len Go.Un.Sl.nil) (p6 Go.Un.Sl.nil)],0⟩]) rfl ?_;refine c268z ?_;refine c9z ?_;refine .c7 [0,1,4,5,6,7,41] ?_;refine c98z ?_;refine .r ?_;refine .e 5 ?_;refine .ch rfl rfl (fZ (JA (s:=bF s) t124 s.st sc bd.hE bd.hc hR)) ?_;refine .e 2 ?_;refine .ch rfl rfl (fZ (mP t47 t44 ⟨5,0,false,l7,rD s.l r,[],[]⟩ s.st t25)) ?_;refine .nil ?_;exact .mk _ rfl
theorem c_blk7 {e:Frm}{c:Ctx}(sc:SC E c vs s.l)(bd:Bd E c s.p)(B:Bnd s W)(a:Ex)(he:GE vs 2 a)(th:Sl)(hW:1+th.wt≤W)(ith:(∀s':Sco,SC E c vs s'.l→s'.p=s.p→Bnd s' th.wt→∀e:Frm,CH 133 [.ptr e.k 0 0,.vec th.len (p6 th)] (hT e (z8 e.k s') (s').code (s').sites) (.tup []) (hT e (z8 e.k (cK s'.l s' th)) ((cK s'.l s' th)).code ((cK s'.l s' th)).sites))):g5 Tryz.prog cfg (rB [1,0,1,0,0,1,0] (jJ Tryz.f133)) ⟨mkS 253 [(0,AV.ptr e.k 0 0),(1,AV.vec (Go.Un.Sl.len (pre.app (.cons 7 ByteArray.empty a n6 [] th .nil rest))) (p6 (pre.app (.cons 7 ByteArray.empty a n6 [] th .nil rest)))),(4,AV.vec l0.length (l3 l0)),(5,AV.int .i64 ((pre.len:Nat):Int))],(hT e (z8 e.k s) s.code s.sites)⟩ (Led 253 [(0,AV.ptr e.k 0 0),(1,AV.vec (Go.Un.Sl.len (pre.app (.cons 7 ByteArray.empty a n6 [] th .nil rest))) (p6 (pre.app (.cons 7 ByteArray.empty a n6 [] th .nil rest)))),(4,AV.vec l0.length (l3 l0)),(5,AV.int .i64 ((pre.len:Nat):Int))] ((hT e (z8 e.k (cG (dK s a th) s.code.length ((dK s a th).code.length:Int))) ((cG (dK s a th) s.code.length ((dK s a th).code.length:Int))).code ((cG (dK s a th) s.code.length ((dK s a th).code.length:Int))).sites))):=by obtain ⟨q1,q2,q3,q4,q5,q6,q7,q8⟩:=B;have hlc:=@w8 pre 7 ByteArray.empty a n6 [] th .nil rest;refine c162z ?_;refine g5.aA (hT e (z8 e.k (bF s)) s.code s.sites++[⟨0,false,190,11,[.int .i64 7,.str ByteArray.empty,.int .i64 a.op,.int .i64 a.num,.str a.name,.vec a.args.length (n5 a.args),.str n6.name,.vec n6.idx.length (n5 n6.idx),.vec (([]:List Ar)).length (bB ([]:List Ar)),.vec (Go.Un.Sl.len th) (p6 th),.vec (Go.Un.Sl.len Go.Un.Sl.nil) (p6 Go.Un.Sl.nil)],0⟩]) rfl ?_;refine c268z ?_;refine c9z ?_;refine c38z ?_;refine c98z ?_;refine c24z ?_;refine c159z ?_;refine .n ?_;refine .c7 [0,1,4,5,6,7,12] ?_;have b1:Bnd (o5 (bF s) ⟨6,0,false,fP s.l a,bO,[],[]⟩ s.st) th.wt:=⟨q1,t183,t165,t160,q5,t168,t161,t141⟩;refine c107z ?_;refine .nil ?_;have fc:=iO (l0:=s.l) (s:=o5 (bF s) ⟨6,0,false,fP s.l a,bO,[],[]⟩ s.st) (S:=th);have fs:=iK (l0:=s.l) (s:=o5 (bF s) ⟨6,0,false,fP s.l a,bO,[],[]⟩ s.st) (S:=th);rw[bU,gQ]at fc;rw[bJ,eN]at fs;change _≤(dK s a th).code.length∧(dK s a th).code.length≤_ at fc;change _≤(dK s a th).sites.length∧(dK s a th).sites.length≤_ at fs;change g5 _ _ _ ⟨mkS _ _,hT e (z8 e.k (dK s a th)) (dK s a th).code (dK s a th).sites++_⟩ _;refine c9z ?_;refine .c7 [0,1,4,5,12] ?_;refine c116z ?_;refine c172z ?_;refine .p 3 ?_;refine c179z ?_;exact .mk _ (by rw[tU];rfl)
theorem c_blk17 {e:Frm}{c:Ctx}(sc:SC E c vs s.l)(bd:Bd E c s.p)(B:Bnd s W)(a:Ex)(he:GE vs 2 a)(th el:Sl)(hel:0<el.len)(hW:1+th.wt+el.wt≤W)(ith:(∀s':Sco,SC E c vs s'.l→s'.p=s.p→Bnd s' th.wt→∀e:Frm,CH 133 [.ptr e.k 0 0,.vec th.len (p6 th)] (hT e (z8 e.k s') (s').code (s').sites) (.tup []) (hT e (z8 e.k (cK s'.l s' th)) ((cK s'.l s' th)).code ((cK s'.l s' th)).sites)))(iel:(∀s':Sco,SC E c vs s'.l→s'.p=s.p→Bnd s' el.wt→∀e:Frm,CH 133 [.ptr e.k 0 0,.vec el.len (p6 el)] (hT e (z8 e.k s') (s').code (s').sites) (.tup []) (hT e (z8 e.k (cK s'.l s' el)) ((cK s'.l s' el)).code ((cK s'.l s' el)).sites))):g5 Tryz.prog cfg (rB [1,0,1,0,0,1,0] (jJ Tryz.f133)) ⟨mkS 253 [(0,AV.ptr e.k 0 0),(1,AV.vec (Go.Un.Sl.len (pre.app (.cons 7 ByteArray.empty a n6 [] th el rest))) (p6 (pre.app (.cons 7 ByteArray.empty a n6 [] th el rest)))),(4,AV.vec l0.length (l3 l0)),(5,AV.int .i64 ((pre.len:Nat):Int))],(hT e (z8 e.k s) s.code s.sites)⟩ (Led 253 [(0,AV.ptr e.k 0 0),(1,AV.vec (Go.Un.Sl.len (pre.app (.cons 7 ByteArray.empty a n6 [] th el rest))) (p6 (pre.app (.cons 7 ByteArray.empty a n6 [] th el rest)))),(4,AV.vec l0.length (l3 l0)),(5,AV.int .i64 ((pre.len:Nat):Int))] ((hT e (z8 e.k (cG (dL s a th el) (dK s a th).code.length ((dL s a th el).code.length:Int))) ((cG (dL s a th el) (dK s a th).code.length ((dL s a th el).code.length:Int))).code ((cG (dL s a th el) (dK s a th).code.length ((dL s a th el).code.length:Int))).sites))):=by
  obtain ⟨q1,q2,q3,q4,q5,q6,q7,q8⟩:=B;have hlc:=@w8 pre 7 ByteArray.empty a n6 [] th el rest;refine c162z ?_;refine g5.aA (hT e (z8 e.k (bF s)) s.code s.sites++[⟨0,false,190,11,[.int .i64 7,.str ByteArray.empty,.int .i64 a.op,.int .i64 a.num,.str a.name,.vec a.args.length (n5 a.args),.str n6.name,.vec n6.idx.length (n5 n6.idx),.vec (([]:List Ar)).length (bB ([]:List Ar)),.vec (Go.Un.Sl.len th) (p6 th),.vec (Go.Un.Sl.len el) (p6 el)],0⟩]) rfl ?_;refine c268z ?_;refine c9z ?_;refine c38z ?_;refine c98z ?_;refine c24z ?_;refine c159z ?_;refine .n ?_;refine .c7 [0,1,4,5,6,7,12] ?_;have b1:Bnd (o5 (bF s) ⟨6,0,false,fP s.l a,bO,[],[]⟩ s.st) th.wt:=⟨q1,t183,t165,t160,q5,t168,t161,t141⟩;refine c107z ?_;refine .nil ?_;have fc:=iO (l0:=s.l) (s:=o5 (bF s) ⟨6,0,false,fP s.l a,bO,[],[]⟩ s.st) (S:=th);have fs:=iK (l0:=s.l) (s:=o5 (bF s) ⟨6,0,false,fP s.l a,bO,[],[]⟩ s.st) (S:=th);rw[bU,gQ]at fc;rw[bJ,eN]at fs;change _≤(dK s a th).code.length∧(dK s a th).code.length≤_ at fc;change _≤(dK s a th).sites.length∧(dK s a th).sites.length≤_ at fs;change g5 _ _ _ ⟨mkS _ _,hT e (z8 e.k (dK s a th)) (dK s a th).code (dK s a th).sites++_⟩ _;refine .z ?_;refine uTbz ?_;intro e1 qe1;refine .c7 [0,1,4,5,6,7,12] ?_;refine c18z ?_;refine .ch rfl rfl (fZ (mP t47 t44 ⟨7,0,false,l7,bO,[],[]⟩ s.st t25)) ?_;refine .n ?_;change g5 _ _ _ ⟨mkS _ _,hT e (z8 e.k (stJ s a th)) (stJ s a th).code (stJ s a th).sites++_⟩ _;have jc:(stJ s a th).code.length=(dK s a th).code.length+1:=bU;have js:(stJ s a th).sites.length=(dK s a th).sites.length+1:=bJ;refine .sg u4 (mkH 13 [0,1,3,7,0,0,32,96,224,480,1023,2047,4095] [12] [] [0,4096] []) 0 ?_;refine c102z ?_;refine c172z ?_;refine .p 3 ?_;refine c179z ?_;refine .c7 [0,1,4,5,6,13] ?_;refine g5.aA (hT e (z8 e.k (cG (stJ s a th) s.code.length ((stJ s a th).code.length:Int))) (cG (stJ s a th) s.code.length ((stJ s a th).code.length:Int)).code (cG (stJ s a th) s.code.length ((stJ s a th).code.length:Int)).sites++[_]) (by rw[tU];rfl) ?_;have lb:=sB th s.loc;have b2:Bnd (cG (stJ s a th) s.code.length ((stJ s a th).code.length:Int)) el.wt:=⟨q1,by show s.l.length+_≤_;omega,by rw[kC,jc];omega,by rw[oG,js];omega,by show 0≤fQ th s.loc;omega,by show fQ th s.loc+_≤_;omega,by show 0≤s.st+1+(th.wt:Int);omega,by show s.st+1+(th.wt:Int)+_≤_;omega⟩;refine c18z ?_;refine .ch rfl rfl (fZ (iel (cG (stJ s a th) s.code.length ((stJ s a th).code.length:Int)) sc rfl b2 _)) ?_;refine .nil ?_;have ec:(stJ s a th).code.length≤(dL s a th el).code.length∧(dL s a th el).code.length≤(stJ s a th).code.length+2*el.wt:=by have h0:=iO (l0:=s.l) (s:=(cG (stJ s a th) s.code.length ((stJ s a th).code.length:Int))) (S:=el);rw[kC]at h0;exact h0
  change g5 _ _ _ ⟨mkS _ _,hT e (z8 e.k (dL s a th el)) (dL s a th el).code (dL s a th el).sites++_⟩ _;refine c116z ?_;refine c172z ?_;refine .p 3 ?_;refine c179z ?_;exact .mk _ (by rw[tU];rfl)
theorem c_blk8 {e:Frm}{c:Ctx}(sc:SC E c vs s.l)(bd:Bd E c s.p)(B:Bnd s W)(a:Ex)(he:GE vs 2 a)(th:Sl)(hW:1+th.wt≤W)(ith:(∀s':Sco,SC E c vs s'.l→s'.p=s.p→Bnd s' th.wt→∀e:Frm,CH 133 [.ptr e.k 0 0,.vec th.len (p6 th)] (hT e (z8 e.k s') (s').code (s').sites) (.tup []) (hT e (z8 e.k (cK s'.l s' th)) ((cK s'.l s' th)).code ((cK s'.l s' th)).sites))):g5 Tryz.prog cfg (rB [1,0,1,0,0,1,0] (jJ Tryz.f133)) ⟨mkS 253 [(0,AV.ptr e.k 0 0),(1,AV.vec (Go.Un.Sl.len (pre.app (.cons 8 ByteArray.empty a n6 [] th .nil rest))) (p6 (pre.app (.cons 8 ByteArray.empty a n6 [] th .nil rest)))),(4,AV.vec l0.length (l3 l0)),(5,AV.int .i64 ((pre.len:Nat):Int))],(hT e (z8 e.k s) s.code s.sites)⟩ (Led 253 [(0,AV.ptr e.k 0 0),(1,AV.vec (Go.Un.Sl.len (pre.app (.cons 8 ByteArray.empty a n6 [] th .nil rest))) (p6 (pre.app (.cons 8 ByteArray.empty a n6 [] th .nil rest)))),(4,AV.vec l0.length (l3 l0)),(5,AV.int .i64 ((pre.len:Nat):Int))] ((hT e (z8 e.k (cG (F2 s a th) s.code.length ((F2 s a th).code.length:Int))) ((cG (F2 s a th) s.code.length ((F2 s a th).code.length:Int))).code ((cG (F2 s a th) s.code.length ((F2 s a th).code.length:Int))).sites))):=by obtain ⟨q1,q2,q3,q4,q5,q6,q7,q8⟩:=B;have hlc:=@w8 pre 8 ByteArray.empty a n6 [] th .nil rest;refine c162z ?_;refine g5.aA (hT e (z8 e.k (bF s)) s.code s.sites++[⟨0,false,190,11,[.int .i64 8,.str ByteArray.empty,.int .i64 a.op,.int .i64 a.num,.str a.name,.vec a.args.length (n5 a.args),.str n6.name,.vec n6.idx.length (n5 n6.idx),.vec (([]:List Ar)).length (bB ([]:List Ar)),.vec (Go.Un.Sl.len th) (p6 th),.vec (Go.Un.Sl.len Go.Un.Sl.nil) (p6 Go.Un.Sl.nil)],0⟩]) rfl ?_;refine c268z ?_;refine c9z ?_;refine c38z ?_;refine c9z ?_;refine c98z ?_;refine c24z ?_;refine c159z ?_;refine .n ?_;refine .c7 [0,1,4,5,6,7,14] ?_;have b1:Bnd (o5 (bF s) ⟨6,0,false,fP s.l a,bO,[],[]⟩ s.st) th.wt:=⟨q1,t183,t165,t160,q5,t168,t161,t141⟩;refine c107z ?_;refine .nil ?_;have fc:=iO (l0:=s.l) (s:=o5 (bF s) ⟨6,0,false,fP s.l a,bO,[],[]⟩ s.st) (S:=th);have fs:=iK (l0:=s.l) (s:=o5 (bF s) ⟨6,0,false,fP s.l a,bO,[],[]⟩ s.st) (S:=th);rw[bU,gQ]at fc;rw[bJ,eN]at fs;change _≤(dK s a th).code.length∧(dK s a th).code.length≤_ at fc;change _≤(dK s a th).sites.length∧(dK s a th).sites.length≤_ at fs;change g5 _ _ _ ⟨mkS _ _,hT e (z8 e.k (dK s a th)) (dK s a th).code (dK s a th).sites++_⟩ _;refine c26z ?_;refine .ch rfl rfl (fZ (mP t47 t44 ⟨7,((s.code.length:Nat):Int),false,l7,bO,[],[]⟩ s.st t25)) ?_;refine .nil ?_;refine .c7 [0,1,4,5,14] ?_;change g5 _ _ _ ⟨mkS _ _,hT e (z8 e.k (F2 s a th)) (F2 s a th).code (F2 s a th).sites++_⟩ _;have jc:(F2 s a th).code.length=(dK s a th).code.length+1:=bU;refine c116z ?_;refine c172z ?_;refine .p 3 ?_;refine c179z ?_;exact .mk _ (by rw[tU];rfl)
theorem c_blk9 {e:Frm}{c:Ctx}(sc:SC E c vs s.l)(bd:Bd E c s.p)(B:Bnd s W)(hW:1≤W):g5 Tryz.prog cfg (rB [1,0,1,0,0,1,0] (jJ Tryz.f133)) ⟨mkS 253 [(0,AV.ptr e.k 0 0),(1,AV.vec (Go.Un.Sl.len (pre.app (.cons 9 ByteArray.empty l7 n6 [] .nil .nil rest))) (p6 (pre.app (.cons 9 ByteArray.empty l7 n6 [] .nil .nil rest)))),(4,AV.vec l0.length (l3 l0)),(5,AV.int .i64 ((pre.len:Nat):Int))],(hT e (z8 e.k s) s.code s.sites)⟩ (Led 253 [(0,AV.ptr e.k 0 0),(1,AV.vec (Go.Un.Sl.len (pre.app (.cons 9 ByteArray.empty l7 n6 [] .nil .nil rest))) (p6 (pre.app (.cons 9 ByteArray.empty l7 n6 [] .nil .nil rest)))),(4,AV.vec l0.length (l3 l0)),(5,AV.int .i64 ((pre.len:Nat):Int))] ((hT e (z8 e.k (o5 (bF s) ⟨8,0,false,l7,bO,[],[]⟩ s.st)) ((o5 (bF s) ⟨8,0,false,l7,bO,[],[]⟩ s.st)).code ((o5 (bF s) ⟨8,0,false,l7,bO,[],[]⟩ s.st)).sites))):=by obtain ⟨q1,q2,q3,q4,q5,q6,q7,q8⟩:=B;have hlc:=@w8 pre 9 ByteArray.empty l7 n6 [] .nil .nil rest;refine c162z ?_;refine g5.aA (hT e (z8 e.k (bF s)) s.code s.sites++[⟨0,false,190,11,[.int .i64 9,.str ByteArray.empty,.int .i64 l7.op,.int .i64 l7.num,.str l7.name,.vec l7.args.length (n5 l7.args),.str n6.name,.vec n6.idx.length (n5 n6.idx),.vec (([]:List Ar)).length (bB ([]:List Ar)),.vec (Go.Un.Sl.len Go.Un.Sl.nil) (p6 Go.Un.Sl.nil),.vec (Go.Un.Sl.len Go.Un.Sl.nil) (p6 Go.Un.Sl.nil)],0⟩]) rfl ?_;refine c268z ?_;refine c9z ?_;refine c38z ?_;refine c126z ?_;refine .c7 [0,1,4,5,7] ?_;refine .r ?_;refine .e 3 ?_;refine .ch rfl rfl (fZ (mP t47 t44 ⟨8,0,false,l7,bO,[],[]⟩ s.st t25)) ?_;refine .nil ?_;exact .mk _ rfl
theorem Bnd.mono {W':Nat}(h:Bnd s W)(hw:W'≤W):Bnd s W':=by obtain ⟨q1,q2,q3,q4,q5,q6,q7,q8⟩:=h;exact ⟨q1,by omega,by omega,by omega,q5,by omega,q7,by omega⟩
theorem Bnd.ins (h:Bnd s (1+W))(i:Ins):Bnd (o5 (bF s) i s.st) W:=by obtain ⟨q1,q2,q3,q4,q5,q6,q7,q8⟩:=h;exact ⟨q1,t183,t165,t160,q5,t168,t161,t141⟩
theorem Bnd.var (h:Bnd s (1+W))(i:Ins)(n:BA):Bnd (rH (o5 (bF s) i s.st) n) W:=by obtain ⟨q1,q2,q3,q4,q5,q6,q7,q8⟩:=h;exact ⟨by simp[rH],by show (s.l++[_]).length+_≤_;simp;omega,by show (o5 (bF s) i s.st).code.length+_≤_;rw[bU,gQ];omega,by show (o5 (bF s) i s.st).sites.length+_≤_;rw[bJ,eN];omega,by show 0≤s.loc+1;omega,by show s.loc+1+_≤_;omega,t161,t141⟩
theorem Bnd.fin (h:Bnd s (S.wt+W)):Bnd (cK s.l s S) W:=by obtain ⟨q1,q2,q3,q4,q5,q6,q7,q8⟩:=h;have h1:=iO (l0:=s.l) (s:=s) (S:=S);have h2:=iK (l0:=s.l) (s:=s) (S:=S);have h3:=sB S s.loc;exact ⟨q1,by show s.l.length+_≤_;omega,by omega,by omega,by show 0≤fQ S s.loc;omega,by show fQ S s.loc+_≤_;omega,by show 0≤s.st+(S.wt:Int);omega,by show s.st+(S.wt:Int)+_≤_;omega⟩
theorem Bnd.tgt {i:Nat}{v:Int}(h:Bnd s W):Bnd (cG s i v) W:=by obtain ⟨q1,q2,q3,q4,q5,q6,q7,q8⟩:=h;exact ⟨q1,q2,by rw[kC];exact q3,q4,q5,q6,q7,q8⟩
theorem Bnd.put2 (h:Bnd s W)(i:Ins)(t:Int)(hc:s.code.length+1+2*W≤5000)(hs:s.sites.length+1+2*W≤5000):Bnd (o5 s i t) W:=by obtain ⟨q1,q2,q3,q4,q5,q6,q7,q8⟩:=h;exact ⟨q1,by rw[R2];omega,by rw[bU];omega,by rw[bJ];omega,q5,by rw[vW];omega,q7,by rw[AH];omega⟩
variable {a:Ex}
theorem L3 (h:Bnd s (1+th.wt+W)):Bnd (dK s a th) W∧(dK s a th).code.length+1+2*W≤5000∧(dK s a th).sites.length+1+2*W≤5000:=by have h1:=(show Bnd s (1+(th.wt+W)) from h.mono (by omega)).ins ⟨6,0,false,fP s.l a,bO,[],[]⟩;have h2:=iO (l0:=s.l) (s:=o5 (bF s) ⟨6,0,false,fP s.l a,bO,[],[]⟩ s.st) (S:=th);have h3:=iK (l0:=s.l) (s:=o5 (bF s) ⟨6,0,false,fP s.l a,bO,[],[]⟩ s.st) (S:=th);rw[bU,gQ]at h2;rw[bJ,eN]at h3;have q3:=h.cb;have q4:=h.sb;exact ⟨h1.fin,by show (cK s.l (o5 (bF s) _ s.st) th).code.length+1+2*W≤5000;omega,by show (cK s.l (o5 (bF s) _ s.st) th).sites.length+1+2*W≤5000;omega⟩
theorem RS (h:Bnd s (1+th.wt+(el.wt+W))):Bnd (dL s a th el) W:=by obtain ⟨h1,h2,h3⟩:=L3 (a:=a) h;exact (((h1.put2 ⟨7,0,false,l7,bO,[],[]⟩ s.st h2 h3).tgt (i:=s.code.length) (v:=((stJ s a th).code.length:Int)))).fin
theorem RT {e:Frm}{c:Ctx}(sc:SC E c vs s.l)(bd:Bd E c s.p){k:Int}{n:BA}(hG:GS E (.cons k n a r xs th el rest) vs)(B:Bnd s (Sl.cons k n a r xs th el rest).wt)(ih:∀T:Sl,(T=th∨T=el)→GS E T vs→(∀s':Sco,SC E c vs s'.l→s'.p=s.p→Bnd s' T.wt→∀e:Frm,CH 133 [.ptr e.k 0 0,.vec T.len (p6 T)] (hT e (z8 e.k s') (s').code (s').sites) (.tup []) (hT e (z8 e.k (cK s'.l s' T)) ((cK s'.l s' T)).code ((cK s'.l s' T)).sites))):∃s' vs',SC E c vs' s'.l∧GS E rest vs'∧s'.p=s.p∧Bnd s' rest.wt∧cK l0 s' rest=cK l0 s (.cons k n a r xs th el rest)∧g5 Tryz.prog cfg (rB [1,0,1,0,0,1,0] (jJ Tryz.f133)) ⟨mkS 253 [(0,AV.ptr e.k 0 0),(1,AV.vec (Go.Un.Sl.len (pre.app (.cons k n a r xs th el rest))) (p6 (pre.app (.cons k n a r xs th el rest)))),(4,AV.vec l0.length (l3 l0)),(5,AV.int .i64 ((pre.len:Nat):Int))],(hT e (z8 e.k s) s.code s.sites)⟩ (Led 253 [(0,AV.ptr e.k 0 0),(1,AV.vec (Go.Un.Sl.len (pre.app (.cons k n a r xs th el rest))) (p6 (pre.app (.cons k n a r xs th el rest)))),(4,AV.vec l0.length (l3 l0)),(5,AV.int .i64 ((pre.len:Nat):Int))] (hT e (z8 e.k s') (s').code (s').sites)):=by
  rcases hG with ⟨rfl,⟨j,hj,rfl⟩,hn,he,rfl,rfl,rfl,rfl,hr⟩ | ⟨rfl,hn,he,rfl,rfl,rfl,rfl,hr⟩ | ⟨rfl | rfl,⟨f,hf,rfl,ha⟩,rfl,rfl,rfl,rfl,hr⟩ | ⟨rfl | rfl,rfl,rfl,hR,rfl,rfl,rfl,hr⟩ | ⟨rfl,rfl,he,rfl,rfl,hth,hel,hr⟩ | ⟨rfl,rfl,he,rfl,rfl,hth,rfl,hr⟩ | ⟨rfl,rfl,rfl,rfl,rfl,rfl,rfl,hr⟩
  all_goals simp only[Sl.wt,Nat.add_zero]at B
  · exact ⟨(rH (o5 (bF s) ⟨1,s.loc,false,fP s.l a,bO,[],[]⟩ s.st) (vnm j)),_,sc.push hj hn s.loc,hr,rfl,B.var _ _,fin_var,c_blk1 sc bd B (by omega) j hj hn a he⟩
  · exact ⟨(o5 (bF s) ⟨1,(eQ s.l n).n,(eQ s.l n).kind==1,fP s.l a,bO,[],[]⟩ s.st),vs,sc,hr,rfl,B.ins _,rJ (by simp only[p4,show ¬(2:Int)=1 from by decide,if_true,if_false];rfl) (by decide),c_blk2 sc bd B (by omega) n hn a he⟩
  · exact ⟨(o5 (bF s) ⟨2,(eQ s.l f.1).n,false,l7,bO,aO s.l xs,z6 s.l xs⟩ s.st),vs,sc,hr,rfl,B.ins _,rJ (by simp only[p4,show ¬(3:Int)=1 from by decide,show ¬(3:Int)=2 from by decide,show ¬(3:Int)=4 from by decide,true_or,if_true,if_false]) (by decide),c_blk3 sc bd B (by omega) f hf xs ha⟩
  · exact ⟨(o5 (bF s) ⟨3,(eQ s.l f.1).n,false,l7,bO,aO s.l xs,z6 s.l xs⟩ s.st),vs,sc,hr,rfl,B.ins _,rJ (by simp only[p4,show ¬(4:Int)=1 from by decide,show ¬(4:Int)=2 from by decide,or_true,if_true,if_false]) (by decide),c_blk4 sc bd B (by omega) f hf xs ha⟩
  · exact ⟨(o5 (bF s) ⟨4,0,false,l7,rD s.l r,[],[]⟩ s.st),vs,sc,hr,rfl,B.ins _,rJ (by simp only[p4,show ¬(5:Int)=1 from by decide,show ¬(5:Int)=2 from by decide,show ¬((5:Int)=3∨(5:Int)=4) from by decide,if_true,if_false]) (by decide),c_blk5 sc bd B (by omega) r hR⟩
  · exact ⟨(o5 (bF s) ⟨5,0,false,l7,rD s.l r,[],[]⟩ s.st),vs,sc,hr,rfl,B.ins _,rJ (by simp only[p4,show ¬(6:Int)=1 from by decide,show ¬(6:Int)=2 from by decide,show ¬((6:Int)=3∨(6:Int)=4) from by decide,show ¬(6:Int)=5 from by decide,if_true,if_false]) (by decide),c_blk6 sc bd B (by omega) r hR⟩
  · by_cases h0:0<el.len
    · exact ⟨(cG (dL s a th el) (dK s a th).code.length ((dL s a th el).code.length:Int)),vs,sc,hr,rfl,(RS (B.mono (by omega))).tgt,RR h0,c_blk17 sc bd B a he th el h0 (by omega) (ih _ (.inl rfl) hth) (ih _ (.inr rfl) hel)⟩
    · obtain rfl:=len_nil.1 h0
      simp only[Sl.wt,Nat.add_zero]at B;exact ⟨(cG (dK s a th) s.code.length ((dK s a th).code.length:Int)),vs,sc,hr,rfl,(L3 B).1.tgt,fin_if,c_blk7 sc bd B a he th (by omega) (ih _ (.inl rfl) hth)⟩
  · exact ⟨(cG (F2 s a th) s.code.length ((F2 s a th).code.length:Int)),vs,sc,hr,rfl,((L3 (a:=a) B).1.put2 _ _ (L3 B).2.1 (L3 B).2.2).tgt,fin_wh,c_blk8 sc bd B a he th (by omega) (ih _ (.inl rfl) hth)⟩
  · exact ⟨(o5 (bF s) ⟨8,0,false,l7,bO,[],[]⟩ s.st),vs,sc,hr,rfl,B.ins _,rJ (by simp only[p4,show ¬(9:Int)=1 from by decide,show ¬(9:Int)=2 from by decide,show ¬((9:Int)=3∨(9:Int)=4) from by decide,show ¬(9:Int)=5 from by decide,show ¬(9:Int)=6 from by decide,show ¬(9:Int)=7 from by decide,show ¬(9:Int)=8 from by decide,if_false]) (by decide),c_blk9 sc bd B (by omega)⟩
theorem fin_nil:cK l0 s .nil={ s with l:=l0 }:=by
  refine Sco.eq rfl rfl rfl ?_ ?_ ?_
  · simp[cK,Sl.wt]
  · simp[cK,p4]
  · simp[cK,cC]
theorem RU {c:Ctx}(S:Sl)(hSl:S.wt≤1000)(vars:List BA)(s:Sco)(sc0:SC E c vars s.l)(hG0:GS E S vars)(bd:Bd E c s.p)(B0:Bnd s S.wt)(e:Frm)(ih:∀S':Sl,S'.wt<S.wt→∀(vars:List BA) (s:Sco),SC E c vars s.l→GS E S' vars→Bd E c s.p→Bnd s S'.wt→∀e:Frm,CH 133 [.ptr e.k 0 0,.vec S'.len (p6 S')] (hT e (z8 e.k s) (s).code (s).sites) (.tup []) (hT e (z8 e.k (cK s.l s S')) ((cK s.l s S')).code ((cK s.l s S')).sites)):CH 133 [.ptr e.k 0 0,.vec S.len (p6 S)] (hT e (z8 e.k s) s.code s.sites) (.tup []) (hT e (z8 e.k (cK s.l s S)) ((cK s.l s S)).code ((cK s.l s S)).sites):=by
  refine .wz Tryz.f133 253 ?_;have hlw:=dA S;refine c19z ?_;refine .s4 (fun m st=>∃(Z:Sl) (pre:Sl) (rst:Sl) (vs:List BA) (cur:Sco),(m=rst.len∧(Z=S∧S=pre.app rst∧GS E rst vs∧SC E c vs cur.l∧cur.p=s.p∧Bnd cur rst.wt∧cK s.l cur rst=cK s.l s S))∧st=⟨mkS 253 [(0,AV.ptr e.k 0 0),(1,AV.vec (Go.Un.Sl.len Z) (p6 Z)),(4,AV.vec s.l.length (l3 s.l)),(5,AV.int .i64 ((pre.len:Nat):Int))],hT e (z8 e.k cur) cur.code cur.sites⟩) (.v ⟨S,Sl.nil,S,vars,s,⟨rfl,⟨rfl,rfl,hG0,sc0,rfl,B0,rfl⟩⟩,rfl⟩ (hs:=t10) (hr:=t91)) ?_;rintro m sl h' ⟨Z,pre,rst,vs,cur,⟨hm,⟨hZ,hS,hG,sc,hp,B,hF⟩⟩,hst⟩;obtain ⟨rfl,rfl⟩:=St.mk.inj hst;clear hst;subst hZ;have hlen:=congrArg Go.Un.Sl.len hS;rw[Go.Un.Sl.bT]at hlen;refine c0z ?_;refine u2z ?_ ?_
  ·intro e1 qe1;refine c210z ?_;obtain ⟨k,n,a,r,xs,th,el,rest,rfl⟩:=Go.Un.Sl.oE (s:=rst) (by omega);subst hS;have hwc:=@Q2 pre k n a r xs th el rest;have hlc:=@w8 pre k n a r xs th el rest;obtain ⟨s2,vs2,r1,r2,r3,r4,r5,hrun⟩:=RT (e:=e) (l0:=s.l) (pre:=pre) sc (by rw[hp];exact bd) hG B (fun T hT hgT s' q1 q2 q3 e'=>ih T (by rcases hT with rfl | rfl<;>omega) _ s' q1 hgT (by rw[q2,hp];exact bd) q3 e');refine g5.fitS [(0,AV.ptr e.k 0 0),(1,AV.vec (Go.Un.Sl.len (pre.app (.cons k n a r xs th el rest))) (p6 (pre.app (.cons k n a r xs th el rest)))),(4,AV.vec s.l.length (l3 s.l)),(5,AV.int .i64 ((pre.len:Nat):Int))] ?_;refine g5.led (hrun) ?_;intro lq hq haq;change g5 ..;refine g5.fitS [(0,AV.ptr e.k 0 0),(1,AV.vec (Go.Un.Sl.len (pre.app (.cons k n a r xs th el rest))) (p6 (pre.app (.cons k n a r xs th el rest)))),(4,AV.vec s.l.length (l3 s.l)),(5,AV.int .i64 ((pre.len:Nat):Int))] ?_ haq;refine .rz ?_;exact ⟨_,by omega,.v ⟨_,(pre.app (.cons k n a r xs th el .nil)),rest,vs2,s2,⟨rfl,⟨rfl,eD,r2,r1,r3.trans hp,r4,r5.trans hF⟩⟩,rfl⟩ (he:=by rfl) (hl:=by simp only[aF];exact Nat.le_refl _) (hk:=by exact hT_keep rfl) (hs:=t10) (hr:=t91)⟩
  intro e1 qe1;refine .exit ?_;have hr0:rst=.nil:=Sl.zX (by omega);subst hr0;change g5 ..;refine .rz ?_;refine Ends.n ?_;exact ⟨hT e ⟨0,false,198,10,[.vec cur.p.globals.length (r7 cur.p.globals),.vec cur.p.mutexes.length (g6 cur.p.mutexes),.vec cur.p.funcs.length (o9 cur.p.funcs),.vec s.l.length (l3 s.l),.int .i64 cur.loc,.int .i64 cur.st,.int .i64 0,.int .i64 0,.own (e.k+1) cur.code.length 0 cur.code.length,.own (e.k+2) cur.sites.length 0 cur.sites.length],0⟩ cur.code cur.sites,[],_,(List.append_nil _).symm,by (simp only[aF];exact Nat.le_refl _),(C1 (fF.get ⟨.vec _ _,.vec _ _,.vec _ _,.vec _ _,.int _ _,.int _ _,.int _ _,.int _ _,.own _ _ _ _ e.lt.2.1,.own _ _ _ _ e.lt.2.2,trivial⟩)),rfl,by rw[←hF,fin_nil];exact ⟨rfl,rfl⟩⟩
theorem AI {E:Env}{c:Ctx}:∀(n:Nat) (S:Sl),S.wt≤n→n≤1000→∀(vars:List BA) (s:Sco),SC E c vars s.l→GS E S vars→Bd E c s.p→Bnd s S.wt→∀e:Frm,CH 133 [.ptr e.k 0 0,.vec S.len (p6 S)] (hT e (z8 e.k s) (s).code (s).sites) (.tup []) (hT e (z8 e.k (cK s.l s S)) ((cK s.l s S)).code ((cK s.l s S)).sites)
  | n,S,hn,h1,vars,s,sc,hG,bd,B,e=>by
    refine RU S (by omega) vars s sc hG bd B e (fun S' hS'=>?_);cases n with
    | zero=>omega
    | succ n=>exact AI n S' (by omega) (by omega)
end Go.Proofs.YtonbocmibeikmaaGreat
end
