/- My own texts, put together by a program of mine. -/
import Derived.Test.YtonbocmibeikmaaGreatIP3
set_option linter.unusedSimpArgs false
set_option linter.unusedVariables false
set_option maxRecDepth 100000
set_option maxHeartbeats 4000000
section
namespace Go.Proofs.YtonbocmibeikmaaGreat
open Go.Ab Go.Un
theorem DM {l:List Ex}{x:Ex}:n4 (l++[x])=n4 l++s9 x:=by simp[n4]
theorem R6 {l:List Pl}{x:Pl}:dQ (l++[x])=dQ l++H9 x:=by simp[dQ]
section
variable {e:Frm}{b b0 b1 b2 b3 b4 b5 b6:Blk}{c:List Ins}{ss:List Int}{l:c5}{es:List Ex}{x:Ex}{ps:List Pl}{p:Pl}{g n:Nat}
theorem IN (hn:es.length=n)(hl:n<100000):j6 cfg 49 (hT e b c ss++(b0::b1::b2::b3::o9 49 4 g (n4 es)::b5::b6::⟨0,false,49,4,s9 x,0⟩::l)) (.own (e.n+4) g 0 n) (.own (e.n+7) 0 0 1)=some (.own (e.n+4) (g+1) 0 (n+1),hT e b c ss++(b0::b1::b2::b3::o9 49 4 (g+1) (n4 (es++[x]))::b5::b6::⟨0,false,49,4,s9 x,0⟩::l)):=by subst hn;rw[u9 (C:=cfg) (K:=4) (m:=1) (new:=s9 x) (zs:=n4 es) (by rw[eB];rfl) rfl (by omega) (by rw[bD,Nat.mul_comm]) (by rw[n8]) (by omega) (by simp[rd,eB,n8,gA]) rfl (by decide) (by omega),←DM,hY];rfl
theorem IP (hn:ps.length=n)(hl:n<100000):j6 cfg 51 (hT e b c ss++(b0::b1::b2::b3::b4::o9 51 3 g (dQ ps)::b6::⟨0,false,51,3,[.bool p.param,.int .i64 p.index,.vec p.at'.length (n4 p.at')],0⟩::l)) (.own (e.n+5) g 0 n) (.own (e.n+7) 0 0 1)=some (.own (e.n+5) (g+1) 0 (n+1),hT e b c ss++(b0::b1::b2::b3::b4::o9 51 3 (g+1) (dQ (ps++[p]))::b6::⟨0,false,51,3,[.bool p.param,.int .i64 p.index,.vec p.at'.length (n4 p.at')],0⟩::l)):=by subst hn;rw[u9 (C:=cfg) (K:=3) (m:=1) (new:=H9 p) (zs:=dQ ps) (by rw[eB];rfl) rfl (by omega) t207 rfl (by omega) (by simp[rd,eB,H9]) rfl (by decide) (by omega),←R6,hY];rfl
end
theorem hT_same {e:Frm}{b:Blk}{c:List Ins}{ss:List Int}{l l':c5}(hl:nT (e.n+l'.length) l l'):y0 (hT e b c ss++l) (hT e b c ss++l'):=
  (y0.refl _).app rfl (by rw[aM];exact hl)
variable {E:Env}{vars:List BA}{xs:List Ar}
theorem GAs.mu {ps:List Pm}(h:GAs E vars ps xs):ps.length=xs.length∧∀i,i<xs.length→(xs.getD i dP).mu=(ps.getD i iE).mu:=by
  induction ps generalizing xs with
  | nil=>
    cases xs with
    | nil=>exact ⟨rfl,fun i hi=>by simp at hi⟩
    | cons=>exact h.elim
  | cons p ps ih=>
    cases xs with
    | nil=>exact h.elim
    | cons a xs=>
      obtain ⟨⟨h1,_⟩,h3⟩:=h;obtain ⟨i1,i2⟩:=ih h3;refine ⟨by simp[i1],fun i hi=>?_⟩;cases i with
      | zero=>exact h1
      | succ i=>exact i2 i (by simpa using hi)
theorem ar_is {ps:List Pm}(h:GAs E vars ps xs){i:Nat}(hi:i<xs.length):((xs.getD i dP).mu=true→GR E vars (xs.getD i dP).r)∧((xs.getD i dP).mu=false→GE vars 2 (xs.getD i dP).e):=by
  induction ps generalizing xs i with
  | nil=>
    cases xs with
    | nil=>simp at hi
    | cons=>exact h.elim
  | cons p ps ih=>
    cases xs with
    | nil=>exact h.elim
    | cons a xs=>
      obtain ⟨⟨h1,h2⟩,h3⟩:=h;cases i with
      | succ i=>exact ih h3 (by simpa using hi)
      | zero=>
        simp only[List.getD_cons_zero];rcases h2 with ⟨q1,q2,_⟩ | ⟨q1,_,q3⟩
        · exact ⟨fun _=>q2,fun h=>absurd ((h1.trans q1).symm.trans h) (by decide)⟩
        · exact ⟨fun h=>absurd ((h1.trans q1).symm.trans h) (by decide),fun _=>q3⟩
variable {i:Nat}
theorem B3 (hi:i<xs.length):xs.drop i=xs.getD i dP::xs.drop (i+1):=by rw[List.drop_eq_getElem_cons hi];simp[List.getD,hi]
theorem cEx_t {l:List Ent}(hi:i<xs.length)(h:(xs.getD i dP).mu=true){es:List Ex}(he:aT l xs=es++aT l (xs.drop i)):aT l xs=es++aT l (xs.drop (i+1)):=by rw[he,B3 hi,aT,if_pos h]
theorem cEx_f {l:List Ent}(hi:i<xs.length)(h:(xs.getD i dP).mu=false){es:List Ex}(he:aT l xs=es++aT l (xs.drop i)):aT l xs=(es++[fV l (xs.getD i dP).e])++aT l (xs.drop (i+1)):=by rw[he,B3 hi,aT,if_neg t202];simp
theorem cPl_t {l:List Ent}(hi:i<xs.length)(h:(xs.getD i dP).mu=true){ps:List Pl}(he:aD l xs=ps++aD l (xs.drop i)):aD l xs=(ps++[rH l (xs.getD i dP).r])++aD l (xs.drop (i+1)):=by rw[he,B3 hi,aD,if_pos h];simp
theorem cPl_f {l:List Ent}(hi:i<xs.length)(h:(xs.getD i dP).mu=false){ps:List Pl}(he:aD l xs=ps++aD l (xs.drop i)):aD l xs=ps++aD l (xs.drop (i+1)):=by rw[he,B3 hi,aD,if_neg t202]
theorem AE {l:List Ar}(h:i<l.length):List.take 7 (List.drop (i*7) (bE l))=[.bool (l.getD i dP).mu,.str (l.getD i dP).r.name,.vec (l.getD i dP).r.idx.length (n4 (l.getD i dP).r.idx),.int .i64 (l.getD i dP).e.op,.int .i64 (l.getD i dP).e.num,.str (l.getD i dP).e.name,.vec (l.getD i dP).e.args.length (n4 (l.getD i dP).e.args)]:=by rw[uU h,vM]
variable {s:Sco}
theorem RE (hl:s.l.length<1000000)(t:Int)(hv:∀x∈vars,∃v,bP s.l x=some v∧(v.kind=1∨v.kind=4)){d:Nat}{a:Ex}(g:GE vars d a)(e:Frm):CB 166 [.ptr e.k 0 0,.agg [.int .i64 a.op,.int .i64 a.num,.str a.name,.vec a.args.length (n4 a.args)],.int .i64 t] (hT e (aF e.k s) s.code s.sites) (.agg (s9 (fV s.l a))):=by rw[←bN];exact Mr hl t hv g e
theorem IQ {e:Frm}(hl:s.l.length<1000000)(t:Int){c:Ctx}(sc:SC E c vars s.l)(hE:E.mutexes=s.p.mutexes)(hc:c.nm=s.p.mutexes.length){r:Rf}(g:GR E vars r):CB 169 [.ptr e.k 0 0,.agg [.str r.name,.vec r.idx.length (n4 r.idx)],.int .i64 t] (hT e (aF e.k s) s.code s.sites) (.agg [.bool (rH s.l r).param,.int .i64 (rH s.l r).index,.vec (rH s.l r).at'.length (n4 (rH s.l r).at')]):=c_refL hl t sc hE hc g
attribute [local go_sem] rd s5 n8 bD cM r8 aS fT dL n6 bA aP l6 bF Int.natCast_nonneg Int.natCast_inj List.length_map wrap64 gA jL jM Y7 J0 Q0 Y8 zY max2 eZ cR bH Nat.reduceMul nA kH aF iT qB lG vP aM hT_0 hT_1 hT_2 QY QZ RA eB B1 hY R3 RC Z9 nD K3 AD IN IP
section
attribute [local go_sem] K3 AD
theorem c_put {e:Frm}(hc:s.code.length<10000)(hs:s.sites.length<10000)(i:Ins)(t:Int):CH 134 [.ptr e.k 0 0,.agg (eK i),.int .i64 t] (hT e (aF e.k s) s.code s.sites) (.int .i64 ((s.code.length:Nat):Int)) (hT e (aF e.k {s with code:=s.code++[i],sites:=s.sites++[t]}) (s.code++[i]) (s.sites++[t])):=by rw[lH];refine .wz Tryz.f134 33 ?_;refine .z ?_;refine .sg v9 (mkH 22 [0,0,0,4,12,28,0,64,252,0,512,1536,3584,0,8192,32764,65533,131069,262141,524287,1048575,2097151] [7,8,14,15,18,21] [(7,0),(14,1)] [0,128,384,16384,16512,16768,49536,311680,2408832] [0,1,2,3,4,5,6,7,8,9,10,11,12]) 2 ?_;refine .p 5 ?_;refine .rm [true] ?_;refine .rm [true] ?_;refine .em [true] [128,0] [_] ?_;refine .em [true,false] [384,128,0] [_] ?_;refine .p 3 ?_;refine .rm [true,true,true] ?_;refine .p 1 ?_;refine .en [true,true,true] [16768,16512,16384,384,128,0] [_,_,_] ?_;refine .en [true,false,false,false,false,false] [49536,16768,16512,16384,384,128,0] [_] ?_;refine .p 2 ?_;refine .en [true,false,false,false,false,false,false] [311680,49536,16768,16512,16384,384,128,0] [_] ?_;refine .p 2 ?_;refine .en [true,false,false,false,false,false,false,false] [2408832,311680,49536,16768,16512,16384,384,128,0] [_] ?_;refine .po [false,false,false,true,true,true,true,true,true] ?_;refine .po [false,false,false,false,true,false,false,true,false] ?_;refine .po [false,false,false,false,false,true,false,false,true] ?_;refine .po [false,false,false,false,false,true,false,false,true] ?_;refine .po [false,false,false,false,true,true,false,true,true] ?_;refine z5.nil rfl ?_;refine .c6 [0] ?_;refine c29z ?_;exact ⟨hT _ _ _ _,_,_,rfl,by (simp only[aM];exact Nat.le_refl _),(B2 (gN.get ⟨.vec _ _,.vec _ _,.vec _ _,.vec _ _,.int _ _,.int _ _,.int _ _,.int _ _,.own _ _ _ _ e.lt.2.1,.own _ _ _ _ e.lt.2.2,trivial⟩)),t2,by exact ⟨congrArg (AV.int .i64) (by omega),by simp only[aF,List.length_append,List.length_cons,List.length_nil]⟩⟩
end
section
attribute [local go_sem] nD AE IN IP
theorem c_call3 {e:Frm}(hl:s.l.length<1000000)(t:Int){c:Ctx}(sc:SC E c vars s.l)(hE:E.mutexes=s.p.mutexes)(hc:c.nm=s.p.mutexes.length){x y:BA}{n:Int}(hf:bP s.l x=some ⟨y,3,n⟩)(hn:0≤n∧n<s.p.funcs.length){ps:List Pm}(hp:(s.p.funcs.getD n.toNat j5).params=ps)(hp2:ps.length≤2)(ha:GAs E vars ps xs):CB 168 [.ptr e.k 0 0,.agg [.int .i64 3,.str x,.int .i64 0,.int .i64 0,.str ByteArray.empty,.vec 0 [],.str ByteArray.empty,.vec 0 [],.vec xs.length (bE xs),.vec 0 [],.vec 0 []],.int .i64 t] (hT e (aF e.k s) s.code s.sites) (.agg (eK ⟨2,n,false,l4,bU,aT s.l xs,aD s.l xs⟩)):=by
  refine .bz Tryz.f168 112 ?_;refine .z ?_;refine c69z ?_;refine c17z ?_;refine c26z ?_;refine c118z ?_;refine c240z ?_;refine .sb ?_;refine .c6 [0,2,4,6,7,8,9] ?_;refine c115z ?_;refine c4z ?_;refine c162z ?_;refine .ss v9 (mkP 11 [0,1,3,7,15,0,32,127,255,511,1023] []) ?_;refine c44z ?_;refine .seq ?_;refine .c6 [0,2,4,6,7,10,54] ?_;have hml:=GAs.mu ha;have hml1:=hml.1;rw[hp];refine .z ?_;refine .spl 61 rfl rfl (fun e1=>by exfalso;have hml1:=(GAs.mu ha).1;have q:=fact e1;omega) (fun e1=>?_);try simp only[e1]
  have qe1:=fact e1;refine c17z ?_;refine c5z ?_;refine c8.mI (β:=e.n+2) (k:=10) t94 rfl ?_;simp only[List.append_assoc,List.cons_append,List.nil_append,eB,hY,List.set_cons_succ,List.set_cons_zero,List.length_append,aM,List.length_cons,List.length_nil,Nat.reduceAdd,Nat.zero_add];refine c8.mI (β:=e.n+2) (k:=11) t94 rfl ?_;simp only[List.append_assoc,List.cons_append,List.nil_append,eB,hY,List.set_cons_succ,List.set_cons_zero,List.length_append,aM,List.length_cons,List.length_nil,Nat.reduceAdd,Nat.zero_add];refine .u6 (fun m st=>∃(q:Nat) (es:List Ex) (ps':List Pl) (gi:Nat) (gp:Nat),(m=ps.length-q∧(q≤ps.length∧aT s.l xs=es++aT s.l (xs.drop q)∧aD s.l xs=ps'++aD s.l (xs.drop q)∧es.length≤q∧ps'.length≤q))∧st=⟨mkS 112 [(0,AV.ptr e.k 0 0),(2,AV.int .i64 t),(4,AV.ptr e.n 0 0),(6,AV.ptr (e.n+1) 0 0),(7,AV.ptr (e.n+2) 0 0),(10,AV.vec ps.length (w4 ps)),(11,AV.int .i64 ((q:Nat):Int))],(hT e (aF e.k s) s.code s.sites)++[⟨0,false,190,11,[.int .i64 3,.str x,.int .i64 0,.int .i64 0,.str ByteArray.empty,.vec 0 [],.str ByteArray.empty,.vec 0 [],.vec xs.length (bE xs),.vec 0 [],.vec 0 []],0⟩,⟨0,false,54,12,[.int .i64 0,.int .i64 0,.bool false,.int .i64 0,.int .i64 0,.str ByteArray.empty,.nils,.bool false,.int .i64 0,.nils,.nils,.nils],0⟩,⟨0,false,54,12,[.int .i64 2,.int .i64 n,.bool false,.int .i64 0,.int .i64 0,.str ByteArray.empty,.nils,.bool false,.int .i64 0,.nils,.own (e.n+4) gi 0 es.length,.own (e.n+5) gp 0 ps'.length],0⟩,⟨0,false,145,3,[.str y,.int .i64 3,.int .i64 n],0⟩,o9 49 4 gi (n4 es),o9 51 3 gp (dQ ps')]⟩) (.v ⟨0,([]:List Ex),([]:List Pl),0,0,⟨rfl,⟨by omega,by simp,by simp,by simp,by simp⟩⟩,rfl⟩ (hr:=t19)) ?_;rintro m sl h' ⟨q,es,ps',gi,gp,⟨hm,⟨hq,hes,hps,hel,hpl⟩⟩,hst⟩;obtain ⟨rfl,rfl⟩:=St.mk.inj hst;clear hst;refine c0z ?_;refine u2z ?_ ?_
  ·intro e2 qe2;refine c2z ?_;have har:=ar_is ha (i:=q) (by omega);refine c13z ?_;refine .c6 [0,2,4,6,7,10,11,12] ?_;refine .ss v9 (mkP 8 [0,1,0,0,12,28,60,127] []) ?_;refine .n [] ?_;refine .spl 84 rfl rfl (fun e3=>by exfalso;have hml2:=(GAs.mu ha).2 q (by omega);simp_all) (fun e3=>?_);try simp only[e3]
   have qe3:=fact e3;refine c17z ?_;refine .c6 [0,2,4,6,7,10,11,12] ?_;refine .z ?_;refine u2z ?_ ?_
   ·intro e4 qe4;have hmu:(xs.getD q dP).mu=true:=by assumption
    refine c50z ?_;refine c33z ?_;refine c166z ?_;refine .cn [true] [64,0] [_] rfl rfl t155 ?_;refine c89z ?_;refine c109z ?_;refine c53z ?_;refine c179z ?_;refine .rz ?_;exact ⟨_,by omega,.v ⟨(q+1),es,(ps'++[rH s.l (xs.getD q dP).r]),gi,(gp+1),⟨rfl,⟨by omega,cEx_t (by omega) hmu hes,cPl_t (by omega) hmu hps,by omega,t60⟩⟩,rfl⟩ (he:=t38) (hl:=t100) (hk:=t32) (hr:=t19)⟩
   intro e4 qe4;have hmu:(xs.getD q dP).mu=false:=by assumption
   refine c50z ?_;refine c33z ?_;refine c166z ?_;refine .cn [true] [64,0] [_] rfl rfl t156 ?_;refine c89z ?_;refine c109z ?_;refine c53z ?_;refine c179z ?_;refine .rz ?_;exact ⟨_,by omega,.v ⟨(q+1),(es++[fV s.l (xs.getD q dP).e]),ps',(gi+1),gp,⟨rfl,⟨by omega,cEx_f (by omega) hmu hes,cPl_f (by omega) hmu hps,t60,by omega⟩⟩,rfl⟩ (he:=t38) (hl:=t100) (hk:=t32) (hr:=t19)⟩
  intro e2 qe2;refine .exit ?_;obtain rfl:q=ps.length:=by omega
  rw[List.drop_of_length_le (by omega)]at hes hps;simp only[aT,aD,List.append_nil]at hes hps;refine c8.nU (γ:=e.n+4) (β:=e.n+2) (k:=10) (len:=es.length) t94 (by rw[bD,Nat.mul_comm]) (by omega) (Ap _) t94 (by omega) rfl ?_;simp only[List.append_assoc,List.cons_append,List.nil_append,eB,hY,List.set_cons_succ,List.set_cons_zero,List.length_append,aM,List.length_cons,List.length_nil,Nat.reduceAdd,Nat.zero_add];refine c8.nU (γ:=e.n+5) (β:=e.n+2) (k:=11) (len:=ps'.length) t94 t207 (by omega) (IL _) t94 (by omega) rfl ?_;simp only[List.append_assoc,List.cons_append,List.nil_append,eB,hY,List.set_cons_succ,List.set_cons_zero,List.length_append,aM,List.length_cons,List.length_nil,Nat.reduceAdd,Nat.zero_add];generalize dY 49 4 gi (n4 es) (es.length*4)=Eb;generalize dY 51 3 gp (dQ ps') (ps'.length*3)=Pb;change c8 ..;refine c229z ?_;exact .ret (.ex (hf:=t2) (hq:=t208))
end
section
attribute [local go_sem] nD AE IN IP
theorem c_call4 {e:Frm}(hl:s.l.length<1000000)(t:Int){c:Ctx}(sc:SC E c vars s.l)(hE:E.mutexes=s.p.mutexes)(hc:c.nm=s.p.mutexes.length){x y:BA}{n:Int}(hf:bP s.l x=some ⟨y,3,n⟩)(hn:0≤n∧n<s.p.funcs.length){ps:List Pm}(hp:(s.p.funcs.getD n.toNat j5).params=ps)(hp2:ps.length≤2)(ha:GAs E vars ps xs):CB 168 [.ptr e.k 0 0,.agg [.int .i64 4,.str x,.int .i64 0,.int .i64 0,.str ByteArray.empty,.vec 0 [],.str ByteArray.empty,.vec 0 [],.vec xs.length (bE xs),.vec 0 [],.vec 0 []],.int .i64 t] (hT e (aF e.k s) s.code s.sites) (.agg (eK ⟨3,n,false,l4,bU,aT s.l xs,aD s.l xs⟩)):=by
  refine .bz Tryz.f168 112 ?_;refine .z ?_;refine c69z ?_;refine .T ?_;refine c1z ?_;refine c26z ?_;refine c118z ?_;refine c240z ?_;refine .sb ?_;refine .c6 [0,2,4,6,7,8,9] ?_;refine c115z ?_;refine c4z ?_;refine c162z ?_;refine .ss v9 (mkP 11 [0,1,3,7,15,0,32,127,255,511,1023] []) ?_;refine c44z ?_;refine .seq ?_;refine .c6 [0,2,4,6,7,10,54] ?_;have hml:=GAs.mu ha;have hml1:=hml.1;rw[hp];refine .z ?_;refine .spl 61 rfl rfl (fun e1=>by exfalso;have hml1:=(GAs.mu ha).1;have q:=fact e1;omega) (fun e1=>?_);try simp only[e1]
  have qe1:=fact e1;refine c17z ?_;refine c5z ?_;refine c8.mI (β:=e.n+2) (k:=10) t94 rfl ?_;simp only[List.append_assoc,List.cons_append,List.nil_append,eB,hY,List.set_cons_succ,List.set_cons_zero,List.length_append,aM,List.length_cons,List.length_nil,Nat.reduceAdd,Nat.zero_add];refine c8.mI (β:=e.n+2) (k:=11) t94 rfl ?_;simp only[List.append_assoc,List.cons_append,List.nil_append,eB,hY,List.set_cons_succ,List.set_cons_zero,List.length_append,aM,List.length_cons,List.length_nil,Nat.reduceAdd,Nat.zero_add];refine .u6 (fun m st=>∃(q:Nat) (es:List Ex) (ps':List Pl) (gi:Nat) (gp:Nat),(m=ps.length-q∧(q≤ps.length∧aT s.l xs=es++aT s.l (xs.drop q)∧aD s.l xs=ps'++aD s.l (xs.drop q)∧es.length≤q∧ps'.length≤q))∧st=⟨mkS 112 [(0,AV.ptr e.k 0 0),(2,AV.int .i64 t),(4,AV.ptr e.n 0 0),(6,AV.ptr (e.n+1) 0 0),(7,AV.ptr (e.n+2) 0 0),(10,AV.vec ps.length (w4 ps)),(11,AV.int .i64 ((q:Nat):Int))],(hT e (aF e.k s) s.code s.sites)++[⟨0,false,190,11,[.int .i64 4,.str x,.int .i64 0,.int .i64 0,.str ByteArray.empty,.vec 0 [],.str ByteArray.empty,.vec 0 [],.vec xs.length (bE xs),.vec 0 [],.vec 0 []],0⟩,⟨0,false,54,12,[.int .i64 0,.int .i64 0,.bool false,.int .i64 0,.int .i64 0,.str ByteArray.empty,.nils,.bool false,.int .i64 0,.nils,.nils,.nils],0⟩,⟨0,false,54,12,[.int .i64 3,.int .i64 n,.bool false,.int .i64 0,.int .i64 0,.str ByteArray.empty,.nils,.bool false,.int .i64 0,.nils,.own (e.n+4) gi 0 es.length,.own (e.n+5) gp 0 ps'.length],0⟩,⟨0,false,145,3,[.str y,.int .i64 3,.int .i64 n],0⟩,o9 49 4 gi (n4 es),o9 51 3 gp (dQ ps')]⟩) (.v ⟨0,([]:List Ex),([]:List Pl),0,0,⟨rfl,⟨by omega,by simp,by simp,by simp,by simp⟩⟩,rfl⟩ (hr:=t19)) ?_;rintro m sl h' ⟨q,es,ps',gi,gp,⟨hm,⟨hq,hes,hps,hel,hpl⟩⟩,hst⟩;obtain ⟨rfl,rfl⟩:=St.mk.inj hst;clear hst;refine c0z ?_;refine u2z ?_ ?_
  ·intro e2 qe2;refine c2z ?_;have har:=ar_is ha (i:=q) (by omega);refine c13z ?_;refine .c6 [0,2,4,6,7,10,11,12] ?_;refine .ss v9 (mkP 8 [0,1,0,0,12,28,60,127] []) ?_;refine .n [] ?_;refine .spl 84 rfl rfl (fun e3=>by exfalso;have hml2:=(GAs.mu ha).2 q (by omega);simp_all) (fun e3=>?_);try simp only[e3]
   have qe3:=fact e3;refine c17z ?_;refine .c6 [0,2,4,6,7,10,11,12] ?_;refine .z ?_;refine u2z ?_ ?_
   ·intro e4 qe4;have hmu:(xs.getD q dP).mu=true:=by assumption
    refine c50z ?_;refine c33z ?_;refine c166z ?_;refine .cn [true] [64,0] [_] rfl rfl t155 ?_;refine c89z ?_;refine c109z ?_;refine c53z ?_;refine c179z ?_;refine .rz ?_;exact ⟨_,by omega,.v ⟨(q+1),es,(ps'++[rH s.l (xs.getD q dP).r]),gi,(gp+1),⟨rfl,⟨by omega,cEx_t (by omega) hmu hes,cPl_t (by omega) hmu hps,by omega,t60⟩⟩,rfl⟩ (he:=t38) (hl:=t100) (hk:=t32) (hr:=t19)⟩
   intro e4 qe4;have hmu:(xs.getD q dP).mu=false:=by assumption
   refine c50z ?_;refine c33z ?_;refine c166z ?_;refine .cn [true] [64,0] [_] rfl rfl t156 ?_;refine c89z ?_;refine c109z ?_;refine c53z ?_;refine c179z ?_;refine .rz ?_;exact ⟨_,by omega,.v ⟨(q+1),(es++[fV s.l (xs.getD q dP).e]),ps',(gi+1),gp,⟨rfl,⟨by omega,cEx_f (by omega) hmu hes,cPl_f (by omega) hmu hps,t60,by omega⟩⟩,rfl⟩ (he:=t38) (hl:=t100) (hk:=t32) (hr:=t19)⟩
  intro e2 qe2;refine .exit ?_;obtain rfl:q=ps.length:=by omega
  rw[List.drop_of_length_le (by omega)]at hes hps;simp only[aT,aD,List.append_nil]at hes hps;refine c8.nU (γ:=e.n+4) (β:=e.n+2) (k:=10) (len:=es.length) t94 (by rw[bD,Nat.mul_comm]) (by omega) (Ap _) t94 (by omega) rfl ?_;simp only[List.append_assoc,List.cons_append,List.nil_append,eB,hY,List.set_cons_succ,List.set_cons_zero,List.length_append,aM,List.length_cons,List.length_nil,Nat.reduceAdd,Nat.zero_add];refine c8.nU (γ:=e.n+5) (β:=e.n+2) (k:=11) (len:=ps'.length) t94 t207 (by omega) (IL _) t94 (by omega) rfl ?_;simp only[List.append_assoc,List.cons_append,List.nil_append,eB,hY,List.set_cons_succ,List.set_cons_zero,List.length_append,aM,List.length_cons,List.length_nil,Nat.reduceAdd,Nat.zero_add];generalize dY 49 4 gi (n4 es) (es.length*4)=Eb;generalize dY 51 3 gp (dQ ps') (ps'.length*3)=Pb;change c8 ..;refine c229z ?_;exact .ret (.ex (hf:=t2) (hq:=t208))
end
end Go.Proofs.YtonbocmibeikmaaGreat
end
section
namespace Go.Proofs.YtonbocmibeikmaaGreat
open Go.Ab Go.Un
def cG:Sl→Int→List Int
  | .nil,_=>[]
  | .cons k n e r xs th el rest,t=>
    if k=7 then t::(cG th (t+1)++((if 0<el.len then t::cG el (t+1+(th.wt:Int)) else [])++cG rest (t+1+(th.wt:Int)+(el.wt:Int))))
    else if k=8 then t::(cG th (t+1)++(t::cG rest (t+1+(th.wt:Int))))
    else t::cG rest (t+1)
theorem iK:∀(S:Sl) (t:Int),(cG S t).length≤2*S.wt
  | .nil,t=>by simp[cG]
  | .cons k n e r xs th el rest,t=>by
    have h1:=iK th (t+1);have h2:=iK el (t+1+(th.wt:Int));have h3:=iK rest (t+1+(th.wt:Int)+(el.wt:Int));have h4:=iK rest (t+1+(th.wt:Int));have h5:=iK rest (t+1);unfold cG;simp only[Sl.wt];split
    · split<;>simp only[List.length_cons,List.length_append,List.length_nil]<;>omega
    · split<;>simp only[List.length_cons,List.length_append]<;>omega
def sS (c:List Ins)(i:Nat)(v:Int):List Ins:=c.set i { c.getD i g6 with target:=v }
theorem lI {c:List Ins}{i:Nat}{v:Int}:(sS c i v).length=c.length:=by simp[sS]
theorem B4 {c d:List Ins}{x:Ins}{i:Nat}{v:Int}(hi:i=c.length):sS (c++(x::d)) i v=c++({ x with target:=v }::d):=by subst hi;simp[sS,List.getD]
def bJ (s:Sco):Sco:={ s with st:=s.st+1 }
def n9 (s:Sco)(i:Ins)(t:Int):Sco:={ s with code:=s.code++[i],sites:=s.sites++[t] }
def cI (s:Sco)(i:Nat)(v:Int):Sco:={ s with code:=sS s.code i v }
def rL (s:Sco)(n:BA):Sco:={ s with l:=s.l++[⟨n,4,s.loc⟩],loc:=s.loc+1 }
def cO (l0:List Ent)(s:Sco)(S:Sl):Sco:={ s with l:=l0,loc:=fW S s.loc,st:=s.st+(S.wt:Int),code:=s.code++o4 S s.l s.loc s.code.length,sites:=s.sites++cG S s.st }
variable {k:Nat}{s:Sco}
theorem tU {i:Nat}{v:Int}:aF k (cI s i v)=aF k s:=by simp only[aF,cI,lI]
variable {t:Int}
theorem RF {i:Ins}{n:BA}:aF k (rL (n9 (bJ s) i t) n)=⟨0,false,198,10,[.vec s.p.globals.length (r7 s.p.globals),.vec s.p.mutexes.length (c9 s.p.mutexes),.vec s.p.funcs.length (o3 s.p.funcs),.vec (s.l.length+1) (j7 (s.l++[⟨n,4,s.loc⟩])),.int .i64 (s.loc+1),.int .i64 (s.st+1),.int .i64 0,.int .i64 0,.own (k+1) (s.code.length+1) 0 (s.code.length+1),.own (k+2) (s.sites.length+1) 0 (s.sites.length+1)],0⟩:=by simp only[aF,rL,n9,bJ,List.length_append,List.length_cons,List.length_nil,Nat.zero_add]
theorem B5:(aF k s).gen=0:=rfl
theorem vQ:(aF k s).virt=false:=rfl
theorem vR:(aF k s).elem=198:=rfl
theorem B6:(aF k s).esz=10:=rfl
theorem B7:(aF k s).frz=0:=rfl
theorem rM:(aF k s).cells=[.vec s.p.globals.length (r7 s.p.globals),.vec s.p.mutexes.length (c9 s.p.mutexes),.vec s.p.funcs.length (o3 s.p.funcs),.vec s.l.length (j7 s.l),.int .i64 s.loc,.int .i64 s.st,.int .i64 0,.int .i64 0,.own (k+1) s.code.length 0 s.code.length,.own (k+2) s.sites.length 0 s.sites.length]:=rfl
theorem IS:(bJ s).l=s.l:=rfl
theorem AF:(bJ s).loc=s.loc:=rfl
theorem stSt_p:(bJ s).p=s.p:=rfl
theorem gS:(bJ s).code.length=s.code.length:=rfl
theorem eP:(bJ s).sites.length=s.sites.length:=rfl
theorem R7 {i:Ins}:(n9 s i t).l=s.l:=rfl
theorem vS {i:Ins}:(n9 s i t).loc=s.loc:=rfl
theorem AG {i:Ins}:(n9 s i t).st=s.st:=rfl
theorem stPut_p {i:Ins}:(n9 s i t).p=s.p:=rfl
theorem cA {i:Ins}:(n9 s i t).code.length=s.code.length+1:=by simp[n9]
theorem bQ {i:Ins}:(n9 s i t).sites.length=s.sites.length+1:=by simp[n9]
theorem stTgt_l {i:Nat}:(cI s i t).l=s.l:=rfl
theorem kI {i:Nat}:(cI s i t).code.length=s.code.length:=lI
theorem oR {i:Nat}:(cI s i t).sites.length=s.sites.length:=rfl
variable {l0:List Ent}{S:Sl}
theorem finS_l:(cO l0 s S).l=l0:=rfl
theorem finS_p:(cO l0 s S).p=s.p:=rfl
theorem iV:s.code.length≤(cO l0 s S).code.length∧(cO l0 s S).code.length≤s.code.length+2*S.wt:=by have:=eY S s.l s.loc s.code.length;simp only[cO,List.length_append];omega
theorem iL:s.sites.length≤(cO l0 s S).sites.length∧(cO l0 s S).sites.length≤s.sites.length+2*S.wt:=by have:=iK S s.st;simp only[cO,List.length_append];omega
theorem sJ:∀(S:Sl) (n:Int),n≤fW S n∧fW S n≤n+(S.wt:Int)
  | .nil,n=>by simp[fW,Sl.wt]
  | .cons k nm e r xs th el rest,n=>by
    have r1:=sJ rest (n+1);have r2:=sJ rest (fW el (fW th n));have r3:=sJ rest (fW th n);have r4:=sJ rest n;have t1:=sJ th n;have e1:=sJ el (fW th n);simp only[fW,Sl.wt];split
    · omega
    · split
      · omega
      · split<;>omega
structure Bnd (s:Sco)(W:Nat):Prop where
  lp:0<s.l.length
  lb:s.l.length+W≤900
  cb:s.code.length+2*W≤5000
  sb:s.sites.length+2*W≤5000
  o0:0≤s.loc
  ob:s.loc+(W:Int)≤5000
  t0:0≤s.st
  tb:s.st+(W:Int)≤5000
structure Bd (E:Env)(c:Ctx)(p:Go.Un.Pg):Prop where
  hE:E.mutexes=p.mutexes
  hc:c.nm=p.mutexes.length
  hf:E.funcs=p.funcs.map fun f=>(f.name,f.params)
  fp:∀f∈E.funcs,f.2.length≤2
theorem Sco.eq {a b:Sco}(h1:a.p=b.p)(h2:a.l=b.l)(h3:a.loc=b.loc)(h4:a.st=b.st)(h5:a.code=b.code)(h6:a.sites=b.sites):a=b:=by cases a;cases b;simp_all
variable {rest:Sl}
theorem fin_var {n:BA}{e:Ex}:cO l0 (rL (n9 (bJ s) ⟨1,s.loc,false,fV s.l e,bU,[],[]⟩ s.st) n) rest=cO l0 s (.cons 1 n e l9 [] .nil .nil rest):=by
  refine Sco.eq rfl rfl ?_ ?_ ?_ ?_
  · simp only[cO,rL,n9,bJ,fW,if_true]
  · simp only[cO,rL,n9,bJ,Sl.wt];omega
  · simp only[cO,rL,n9,bJ,o4,if_true,List.append_assoc,List.cons_append,List.nil_append,List.length_append,List.length_cons,List.length_nil,Nat.zero_add]
  · simp only[cO,rL,n9,bJ,cG,show ¬(1:Int)=7 from by decide,show ¬(1:Int)=8 from by decide,if_false,List.append_assoc,List.cons_append,List.nil_append]
variable {r:Rf}{xs:List Ar}
theorem rN {i:Ins}{k:Int}{n:BA}{e:Ex}(h:o4 (.cons k n e r xs .nil .nil rest) s.l s.loc s.code.length=i::o4 rest s.l s.loc (s.code.length+1))(hk:k≠1∧k≠7∧k≠8):cO l0 (n9 (bJ s) i s.st) rest=cO l0 s (.cons k n e r xs .nil .nil rest):=by
  refine Sco.eq rfl rfl ?_ ?_ ?_ ?_
  · simp only[cO,n9,bJ,fW,hk.1,hk.2.1,hk.2.2,if_false]
  · simp only[cO,n9,bJ,Sl.wt];omega
  · simp only[cO,h,n9,bJ,List.append_assoc,List.cons_append,List.nil_append,List.length_append,List.length_cons,List.length_nil,Nat.zero_add]
  · simp only[cO,n9,bJ,cG,hk.2.1,hk.2.2,if_false,List.append_assoc,List.cons_append,List.nil_append]
theorem len_nil {s:Sl}:¬0<s.len↔s=.nil:=⟨fun h=>Sl.zO (by omega),fun h=>by subst h;simp[Go.Un.Sl.len]⟩
def dR (s:Sco)(e:Ex)(th:Sl):Sco:=cO s.l (n9 (bJ s) ⟨6,0,false,fV s.l e,bU,[],[]⟩ s.st) th
def stJ (s:Sco)(e:Ex)(th:Sl):Sco:=n9 (dR s e th) ⟨7,0,false,l4,bU,[],[]⟩ s.st
def dS (s:Sco)(e:Ex)(th el:Sl):Sco:=cO s.l (cI (stJ s e th) s.code.length ((stJ s e th).code.length:Int)) el
def D7 (s:Sco)(e:Ex)(th:Sl):Sco:=n9 (dR s e th) ⟨7,((s.code.length:Nat):Int),false,l4,bU,[],[]⟩ s.st
variable {th:Sl}
theorem qD {e:Ex}:(dR s e th).code=s.code++((⟨6,0,false,fV s.l e,bU,[],[]⟩:Ins)::o4 th s.l s.loc (s.code.length+1)):=by simp only[dR,cO,n9,bJ,List.append_assoc,List.cons_append,List.nil_append,List.length_append,List.length_cons,List.length_nil,Nat.zero_add]
theorem qE {e:Ex}:(dR s e th).code.length=s.code.length+1+(o4 th s.l s.loc (s.code.length+1)).length:=by rw[qD];simp;omega
theorem RG {e:Ex}{v:Int}:(cI (stJ s e th) s.code.length v).code=s.code++((⟨6,v,false,fV s.l e,bU,[],[]⟩:Ins)::(o4 th s.l s.loc (s.code.length+1)++[⟨7,0,false,l4,bU,[],[]⟩])):=by simp only[cI,stJ,n9,qD,List.append_assoc,List.cons_append];exact B4 rfl
variable {el:Sl}
theorem vT {e:Ex}:(dS s e th el).code=s.code++((⟨6,((stJ s e th).code.length:Int),false,fV s.l e,bU,[],[]⟩:Ins)::(o4 th s.l s.loc (s.code.length+1)++(⟨7,0,false,l4,bU,[],[]⟩::o4 el s.l (fW th s.loc) ((dR s e th).code.length+1)))):=by
  have h1:(cI (stJ s e th) s.code.length ((stJ s e th).code.length:Int)).code.length=(dR s e th).code.length+1:=by simp only[cI,lI,stJ,n9,List.length_append,List.length_cons,List.length_nil,Nat.zero_add]
  show (cI (stJ s e th) s.code.length ((stJ s e th).code.length:Int)).code++o4 el s.l (fW th s.loc) _=_;rw[h1,RG];simp only[List.append_assoc,List.cons_append,List.nil_append]
theorem stJ_len {e:Ex}:(stJ s e th).code.length=(dR s e th).code.length+1:=by simp[stJ,n9]
theorem DN {e:Ex}:(dS s e th el).code.length=(dR s e th).code.length+1+(o4 el s.l (fW th s.loc) ((dR s e th).code.length+1)).length:=by rw[vT,qE];simp;omega
theorem fin_if {n:BA}{e:Ex}:cO l0 (cI (dR s e th) s.code.length ((dR s e th).code.length:Int)) rest=cO l0 s (.cons 7 n e r xs th .nil rest):=by
  have hne:¬(7:Int)=1∧¬(7:Int)=2∧¬((7:Int)=3∨(7:Int)=4)∧¬(7:Int)=5∧¬(7:Int)=6:=by decide
  have h0:¬0<Sl.nil.len:=by simp[Go.Un.Sl.len]
  refine Sco.eq rfl rfl ?_ ?_ ?_ ?_
  · simp only[cO,cI,dR,n9,bJ,fW,hne.1,if_false,if_true]
  · simp only[cO,cI,dR,n9,bJ,Sl.wt];omega
  · show sS (dR s e th).code s.code.length _++o4 rest s.l (fW th s.loc) (sS (dR s e th).code s.code.length _).length=s.code++o4 _ s.l s.loc s.code.length
    rw[lI,qE,qD,B4 rfl];simp only[o4,fW,hne.1,hne.2.1,hne.2.2.1,hne.2.2.2.1,hne.2.2.2.2,h0,if_false,if_true,List.append_assoc,List.cons_append]
  · show s.sites++[s.st]++cG th (s.st+1)++cG rest (s.st+1+(th.wt:Int))=s.sites++cG _ s.st
    simp only[cG,Sl.wt,h0,if_true,if_false,List.append_assoc,List.cons_append,List.nil_append,Int.natCast_zero,Int.add_zero]
theorem RH {n:BA}{e:Ex}(hel:0<el.len):cO l0 (cI (dS s e th el) (dR s e th).code.length ((dS s e th el).code.length:Int)) rest=cO l0 s (.cons 7 n e r xs th el rest):=by
  have hne:¬(7:Int)=1∧¬(7:Int)=2∧¬((7:Int)=3∨(7:Int)=4)∧¬(7:Int)=5∧¬(7:Int)=6:=by decide
  refine Sco.eq rfl rfl ?_ ?_ ?_ ?_
  · simp only[cO,cI,dS,stJ,dR,n9,bJ,fW,hne.1,if_false,if_true]
  · simp only[cO,cI,dS,stJ,dR,n9,bJ,Sl.wt];omega
  · show sS (dS s e th el).code (dR s e th).code.length _++o4 rest s.l (fW el (fW th s.loc)) (sS (dS s e th el).code (dR s e th).code.length _).length=s.code++o4 _ s.l s.loc s.code.length
    rw[lI,DN,vT];rw[show s.code++((⟨6,((stJ s e th).code.length:Int),false,fV s.l e,bU,[],[]⟩:Ins)::(o4 th s.l s.loc (s.code.length+1)++(⟨7,0,false,l4,bU,[],[]⟩::o4 el s.l (fW th s.loc) ((dR s e th).code.length+1))))=(s.code++((⟨6,((stJ s e th).code.length:Int),false,fV s.l e,bU,[],[]⟩:Ins)::o4 th s.l s.loc (s.code.length+1)))++(⟨7,0,false,l4,bU,[],[]⟩::o4 el s.l (fW th s.loc) ((dR s e th).code.length+1)) from by simp only[List.append_assoc,List.cons_append]];rw[B4 (by rw[qE];simp;omega),stJ_len,qE];simp only[o4,hne.1,hne.2.1,hne.2.2.1,hne.2.2.2.1,hne.2.2.2.2,hel,if_false,if_true,List.append_assoc,List.cons_append]
  · show s.sites++[s.st]++cG th (s.st+1)++[s.st]++cG el (s.st+1+(th.wt:Int))++cG rest (s.st+1+(th.wt:Int)+(el.wt:Int))=s.sites++cG _ s.st
    simp only[cG,hel,if_true,List.append_assoc,List.cons_append,List.nil_append]
theorem fin_wh {n:BA}{e:Ex}:cO l0 (cI (D7 s e th) s.code.length ((D7 s e th).code.length:Int)) rest=cO l0 s (.cons 8 n e r xs th .nil rest):=by
  have hne:¬(8:Int)=1∧¬(8:Int)=2∧¬((8:Int)=3∨(8:Int)=4)∧¬(8:Int)=5∧¬(8:Int)=6∧¬(8:Int)=7:=by decide
  rw[show (D7 s e th).code.length=(dR s e th).code.length+1 from by simp[D7,n9]];refine Sco.eq rfl rfl ?_ ?_ ?_ ?_
  · simp only[cO,cI,D7,dR,n9,bJ,fW,hne.1,hne.2.2.2.2.2,if_false,if_true]
  · simp only[cO,cI,D7,dR,n9,bJ,Sl.wt];omega
  · show sS ((dR s e th).code++[⟨7,((s.code.length:Nat):Int),false,l4,bU,[],[]⟩]) s.code.length _++o4 rest s.l (fW th s.loc) (sS ((dR s e th).code++[⟨7,((s.code.length:Nat):Int),false,l4,bU,[],[]⟩]) s.code.length _).length=s.code++o4 _ s.l s.loc s.code.length
    rw[lI,List.length_append,qE,qD,List.append_assoc,List.cons_append,B4 rfl];simp only[o4,hne.1,hne.2.1,hne.2.2.1,hne.2.2.2.1,hne.2.2.2.2.1,hne.2.2.2.2.2,if_false,if_true,List.append_assoc,List.cons_append,List.nil_append,List.length_cons,List.length_nil,Nat.zero_add]
  · show s.sites++[s.st]++cG th (s.st+1)++[s.st]++cG rest (s.st+1+(th.wt:Int))=s.sites++cG _ s.st
    simp only[cG,hne.2.2.2.2.2,if_true,if_false,List.append_assoc,List.cons_append,List.nil_append]
theorem agg_nil {h:c5}{φ:Map}{w:World}{xs xs':List AV}(hn:oX xs' xs){v:Value}(r:Rel h φ w v (.agg xs)):Rel h φ w v (.agg xs'):=by
  cases r with
  | pure hp=>cases hp
  | agg a _ ha h1 hr=>
    obtain ⟨k1,k2⟩:=hn.get;refine .agg a xs' (by rw[ha,k1]) h1 fun j v y e1 e2=>?_;have hj:j<xs.length:=by rw[←k1];exact (List.getElem?_eq_some_iff.1 e2).1
    have hx:xs[j]?=some xs[j]:=List.getElem?_eq_getElem hj;rcases k2 j y _ e2 hx with rfl | ⟨e3,rfl⟩
    · exact hr j v _ e1 hx
    · exact O8 (e3▸hr j v _ e1 hx)
def Nj:List AV→List AV→Prop
  | [],[]=>True
  | x::xs,y::ys=>(x=y∨∃a b,x=.agg a∧y=.agg b∧oX a b)∧Nj xs ys
  | _,_=>False
theorem Nj.get:∀{xs ys:List AV},Nj xs ys→xs.length=ys.length∧∀(t:Nat) (x y:AV),xs[t]?=some x→ys[t]?=some y→x=y∨∃a b,x=.agg a∧y=.agg b∧oX a b
  | [],[],_=>⟨rfl,fun t x y h=>by simp at h⟩
  | x::xs,y::ys,h=>by
    obtain ⟨h1,h2⟩:=h;obtain ⟨k1,k2⟩:=Nj.get h2;refine ⟨by simp[k1],fun t u v hu hv=>?_⟩
    match t with
    | 0=>simp at hu hv;subst hu;subst hv;exact h1
    | t+1=>exact k2 t u v t136 t143
  | [],_::_,h=>h.elim
  | _::_,[],h=>h.elim
theorem aggArg {f:FuncId}{h:c5}{args args':List AV}{Q:AV→c5→Prop}(ha:Nj args' args)(r:CallA Tryz.prog cfg f args' h Q):CallA Tryz.prog cfg f args h Q:=by
  intro B φ w cargs i hs hr;obtain ⟨k1,k2⟩:=ha.get;refine r B φ w cargs i (by rw[k1];exact hs) fun j v y h1 h2=>?_;have hj:j<args.length:=by rw[←k1];exact (List.getElem?_eq_some_iff.1 h2).1
  have hx:args[j]?=some args[j]:=List.getElem?_eq_getElem hj;rcases k2 j y _ h2 hx with rfl | ⟨a,b,rfl,e2,hn⟩
  · exact hr j v _ h1 hx
  · exact agg_nil hn (e2▸hr j v _ h1 hx)
theorem mO {e:Frm}(hc:s.code.length<10000)(hs:s.sites.length<10000)(i:Ins)(t:Int){zs:List AV}(hz:oX (eK i) zs):CH 134 [.ptr e.k 0 0,.agg zs,.int .i64 t] (hT e (aF e.k s) s.code s.sites) (.int .i64 ((s.code.length:Nat):Int)) (hT e (aF e.k (n9 s i t)) (n9 s i t).code (n9 s i t).sites):=
  aggArg (args':=[.ptr e.k 0 0,.agg (eK i),.int .i64 t]) ⟨.inl rfl,.inr ⟨_,_,rfl,rfl,hz⟩,.inl rfl,trivial⟩ (c_put hc hs i t)
theorem IT:∀{c:List Ins} {i:Nat} {v:Int},i<c.length→List.take (i*12+1) (o6 c)++AV.int .i64 v::List.drop (i*12+1+1) (o6 c)=o6 (sS c i v)
  | x::c,0,v,_=>by
    have e1:o6 (x::c)=eK x++o6 c:=by simp[o6]
    have e2:sS (x::c) 0 v={ x with target:=v }::c:=by simp[sS]
    have e3:o6 ({ x with target:=v }::c)=eK { x with target:=v }++o6 c:=by simp[o6]
    rw[e1,e2,e3];rfl
  | x::c,i+1,v,h=>by
    have ih:=IT (c:=c) (i:=i) (v:=v) (by simpa using h);have e1:o6 (x::c)=eK x++o6 c:=by simp[o6]
    have e2:sS (x::c) (i+1) v=x::sS c i v:=by simp[sS]
    have e3:o6 (x::sS c i v)=eK x++o6 (sS c i v):=by simp[o6]
    have hl:(eK x).length=12:=aS x;rw[e1,e2,e3,←ih,show (i+1)*12+1=(eK x).length+(i*12+1) from by omega,List.take_length_add_append,show (eK x).length+(i*12+1)+1=(eK x).length+(i*12+1+1) from by omega,List.drop_length_add_append,List.append_assoc]
theorem K4 {c:List Ins}(h:0<c.length):o6 c≠[]:=by intro h0;have:=congrArg List.length h0;rw[r8]at this;simp at this;omega
section
variable {e:Frm}{b:Blk}{c:List Ins}{ss:List Int}{l:c5}{v:Int}{i n:Nat}
theorem hT_1na (h:0<c.length):(hT e b c ss++l)[e.k+1]?=some ⟨c.length,false,54,12,o6 c,0⟩:=by rw[QZ,dA (K4 h)]
theorem hT_pn (h:c.length=n)(h0:0<n):(hT e b c ss++l).set (e.k+1) ⟨n,false,54,12,o6 (sS c i v),0⟩=hT e b (sS c i v) ss++l:=by
  subst h;have hl:(sS c i v).length=c.length:=lI;have:o9 54 12 (sS c i v).length (o6 (sS c i v))=⟨c.length,false,54,12,o6 (sS c i v),0⟩:=by rw[dA (K4 (by omega)),hl]
  rw[←this,VZ]
theorem app_cpE {b0 b1 b2:Blk}{es:List Ent}{n:Nat}(hz:es.length=n)(h0:0<n)(hn:n<1000):j6 cfg 145 (hT e b c ss++(b0::b1::b2::⟨1,false,145,3,[],0⟩::l)) (.own (e.n+3) 1 0 0) (.vec n (j7 es))=some (.own (e.n+3) 2 0 n,hT e b c ss++(b0::b1::b2::⟨2,false,145,3,j7 es,0⟩::l)):=by
  subst hz;have e1:cfg.sz 145=3:=rfl;have e2:(cfg.ti 145).bytes=32:=rfl;have hm:es.length≤maxLen:=by
    have:(1000:Nat)≤maxLen:=by decide
    omega
  have hb:es.length*32≤140737488355328:=by omega
  have h1:(j7 es).length=es.length*3:=by rw[s5];omega
  have h2:¬es.length=0:=by omega
  have h3:¬es.length*3=0:=by omega
  simp[j6,rd,lenOf,e1,e2,h1,hm,hb,eB,hY,h0,h2,h3]
theorem app_onE {b0 b1 b2:Blk}{es:List Ent}{x:BA}{k m:Int}{n:Nat}(hz:es.length=n)(hn:n<1000):j6 cfg 145 (hT e b c ss++(b0::b1::b2::⟨2,false,145,3,j7 es,0⟩::⟨1,false,145,3,[.str x,.int .i64 k,.int .i64 m],0⟩::l)) (.own (e.n+3) 2 0 n) (.own (e.n+4) 1 0 1)=some (.own (e.n+3) 3 0 (n+1),hT e b c ss++(b0::b1::b2::⟨3,false,145,3,j7 (es++[⟨x,k,m⟩]),0⟩::⟨1,false,145,3,[.str x,.int .i64 k,.int .i64 m],0⟩::l)):=by
  subst hz;have e1:cfg.sz 145=3:=rfl;have e2:(cfg.ti 145).bytes=32:=rfl;have hm:es.length+1≤maxLen:=by
    have:(1001:Nat)≤maxLen:=by decide
    omega
  have hb:(es.length+1)*32≤140737488355328:=by omega
  have h1:(j7 es).length=es.length*3:=by rw[s5];omega
  have ht:List.take (es.length*3) (j7 es)=j7 es:=List.take_of_length_le (by omega);have hnl:¬(es.length+1)*3≤es.length*3:=by omega
  have hs:j7 (es++[⟨x,k,m⟩])=j7 es++[.str x,.int .i64 k,.int .i64 m]:=by simp[j7,iT]
  simp[j6,rd,lenOf,e1,e2,h1,hm,hb,ht,hnl,eB,hY,hs]
end
theorem rO (l:List Ent):aC (j7 l):=aC.flat fun _=>aC.cons .str (aC.cons .int (aC.cons .int .nil))
theorem stIf_l {e:Ex}:(dR s e th).l=s.l:=rfl
attribute [local go_sem] rd s5 n8 bD cM r8 aS fT dL n6 bA aP l6 bF Int.natCast_nonneg Int.natCast_inj List.length_map wrap64 gA jL jM Y7 J0 Q0 Y8 zY max2 eZ cR bH Nat.reduceMul nA kH iT qB lG vP aM hT_0 hT_2 QY RA eB B1 hY R3 RC Z9 hT_1na hT_pn IT app_cpE app_onE B5 vQ vR B6 B7 rM A5 IS AF stSt_p gS eP R7 vS AG stPut_p cA bQ stTgt_l kI oR finS_l finS_p stIf_l
variable {E:Env}{vs:List BA}{pre:Sl}{W:Nat}
theorem c_blk1 {e:Frm}{c:Ctx}(sc:SC E c vs s.l)(bd:Bd E c s.p)(B:Bnd s W)(hW:1≤W)(j:Nat)(hj:j<24)(hn:vnm j∉vs)(a:Ex)(he:GE vs 2 a):c8 Tryz.prog cfg (rF [1,0,1,0,0,1,0] (jT Tryz.f133)) ⟨mkS 253 [(0,AV.ptr e.k 0 0),(1,AV.vec (Go.Un.Sl.len (pre.app (.cons 1 (vnm j) a l9 [] .nil .nil rest))) (o5 (pre.app (.cons 1 (vnm j) a l9 [] .nil .nil rest)))),(4,AV.vec l0.length (j7 l0)),(5,AV.int .i64 ((pre.len:Nat):Int))],(hT e (aF e.k s) s.code s.sites)⟩ (Led 253 [(0,AV.ptr e.k 0 0),(1,AV.vec (Go.Un.Sl.len (pre.app (.cons 1 (vnm j) a l9 [] .nil .nil rest))) (o5 (pre.app (.cons 1 (vnm j) a l9 [] .nil .nil rest)))),(4,AV.vec l0.length (j7 l0)),(5,AV.int .i64 ((pre.len:Nat):Int))] ((hT e (aF e.k (rL (n9 (bJ s) ⟨1,s.loc,false,fV s.l a,bU,[],[]⟩ s.st) (vnm j))) ((rL (n9 (bJ s) ⟨1,s.loc,false,fV s.l a,bU,[],[]⟩ s.st) (vnm j))).code ((rL (n9 (bJ s) ⟨1,s.loc,false,fV s.l a,bU,[],[]⟩ s.st) (vnm j))).sites))):=by obtain ⟨q1,q2,q3,q4,q5,q6,q7,q8⟩:=B;have hlc:=@z6 pre 1 (vnm j) a l9 [] .nil .nil rest;refine c155z ?_;refine c8.aI (hT e (aF e.k (bJ s)) s.code s.sites++[⟨0,false,190,11,[.int .i64 1,.str (vnm j),.int .i64 a.op,.int .i64 a.num,.str a.name,.vec a.args.length (n4 a.args),.str l9.name,.vec l9.idx.length (n4 l9.idx),.vec (([]:List Ar)).length (bE ([]:List Ar)),.vec (Go.Un.Sl.len Go.Un.Sl.nil) (o5 Go.Un.Sl.nil),.vec (Go.Un.Sl.len Go.Un.Sl.nil) (o5 Go.Un.Sl.nil)],0⟩]) rfl ?_;refine c19z ?_;refine .c6 [0,1,4,5,6,7,41] ?_;refine c106z ?_;refine .seq ?_;refine c26z ?_;refine c112z ?_;refine .cl rfl rfl (fun _=>IM (sc.fr j hj hn) (by omega)) ?_;refine c240z ?_;refine .c6 [0,1,4,5,6,7,9] ?_;refine c9z ?_;refine .sk ?_;refine c25z ?_;refine .ch rfl rfl (gC (RE (s:=bJ s) t126 s.st sc.var he _)) ?_;refine .n ?_;refine .sg v9 (mkH 9 [0,0,2,6,14,0,62,0,255] [8] [] [0,256] []) 0 ?_;refine z5.aI t25 ?_;refine c167z ?_;refine .rn [true] ?_;refine .p 2 ?_;refine .cn [true] [256,0] [_] rfl rfl (by simp only[kQ,and_true,List.cons_append,List.nil_append];exact gC (mO t47 t44 ⟨1,s.loc,false,fV s.l a,bU,[],[]⟩ s.st t24)) ?_;refine z5.nil rfl ?_;refine .c6 [0,1,4,5,6] ?_;refine .sg v9 (mkH 19 [0,0,0,4,12,28,62,0,128,0,512,1536,3584,8064,16256,32766,65535,131071,262143] [1,6,14,15,18] [(1,0),(14,1)] [0,2,66,16384,16386,16450,49218,311362] [0,1,2,3,4,5,6]) 2 ?_;refine .p 1 ?_;refine .em [true] [2,0] [_] ?_;refine .p 3 ?_;refine .rm [true,true] ?_;refine .em [true,false] [66,2,0] [_] ?_;refine .p 1 ?_;refine .rn [true,true,true] ?_;refine .p 3 ?_;refine .rn [true,true,true] ?_;refine .p 1 ?_;refine .en [true,true,true] [16450,16386,16384,66,2,0] [_,_,_] ?_;refine .en [true,false,false,false,false,false] [49218,16450,16386,16384,66,2,0] [_] ?_;refine .p 2 ?_;refine .en [true,false,false,false,false,false,false] [311362,49218,16450,16386,16384,66,2,0] [_] ?_;refine .po [false,false,false,true,false,false,true,false] ?_;refine .po [false,false,false,true,true,false,true,true] ?_;refine .po [false,false,false,false,true,false,false,true] ?_;refine z5.nil rfl ?_;refine .c6 [0,1,4,5] ?_;refine c8.G9 (γ:=e.n+3) (β:=e.k) (k:=3) (off:=0) (len:=s.l.length+1) (cs:=j7 (s.l++[⟨vnm j,4,s.loc⟩])) t94 rfl t179 (by rw[List.drop_zero,List.take_of_length_le t179];exact (rO _).UW) (by simp only[QY];rfl) (by have:=e.lt;omega) rfl ?_;simp only[hY,Z9,List.set_cons_succ,List.set_cons_zero];refine .rz ?_;exact .mk _ (by rw[RF];rfl)
theorem c_blk2 {e:Frm}{c:Ctx}(sc:SC E c vs s.l)(bd:Bd E c s.p)(B:Bnd s W)(hW:1≤W)(n:BA)(hn:n∈vs)(a:Ex)(he:GE vs 2 a):c8 Tryz.prog cfg (rF [1,0,1,0,0,1,0] (jT Tryz.f133)) ⟨mkS 253 [(0,AV.ptr e.k 0 0),(1,AV.vec (Go.Un.Sl.len (pre.app (.cons 2 n a l9 [] .nil .nil rest))) (o5 (pre.app (.cons 2 n a l9 [] .nil .nil rest)))),(4,AV.vec l0.length (j7 l0)),(5,AV.int .i64 ((pre.len:Nat):Int))],(hT e (aF e.k s) s.code s.sites)⟩ (Led 253 [(0,AV.ptr e.k 0 0),(1,AV.vec (Go.Un.Sl.len (pre.app (.cons 2 n a l9 [] .nil .nil rest))) (o5 (pre.app (.cons 2 n a l9 [] .nil .nil rest)))),(4,AV.vec l0.length (j7 l0)),(5,AV.int .i64 ((pre.len:Nat):Int))] ((hT e (aF e.k (n9 (bJ s) ⟨1,(eV s.l n).n,(eV s.l n).kind==1,fV s.l a,bU,[],[]⟩ s.st)) ((n9 (bJ s) ⟨1,(eV s.l n).n,(eV s.l n).kind==1,fV s.l a,bU,[],[]⟩ s.st)).code ((n9 (bJ s) ⟨1,(eV s.l n).n,(eV s.l n).kind==1,fV s.l a,bU,[],[]⟩ s.st)).sites))):=by obtain ⟨q1,q2,q3,q4,q5,q6,q7,q8⟩:=B;have hlc:=@z6 pre 2 n a l9 [] .nil .nil rest;obtain ⟨v,hv1,hv2⟩:=sc.var n hn;refine c155z ?_;refine c8.aI (hT e (aF e.k (bJ s)) s.code s.sites++[⟨0,false,190,11,[.int .i64 2,.str n,.int .i64 a.op,.int .i64 a.num,.str a.name,.vec a.args.length (n4 a.args),.str l9.name,.vec l9.idx.length (n4 l9.idx),.vec (([]:List Ar)).length (bE ([]:List Ar)),.vec (Go.Un.Sl.len Go.Un.Sl.nil) (o5 Go.Un.Sl.nil),.vec (Go.Un.Sl.len Go.Un.Sl.nil) (o5 Go.Un.Sl.nil)],0⟩]) rfl ?_;refine c168z ?_;refine c106z ?_;refine c25z ?_;refine .ch rfl rfl (gC (c_var (s:=bJ s) t126 s.st hv1 hv2)) ?_;refine .n ?_;refine .c6 [0,1,4,5,6,7,11] ?_;refine .og v9 (mkH 14 [0,0,2,0,8,24,0,0,128,0,960,2046,0,8191] [10,13] [] [0,1024,9216] [0,1,2,3,4,5]) 0 ?_;refine z5.aI t25 ?_;refine .p 2 ?_;refine c112z ?_;refine c96z ?_;refine .p 1 ?_;refine .cn [true] [1024,0] [_] rfl rfl (by simp only[kQ,and_true,List.cons_append,List.nil_append];exact gC (RE (s:=bJ s) t126 s.st sc.var he _)) ?_;refine .p 2 ?_;refine .cn [true,false] [9216,1024,0] [_] rfl rfl (by simp only[kQ,and_true,List.cons_append,List.nil_append];exact gC (mO t47 t44 ⟨1,v.n,v.kind==1,fV s.l a,bU,[],[]⟩ s.st t24)) ?_;refine c150z ?_;exact .mk _ (by rw[eE hv1])
theorem c_blk3 {e:Frm}{c:Ctx}(sc:SC E c vs s.l)(bd:Bd E c s.p)(B:Bnd s W)(hW:1≤W)(f:BA×List Pm)(hf:f∈E.funcs)(xs:List Ar)(ha:GAs E vs f.2 xs):c8 Tryz.prog cfg (rF [1,0,1,0,0,1,0] (jT Tryz.f133)) ⟨mkS 253 [(0,AV.ptr e.k 0 0),(1,AV.vec (Go.Un.Sl.len (pre.app (.cons 3 f.1 l4 l9 xs .nil .nil rest))) (o5 (pre.app (.cons 3 f.1 l4 l9 xs .nil .nil rest)))),(4,AV.vec l0.length (j7 l0)),(5,AV.int .i64 ((pre.len:Nat):Int))],(hT e (aF e.k s) s.code s.sites)⟩ (Led 253 [(0,AV.ptr e.k 0 0),(1,AV.vec (Go.Un.Sl.len (pre.app (.cons 3 f.1 l4 l9 xs .nil .nil rest))) (o5 (pre.app (.cons 3 f.1 l4 l9 xs .nil .nil rest)))),(4,AV.vec l0.length (j7 l0)),(5,AV.int .i64 ((pre.len:Nat):Int))] ((hT e (aF e.k (n9 (bJ s) ⟨2,(eV s.l f.1).n,false,l4,bU,aT s.l xs,aD s.l xs⟩ s.st)) ((n9 (bJ s) ⟨2,(eV s.l f.1).n,false,l4,bU,aT s.l xs,aD s.l xs⟩ s.st)).code ((n9 (bJ s) ⟨2,(eV s.l f.1).n,false,l4,bU,aT s.l xs,aD s.l xs⟩ s.st)).sites))):=by
  obtain ⟨q1,q2,q3,q4,q5,q6,q7,q8⟩:=B;have hlc:=@z6 pre 3 f.1 l4 l9 xs .nil .nil rest;obtain ⟨⟨fy,fk,fn⟩,hf1,hfk,hf5,hf6,hf7⟩:=sc.fn f hf;simp only at hfk hf5 hf6 hf7;subst hfk;have hf2:0≤fn∧fn<s.p.funcs.length:=by rw[bd.hf,List.length_map]at hf6;exact ⟨hf5,hf6⟩
  have hf3:(s.p.funcs.getD fn.toNat j5).params=f.2:=by rw[bd.hf,getD_map (d':=j5) (by omega)]at hf7;rw[←hf7]
  have hf4:=bd.fp f hf;refine c155z ?_;refine c8.aI (hT e (aF e.k (bJ s)) s.code s.sites++[⟨0,false,190,11,[.int .i64 3,.str f.1,.int .i64 l4.op,.int .i64 l4.num,.str l4.name,.vec l4.args.length (n4 l4.args),.str l9.name,.vec l9.idx.length (n4 l9.idx),.vec (xs).length (bE xs),.vec (Go.Un.Sl.len Go.Un.Sl.nil) (o5 Go.Un.Sl.nil),.vec (Go.Un.Sl.len Go.Un.Sl.nil) (o5 Go.Un.Sl.nil)],0⟩]) rfl ?_;refine c189z ?_;refine .T ?_;refine .sk ?_;refine .T ?_;refine c145z ?_;refine .ch rfl rfl (gC (c_call3 (s:=bJ s) t126 s.st sc bd.hE bd.hc hf1 hf2 hf3 hf4 ha)) ?_;refine .e 1 ?_;refine .ch rfl rfl (gC (mO t47 t44 ⟨2,fn,false,l4,bU,aT s.l xs,aD s.l xs⟩ s.st t24)) ?_;refine .nil ?_;exact .mk _ (by rw[eE hf1])
theorem c_blk4 {e:Frm}{c:Ctx}(sc:SC E c vs s.l)(bd:Bd E c s.p)(B:Bnd s W)(hW:1≤W)(f:BA×List Pm)(hf:f∈E.funcs)(xs:List Ar)(ha:GAs E vs f.2 xs):c8 Tryz.prog cfg (rF [1,0,1,0,0,1,0] (jT Tryz.f133)) ⟨mkS 253 [(0,AV.ptr e.k 0 0),(1,AV.vec (Go.Un.Sl.len (pre.app (.cons 4 f.1 l4 l9 xs .nil .nil rest))) (o5 (pre.app (.cons 4 f.1 l4 l9 xs .nil .nil rest)))),(4,AV.vec l0.length (j7 l0)),(5,AV.int .i64 ((pre.len:Nat):Int))],(hT e (aF e.k s) s.code s.sites)⟩ (Led 253 [(0,AV.ptr e.k 0 0),(1,AV.vec (Go.Un.Sl.len (pre.app (.cons 4 f.1 l4 l9 xs .nil .nil rest))) (o5 (pre.app (.cons 4 f.1 l4 l9 xs .nil .nil rest)))),(4,AV.vec l0.length (j7 l0)),(5,AV.int .i64 ((pre.len:Nat):Int))] ((hT e (aF e.k (n9 (bJ s) ⟨3,(eV s.l f.1).n,false,l4,bU,aT s.l xs,aD s.l xs⟩ s.st)) ((n9 (bJ s) ⟨3,(eV s.l f.1).n,false,l4,bU,aT s.l xs,aD s.l xs⟩ s.st)).code ((n9 (bJ s) ⟨3,(eV s.l f.1).n,false,l4,bU,aT s.l xs,aD s.l xs⟩ s.st)).sites))):=by
  obtain ⟨q1,q2,q3,q4,q5,q6,q7,q8⟩:=B;have hlc:=@z6 pre 4 f.1 l4 l9 xs .nil .nil rest;obtain ⟨⟨fy,fk,fn⟩,hf1,hfk,hf5,hf6,hf7⟩:=sc.fn f hf;simp only at hfk hf5 hf6 hf7;subst hfk;have hf2:0≤fn∧fn<s.p.funcs.length:=by rw[bd.hf,List.length_map]at hf6;exact ⟨hf5,hf6⟩
  have hf3:(s.p.funcs.getD fn.toNat j5).params=f.2:=by rw[bd.hf,getD_map (d':=j5) (by omega)]at hf7;rw[←hf7]
  have hf4:=bd.fp f hf;refine c155z ?_;refine c8.aI (hT e (aF e.k (bJ s)) s.code s.sites++[⟨0,false,190,11,[.int .i64 4,.str f.1,.int .i64 l4.op,.int .i64 l4.num,.str l4.name,.vec l4.args.length (n4 l4.args),.str l9.name,.vec l9.idx.length (n4 l9.idx),.vec (xs).length (bE xs),.vec (Go.Un.Sl.len Go.Un.Sl.nil) (o5 Go.Un.Sl.nil),.vec (Go.Un.Sl.len Go.Un.Sl.nil) (o5 Go.Un.Sl.nil)],0⟩]) rfl ?_;refine c220z ?_;refine .T ?_;refine .c6 [0,1,4,5,6,7] ?_;refine c145z ?_;refine .ch rfl rfl (gC (c_call4 (s:=bJ s) t126 s.st sc bd.hE bd.hc hf1 hf2 hf3 hf4 ha)) ?_;refine .e 1 ?_;refine .ch rfl rfl (gC (mO t47 t44 ⟨3,fn,false,l4,bU,aT s.l xs,aD s.l xs⟩ s.st t24)) ?_;refine .nil ?_;exact .mk _ (by rw[eE hf1])
theorem c_blk5 {e:Frm}{c:Ctx}(sc:SC E c vs s.l)(bd:Bd E c s.p)(B:Bnd s W)(hW:1≤W)(r:Rf)(hR:GR E vs r):c8 Tryz.prog cfg (rF [1,0,1,0,0,1,0] (jT Tryz.f133)) ⟨mkS 253 [(0,AV.ptr e.k 0 0),(1,AV.vec (Go.Un.Sl.len (pre.app (.cons 5 ByteArray.empty l4 r [] .nil .nil rest))) (o5 (pre.app (.cons 5 ByteArray.empty l4 r [] .nil .nil rest)))),(4,AV.vec l0.length (j7 l0)),(5,AV.int .i64 ((pre.len:Nat):Int))],(hT e (aF e.k s) s.code s.sites)⟩ (Led 253 [(0,AV.ptr e.k 0 0),(1,AV.vec (Go.Un.Sl.len (pre.app (.cons 5 ByteArray.empty l4 r [] .nil .nil rest))) (o5 (pre.app (.cons 5 ByteArray.empty l4 r [] .nil .nil rest)))),(4,AV.vec l0.length (j7 l0)),(5,AV.int .i64 ((pre.len:Nat):Int))] ((hT e (aF e.k (n9 (bJ s) ⟨4,0,false,l4,rH s.l r,[],[]⟩ s.st)) ((n9 (bJ s) ⟨4,0,false,l4,rH s.l r,[],[]⟩ s.st)).code ((n9 (bJ s) ⟨4,0,false,l4,rH s.l r,[],[]⟩ s.st)).sites))):=by obtain ⟨q1,q2,q3,q4,q5,q6,q7,q8⟩:=B;have hlc:=@z6 pre 5 ByteArray.empty l4 r [] .nil .nil rest;refine c155z ?_;refine c8.aI (hT e (aF e.k (bJ s)) s.code s.sites++[⟨0,false,190,11,[.int .i64 5,.str ByteArray.empty,.int .i64 l4.op,.int .i64 l4.num,.str l4.name,.vec l4.args.length (n4 l4.args),.str r.name,.vec r.idx.length (n4 r.idx),.vec (([]:List Ar)).length (bE ([]:List Ar)),.vec (Go.Un.Sl.len Go.Un.Sl.nil) (o5 Go.Un.Sl.nil),.vec (Go.Un.Sl.len Go.Un.Sl.nil) (o5 Go.Un.Sl.nil)],0⟩]) rfl ?_;refine c250z ?_;refine c106z ?_;refine .c6 [0,1,4,5,6,7] ?_;refine .r ?_;refine .e 5 ?_;refine .ch rfl rfl (gC (IQ (s:=bJ s) t126 s.st sc bd.hE bd.hc hR)) ?_;refine .e 2 ?_;refine .ch rfl rfl (gC (mO t47 t44 ⟨4,0,false,l4,rH s.l r,[],[]⟩ s.st t24)) ?_;refine .nil ?_;exact .mk _ rfl
theorem c_blk6 {e:Frm}{c:Ctx}(sc:SC E c vs s.l)(bd:Bd E c s.p)(B:Bnd s W)(hW:1≤W)(r:Rf)(hR:GR E vs r):c8 Tryz.prog cfg (rF [1,0,1,0,0,1,0] (jT Tryz.f133)) ⟨mkS 253 [(0,AV.ptr e.k 0 0),(1,AV.vec (Go.Un.Sl.len (pre.app (.cons 6 ByteArray.empty l4 r [] .nil .nil rest))) (o5 (pre.app (.cons 6 ByteArray.empty l4 r [] .nil .nil rest)))),(4,AV.vec l0.length (j7 l0)),(5,AV.int .i64 ((pre.len:Nat):Int))],(hT e (aF e.k s) s.code s.sites)⟩ (Led 253 [(0,AV.ptr e.k 0 0),(1,AV.vec (Go.Un.Sl.len (pre.app (.cons 6 ByteArray.empty l4 r [] .nil .nil rest))) (o5 (pre.app (.cons 6 ByteArray.empty l4 r [] .nil .nil rest)))),(4,AV.vec l0.length (j7 l0)),(5,AV.int .i64 ((pre.len:Nat):Int))] ((hT e (aF e.k (n9 (bJ s) ⟨5,0,false,l4,rH s.l r,[],[]⟩ s.st)) ((n9 (bJ s) ⟨5,0,false,l4,rH s.l r,[],[]⟩ s.st)).code ((n9 (bJ s) ⟨5,0,false,l4,rH s.l r,[],[]⟩ s.st)).sites))):=by obtain ⟨q1,q2,q3,q4,q5,q6,q7,q8⟩:=B;have hlc:=@z6 pre 6 ByteArray.empty l4 r [] .nil .nil rest;refine c155z ?_;refine c8.aI (hT e (aF e.k (bJ s)) s.code s.sites++[⟨0,false,190,11,[.int .i64 6,.str ByteArray.empty,.int .i64 l4.op,.int .i64 l4.num,.str l4.name,.vec l4.args.length (n4 l4.args),.str r.name,.vec r.idx.length (n4 r.idx),.vec (([]:List Ar)).length (bE ([]:List Ar)),.vec (Go.Un.Sl.len Go.Un.Sl.nil) (o5 Go.Un.Sl.nil),.vec (Go.Un.Sl.len Go.Un.Sl.nil) (o5 Go.Un.Sl.nil)],0⟩]) rfl ?_;refine c250z ?_;refine c9z ?_;refine .c6 [0,1,4,5,6,7,41] ?_;refine c106z ?_;refine .r ?_;refine .e 5 ?_;refine .ch rfl rfl (gC (IQ (s:=bJ s) t126 s.st sc bd.hE bd.hc hR)) ?_;refine .e 2 ?_;refine .ch rfl rfl (gC (mO t47 t44 ⟨5,0,false,l4,rH s.l r,[],[]⟩ s.st t24)) ?_;refine .nil ?_;exact .mk _ rfl
theorem c_blk7 {e:Frm}{c:Ctx}(sc:SC E c vs s.l)(bd:Bd E c s.p)(B:Bnd s W)(a:Ex)(he:GE vs 2 a)(th:Sl)(hW:1+th.wt≤W)(ith:(∀s':Sco,SC E c vs s'.l→s'.p=s.p→Bnd s' th.wt→∀e:Frm,CH 133 [.ptr e.k 0 0,.vec th.len (o5 th)] (hT e (aF e.k s') (s').code (s').sites) (.tup []) (hT e (aF e.k (cO s'.l s' th)) ((cO s'.l s' th)).code ((cO s'.l s' th)).sites))):c8 Tryz.prog cfg (rF [1,0,1,0,0,1,0] (jT Tryz.f133)) ⟨mkS 253 [(0,AV.ptr e.k 0 0),(1,AV.vec (Go.Un.Sl.len (pre.app (.cons 7 ByteArray.empty a l9 [] th .nil rest))) (o5 (pre.app (.cons 7 ByteArray.empty a l9 [] th .nil rest)))),(4,AV.vec l0.length (j7 l0)),(5,AV.int .i64 ((pre.len:Nat):Int))],(hT e (aF e.k s) s.code s.sites)⟩ (Led 253 [(0,AV.ptr e.k 0 0),(1,AV.vec (Go.Un.Sl.len (pre.app (.cons 7 ByteArray.empty a l9 [] th .nil rest))) (o5 (pre.app (.cons 7 ByteArray.empty a l9 [] th .nil rest)))),(4,AV.vec l0.length (j7 l0)),(5,AV.int .i64 ((pre.len:Nat):Int))] ((hT e (aF e.k (cI (dR s a th) s.code.length ((dR s a th).code.length:Int))) ((cI (dR s a th) s.code.length ((dR s a th).code.length:Int))).code ((cI (dR s a th) s.code.length ((dR s a th).code.length:Int))).sites))):=by obtain ⟨q1,q2,q3,q4,q5,q6,q7,q8⟩:=B;have hlc:=@z6 pre 7 ByteArray.empty a l9 [] th .nil rest;refine c155z ?_;refine c8.aI (hT e (aF e.k (bJ s)) s.code s.sites++[⟨0,false,190,11,[.int .i64 7,.str ByteArray.empty,.int .i64 a.op,.int .i64 a.num,.str a.name,.vec a.args.length (n4 a.args),.str l9.name,.vec l9.idx.length (n4 l9.idx),.vec (([]:List Ar)).length (bE ([]:List Ar)),.vec (Go.Un.Sl.len th) (o5 th),.vec (Go.Un.Sl.len Go.Un.Sl.nil) (o5 Go.Un.Sl.nil)],0⟩]) rfl ?_;refine c250z ?_;refine c9z ?_;refine c38z ?_;refine c106z ?_;refine c24z ?_;refine c151z ?_;refine .n ?_;refine .c6 [0,1,4,5,6,7,12] ?_;have b1:Bnd (n9 (bJ s) ⟨6,0,false,fV s.l a,bU,[],[]⟩ s.st) th.wt:=⟨q1,t185,t168,t161,q5,t172,t163,t145⟩;refine c98z ?_;refine .nil ?_;have fc:=iV (l0:=s.l) (s:=n9 (bJ s) ⟨6,0,false,fV s.l a,bU,[],[]⟩ s.st) (S:=th);have fs:=iL (l0:=s.l) (s:=n9 (bJ s) ⟨6,0,false,fV s.l a,bU,[],[]⟩ s.st) (S:=th);rw[cA,gS]at fc;rw[bQ,eP]at fs;change _≤(dR s a th).code.length∧(dR s a th).code.length≤_ at fc;change _≤(dR s a th).sites.length∧(dR s a th).sites.length≤_ at fs;change c8 _ _ _ ⟨mkS _ _,hT e (aF e.k (dR s a th)) (dR s a th).code (dR s a th).sites++_⟩ _;refine c9z ?_;refine .c6 [0,1,4,5,12] ?_;refine c110z ?_;refine c167z ?_;refine .p 3 ?_;refine c172z ?_;exact .mk _ (by rw[tU];rfl)
theorem c_blk17 {e:Frm}{c:Ctx}(sc:SC E c vs s.l)(bd:Bd E c s.p)(B:Bnd s W)(a:Ex)(he:GE vs 2 a)(th el:Sl)(hel:0<el.len)(hW:1+th.wt+el.wt≤W)(ith:(∀s':Sco,SC E c vs s'.l→s'.p=s.p→Bnd s' th.wt→∀e:Frm,CH 133 [.ptr e.k 0 0,.vec th.len (o5 th)] (hT e (aF e.k s') (s').code (s').sites) (.tup []) (hT e (aF e.k (cO s'.l s' th)) ((cO s'.l s' th)).code ((cO s'.l s' th)).sites)))(iel:(∀s':Sco,SC E c vs s'.l→s'.p=s.p→Bnd s' el.wt→∀e:Frm,CH 133 [.ptr e.k 0 0,.vec el.len (o5 el)] (hT e (aF e.k s') (s').code (s').sites) (.tup []) (hT e (aF e.k (cO s'.l s' el)) ((cO s'.l s' el)).code ((cO s'.l s' el)).sites))):c8 Tryz.prog cfg (rF [1,0,1,0,0,1,0] (jT Tryz.f133)) ⟨mkS 253 [(0,AV.ptr e.k 0 0),(1,AV.vec (Go.Un.Sl.len (pre.app (.cons 7 ByteArray.empty a l9 [] th el rest))) (o5 (pre.app (.cons 7 ByteArray.empty a l9 [] th el rest)))),(4,AV.vec l0.length (j7 l0)),(5,AV.int .i64 ((pre.len:Nat):Int))],(hT e (aF e.k s) s.code s.sites)⟩ (Led 253 [(0,AV.ptr e.k 0 0),(1,AV.vec (Go.Un.Sl.len (pre.app (.cons 7 ByteArray.empty a l9 [] th el rest))) (o5 (pre.app (.cons 7 ByteArray.empty a l9 [] th el rest)))),(4,AV.vec l0.length (j7 l0)),(5,AV.int .i64 ((pre.len:Nat):Int))] ((hT e (aF e.k (cI (dS s a th el) (dR s a th).code.length ((dS s a th el).code.length:Int))) ((cI (dS s a th el) (dR s a th).code.length ((dS s a th el).code.length:Int))).code ((cI (dS s a th el) (dR s a th).code.length ((dS s a th el).code.length:Int))).sites))):=by
  obtain ⟨q1,q2,q3,q4,q5,q6,q7,q8⟩:=B;have hlc:=@z6 pre 7 ByteArray.empty a l9 [] th el rest;refine c155z ?_;refine c8.aI (hT e (aF e.k (bJ s)) s.code s.sites++[⟨0,false,190,11,[.int .i64 7,.str ByteArray.empty,.int .i64 a.op,.int .i64 a.num,.str a.name,.vec a.args.length (n4 a.args),.str l9.name,.vec l9.idx.length (n4 l9.idx),.vec (([]:List Ar)).length (bE ([]:List Ar)),.vec (Go.Un.Sl.len th) (o5 th),.vec (Go.Un.Sl.len el) (o5 el)],0⟩]) rfl ?_;refine c250z ?_;refine c9z ?_;refine c38z ?_;refine c106z ?_;refine c24z ?_;refine c151z ?_;refine .n ?_;refine .c6 [0,1,4,5,6,7,12] ?_;have b1:Bnd (n9 (bJ s) ⟨6,0,false,fV s.l a,bU,[],[]⟩ s.st) th.wt:=⟨q1,t185,t168,t161,q5,t172,t163,t145⟩;refine c98z ?_;refine .nil ?_;have fc:=iV (l0:=s.l) (s:=n9 (bJ s) ⟨6,0,false,fV s.l a,bU,[],[]⟩ s.st) (S:=th);have fs:=iL (l0:=s.l) (s:=n9 (bJ s) ⟨6,0,false,fV s.l a,bU,[],[]⟩ s.st) (S:=th);rw[cA,gS]at fc;rw[bQ,eP]at fs;change _≤(dR s a th).code.length∧(dR s a th).code.length≤_ at fc;change _≤(dR s a th).sites.length∧(dR s a th).sites.length≤_ at fs;change c8 _ _ _ ⟨mkS _ _,hT e (aF e.k (dR s a th)) (dR s a th).code (dR s a th).sites++_⟩ _;refine .z ?_;refine uTbz ?_;intro e1 qe1;refine .c6 [0,1,4,5,6,7,12] ?_;refine c14z ?_;refine .ch rfl rfl (gC (mO t47 t44 ⟨7,0,false,l4,bU,[],[]⟩ s.st t24)) ?_;refine .n ?_;change c8 _ _ _ ⟨mkS _ _,hT e (aF e.k (stJ s a th)) (stJ s a th).code (stJ s a th).sites++_⟩ _;have jc:(stJ s a th).code.length=(dR s a th).code.length+1:=cA;have js:(stJ s a th).sites.length=(dR s a th).sites.length+1:=bQ;refine .sg v9 (mkH 13 [0,1,3,7,0,0,32,96,224,480,1023,2047,4095] [12] [] [0,4096] []) 0 ?_;refine c96z ?_;refine c167z ?_;refine .p 3 ?_;refine c172z ?_;refine .c6 [0,1,4,5,6,13] ?_;refine c8.aI (hT e (aF e.k (cI (stJ s a th) s.code.length ((stJ s a th).code.length:Int))) (cI (stJ s a th) s.code.length ((stJ s a th).code.length:Int)).code (cI (stJ s a th) s.code.length ((stJ s a th).code.length:Int)).sites++[_]) (by rw[tU];rfl) ?_;have lb:=sJ th s.loc;have b2:Bnd (cI (stJ s a th) s.code.length ((stJ s a th).code.length:Int)) el.wt:=⟨q1,by show s.l.length+_≤_;omega,by rw[kI,jc];omega,by rw[oR,js];omega,by show 0≤fW th s.loc;omega,by show fW th s.loc+_≤_;omega,by show 0≤s.st+1+(th.wt:Int);omega,by show s.st+1+(th.wt:Int)+_≤_;omega⟩;refine c14z ?_;refine .ch rfl rfl (gC (iel (cI (stJ s a th) s.code.length ((stJ s a th).code.length:Int)) sc rfl b2 _)) ?_;refine .nil ?_;have ec:(stJ s a th).code.length≤(dS s a th el).code.length∧(dS s a th el).code.length≤(stJ s a th).code.length+2*el.wt:=by have h0:=iV (l0:=s.l) (s:=(cI (stJ s a th) s.code.length ((stJ s a th).code.length:Int))) (S:=el);rw[kI]at h0;exact h0
  change c8 _ _ _ ⟨mkS _ _,hT e (aF e.k (dS s a th el)) (dS s a th el).code (dS s a th el).sites++_⟩ _;refine c110z ?_;refine c167z ?_;refine .p 3 ?_;refine c172z ?_;exact .mk _ (by rw[tU];rfl)
theorem c_blk8 {e:Frm}{c:Ctx}(sc:SC E c vs s.l)(bd:Bd E c s.p)(B:Bnd s W)(a:Ex)(he:GE vs 2 a)(th:Sl)(hW:1+th.wt≤W)(ith:(∀s':Sco,SC E c vs s'.l→s'.p=s.p→Bnd s' th.wt→∀e:Frm,CH 133 [.ptr e.k 0 0,.vec th.len (o5 th)] (hT e (aF e.k s') (s').code (s').sites) (.tup []) (hT e (aF e.k (cO s'.l s' th)) ((cO s'.l s' th)).code ((cO s'.l s' th)).sites))):c8 Tryz.prog cfg (rF [1,0,1,0,0,1,0] (jT Tryz.f133)) ⟨mkS 253 [(0,AV.ptr e.k 0 0),(1,AV.vec (Go.Un.Sl.len (pre.app (.cons 8 ByteArray.empty a l9 [] th .nil rest))) (o5 (pre.app (.cons 8 ByteArray.empty a l9 [] th .nil rest)))),(4,AV.vec l0.length (j7 l0)),(5,AV.int .i64 ((pre.len:Nat):Int))],(hT e (aF e.k s) s.code s.sites)⟩ (Led 253 [(0,AV.ptr e.k 0 0),(1,AV.vec (Go.Un.Sl.len (pre.app (.cons 8 ByteArray.empty a l9 [] th .nil rest))) (o5 (pre.app (.cons 8 ByteArray.empty a l9 [] th .nil rest)))),(4,AV.vec l0.length (j7 l0)),(5,AV.int .i64 ((pre.len:Nat):Int))] ((hT e (aF e.k (cI (D7 s a th) s.code.length ((D7 s a th).code.length:Int))) ((cI (D7 s a th) s.code.length ((D7 s a th).code.length:Int))).code ((cI (D7 s a th) s.code.length ((D7 s a th).code.length:Int))).sites))):=by obtain ⟨q1,q2,q3,q4,q5,q6,q7,q8⟩:=B;have hlc:=@z6 pre 8 ByteArray.empty a l9 [] th .nil rest;refine c155z ?_;refine c8.aI (hT e (aF e.k (bJ s)) s.code s.sites++[⟨0,false,190,11,[.int .i64 8,.str ByteArray.empty,.int .i64 a.op,.int .i64 a.num,.str a.name,.vec a.args.length (n4 a.args),.str l9.name,.vec l9.idx.length (n4 l9.idx),.vec (([]:List Ar)).length (bE ([]:List Ar)),.vec (Go.Un.Sl.len th) (o5 th),.vec (Go.Un.Sl.len Go.Un.Sl.nil) (o5 Go.Un.Sl.nil)],0⟩]) rfl ?_;refine c250z ?_;refine c9z ?_;refine c38z ?_;refine c9z ?_;refine c106z ?_;refine c24z ?_;refine c151z ?_;refine .n ?_;refine .c6 [0,1,4,5,6,7,14] ?_;have b1:Bnd (n9 (bJ s) ⟨6,0,false,fV s.l a,bU,[],[]⟩ s.st) th.wt:=⟨q1,t185,t168,t161,q5,t172,t163,t145⟩;refine c98z ?_;refine .nil ?_;have fc:=iV (l0:=s.l) (s:=n9 (bJ s) ⟨6,0,false,fV s.l a,bU,[],[]⟩ s.st) (S:=th);have fs:=iL (l0:=s.l) (s:=n9 (bJ s) ⟨6,0,false,fV s.l a,bU,[],[]⟩ s.st) (S:=th);rw[cA,gS]at fc;rw[bQ,eP]at fs;change _≤(dR s a th).code.length∧(dR s a th).code.length≤_ at fc;change _≤(dR s a th).sites.length∧(dR s a th).sites.length≤_ at fs;change c8 _ _ _ ⟨mkS _ _,hT e (aF e.k (dR s a th)) (dR s a th).code (dR s a th).sites++_⟩ _;refine c25z ?_;refine .ch rfl rfl (gC (mO t47 t44 ⟨7,((s.code.length:Nat):Int),false,l4,bU,[],[]⟩ s.st t24)) ?_;refine .nil ?_;refine .c6 [0,1,4,5,14] ?_;change c8 _ _ _ ⟨mkS _ _,hT e (aF e.k (D7 s a th)) (D7 s a th).code (D7 s a th).sites++_⟩ _;have jc:(D7 s a th).code.length=(dR s a th).code.length+1:=cA;refine c110z ?_;refine c167z ?_;refine .p 3 ?_;refine c172z ?_;exact .mk _ (by rw[tU];rfl)
theorem c_blk9 {e:Frm}{c:Ctx}(sc:SC E c vs s.l)(bd:Bd E c s.p)(B:Bnd s W)(hW:1≤W):c8 Tryz.prog cfg (rF [1,0,1,0,0,1,0] (jT Tryz.f133)) ⟨mkS 253 [(0,AV.ptr e.k 0 0),(1,AV.vec (Go.Un.Sl.len (pre.app (.cons 9 ByteArray.empty l4 l9 [] .nil .nil rest))) (o5 (pre.app (.cons 9 ByteArray.empty l4 l9 [] .nil .nil rest)))),(4,AV.vec l0.length (j7 l0)),(5,AV.int .i64 ((pre.len:Nat):Int))],(hT e (aF e.k s) s.code s.sites)⟩ (Led 253 [(0,AV.ptr e.k 0 0),(1,AV.vec (Go.Un.Sl.len (pre.app (.cons 9 ByteArray.empty l4 l9 [] .nil .nil rest))) (o5 (pre.app (.cons 9 ByteArray.empty l4 l9 [] .nil .nil rest)))),(4,AV.vec l0.length (j7 l0)),(5,AV.int .i64 ((pre.len:Nat):Int))] ((hT e (aF e.k (n9 (bJ s) ⟨8,0,false,l4,bU,[],[]⟩ s.st)) ((n9 (bJ s) ⟨8,0,false,l4,bU,[],[]⟩ s.st)).code ((n9 (bJ s) ⟨8,0,false,l4,bU,[],[]⟩ s.st)).sites))):=by obtain ⟨q1,q2,q3,q4,q5,q6,q7,q8⟩:=B;have hlc:=@z6 pre 9 ByteArray.empty l4 l9 [] .nil .nil rest;refine c155z ?_;refine c8.aI (hT e (aF e.k (bJ s)) s.code s.sites++[⟨0,false,190,11,[.int .i64 9,.str ByteArray.empty,.int .i64 l4.op,.int .i64 l4.num,.str l4.name,.vec l4.args.length (n4 l4.args),.str l9.name,.vec l9.idx.length (n4 l9.idx),.vec (([]:List Ar)).length (bE ([]:List Ar)),.vec (Go.Un.Sl.len Go.Un.Sl.nil) (o5 Go.Un.Sl.nil),.vec (Go.Un.Sl.len Go.Un.Sl.nil) (o5 Go.Un.Sl.nil)],0⟩]) rfl ?_;refine c250z ?_;refine c9z ?_;refine c38z ?_;refine c115z ?_;refine .c6 [0,1,4,5,7] ?_;refine .r ?_;refine .e 3 ?_;refine .ch rfl rfl (gC (mO t47 t44 ⟨8,0,false,l4,bU,[],[]⟩ s.st t24)) ?_;refine .nil ?_;exact .mk _ rfl
theorem Bnd.mono {W':Nat}(h:Bnd s W)(hw:W'≤W):Bnd s W':=by obtain ⟨q1,q2,q3,q4,q5,q6,q7,q8⟩:=h;exact ⟨q1,by omega,by omega,by omega,q5,by omega,q7,by omega⟩
theorem Bnd.ins (h:Bnd s (1+W))(i:Ins):Bnd (n9 (bJ s) i s.st) W:=by obtain ⟨q1,q2,q3,q4,q5,q6,q7,q8⟩:=h;exact ⟨q1,t185,t168,t161,q5,t172,t163,t145⟩
theorem Bnd.var (h:Bnd s (1+W))(i:Ins)(n:BA):Bnd (rL (n9 (bJ s) i s.st) n) W:=by obtain ⟨q1,q2,q3,q4,q5,q6,q7,q8⟩:=h;exact ⟨by simp[rL],by show (s.l++[_]).length+_≤_;simp;omega,by show (n9 (bJ s) i s.st).code.length+_≤_;rw[cA,gS];omega,by show (n9 (bJ s) i s.st).sites.length+_≤_;rw[bQ,eP];omega,by show 0≤s.loc+1;omega,by show s.loc+1+_≤_;omega,t163,t145⟩
theorem Bnd.fin (h:Bnd s (S.wt+W)):Bnd (cO s.l s S) W:=by obtain ⟨q1,q2,q3,q4,q5,q6,q7,q8⟩:=h;have h1:=iV (l0:=s.l) (s:=s) (S:=S);have h2:=iL (l0:=s.l) (s:=s) (S:=S);have h3:=sJ S s.loc;exact ⟨q1,by show s.l.length+_≤_;omega,by omega,by omega,by show 0≤fW S s.loc;omega,by show fW S s.loc+_≤_;omega,by show 0≤s.st+(S.wt:Int);omega,by show s.st+(S.wt:Int)+_≤_;omega⟩
theorem Bnd.tgt {i:Nat}{v:Int}(h:Bnd s W):Bnd (cI s i v) W:=by obtain ⟨q1,q2,q3,q4,q5,q6,q7,q8⟩:=h;exact ⟨q1,q2,by rw[kI];exact q3,q4,q5,q6,q7,q8⟩
theorem Bnd.put2 (h:Bnd s W)(i:Ins)(t:Int)(hc:s.code.length+1+2*W≤5000)(hs:s.sites.length+1+2*W≤5000):Bnd (n9 s i t) W:=by obtain ⟨q1,q2,q3,q4,q5,q6,q7,q8⟩:=h;exact ⟨q1,by rw[R7];omega,by rw[cA];omega,by rw[bQ];omega,q5,by rw[vS];omega,q7,by rw[AG];omega⟩
variable {a:Ex}
theorem K5 (h:Bnd s (1+th.wt+W)):Bnd (dR s a th) W∧(dR s a th).code.length+1+2*W≤5000∧(dR s a th).sites.length+1+2*W≤5000:=by have h1:=(show Bnd s (1+(th.wt+W)) from h.mono (by omega)).ins ⟨6,0,false,fV s.l a,bU,[],[]⟩;have h2:=iV (l0:=s.l) (s:=n9 (bJ s) ⟨6,0,false,fV s.l a,bU,[],[]⟩ s.st) (S:=th);have h3:=iL (l0:=s.l) (s:=n9 (bJ s) ⟨6,0,false,fV s.l a,bU,[],[]⟩ s.st) (S:=th);rw[cA,gS]at h2;rw[bQ,eP]at h3;have q3:=h.cb;have q4:=h.sb;exact ⟨h1.fin,by show (cO s.l (n9 (bJ s) _ s.st) th).code.length+1+2*W≤5000;omega,by show (cO s.l (n9 (bJ s) _ s.st) th).sites.length+1+2*W≤5000;omega⟩
theorem RJ (h:Bnd s (1+th.wt+(el.wt+W))):Bnd (dS s a th el) W:=by obtain ⟨h1,h2,h3⟩:=K5 (a:=a) h;exact (((h1.put2 ⟨7,0,false,l4,bU,[],[]⟩ s.st h2 h3).tgt (i:=s.code.length) (v:=((stJ s a th).code.length:Int)))).fin
theorem RK {e:Frm}{c:Ctx}(sc:SC E c vs s.l)(bd:Bd E c s.p){k:Int}{n:BA}(hG:GS E (.cons k n a r xs th el rest) vs)(B:Bnd s (Sl.cons k n a r xs th el rest).wt)(ih:∀T:Sl,(T=th∨T=el)→GS E T vs→(∀s':Sco,SC E c vs s'.l→s'.p=s.p→Bnd s' T.wt→∀e:Frm,CH 133 [.ptr e.k 0 0,.vec T.len (o5 T)] (hT e (aF e.k s') (s').code (s').sites) (.tup []) (hT e (aF e.k (cO s'.l s' T)) ((cO s'.l s' T)).code ((cO s'.l s' T)).sites))):∃s' vs',SC E c vs' s'.l∧GS E rest vs'∧s'.p=s.p∧Bnd s' rest.wt∧cO l0 s' rest=cO l0 s (.cons k n a r xs th el rest)∧c8 Tryz.prog cfg (rF [1,0,1,0,0,1,0] (jT Tryz.f133)) ⟨mkS 253 [(0,AV.ptr e.k 0 0),(1,AV.vec (Go.Un.Sl.len (pre.app (.cons k n a r xs th el rest))) (o5 (pre.app (.cons k n a r xs th el rest)))),(4,AV.vec l0.length (j7 l0)),(5,AV.int .i64 ((pre.len:Nat):Int))],(hT e (aF e.k s) s.code s.sites)⟩ (Led 253 [(0,AV.ptr e.k 0 0),(1,AV.vec (Go.Un.Sl.len (pre.app (.cons k n a r xs th el rest))) (o5 (pre.app (.cons k n a r xs th el rest)))),(4,AV.vec l0.length (j7 l0)),(5,AV.int .i64 ((pre.len:Nat):Int))] (hT e (aF e.k s') (s').code (s').sites)):=by
  rcases hG with ⟨rfl,⟨j,hj,rfl⟩,hn,he,rfl,rfl,rfl,rfl,hr⟩ | ⟨rfl,hn,he,rfl,rfl,rfl,rfl,hr⟩ | ⟨rfl | rfl,⟨f,hf,rfl,ha⟩,rfl,rfl,rfl,rfl,hr⟩ | ⟨rfl | rfl,rfl,rfl,hR,rfl,rfl,rfl,hr⟩ | ⟨rfl,rfl,he,rfl,rfl,hth,hel,hr⟩ | ⟨rfl,rfl,he,rfl,rfl,hth,rfl,hr⟩ | ⟨rfl,rfl,rfl,rfl,rfl,rfl,rfl,hr⟩
  all_goals simp only[Sl.wt,Nat.add_zero]at B
  · exact ⟨(rL (n9 (bJ s) ⟨1,s.loc,false,fV s.l a,bU,[],[]⟩ s.st) (vnm j)),_,sc.push hj hn s.loc,hr,rfl,B.var _ _,fin_var,c_blk1 sc bd B (by omega) j hj hn a he⟩
  · exact ⟨(n9 (bJ s) ⟨1,(eV s.l n).n,(eV s.l n).kind==1,fV s.l a,bU,[],[]⟩ s.st),vs,sc,hr,rfl,B.ins _,rN (by simp only[o4,show ¬(2:Int)=1 from by decide,if_true,if_false];rfl) (by decide),c_blk2 sc bd B (by omega) n hn a he⟩
  · exact ⟨(n9 (bJ s) ⟨2,(eV s.l f.1).n,false,l4,bU,aT s.l xs,aD s.l xs⟩ s.st),vs,sc,hr,rfl,B.ins _,rN (by simp only[o4,show ¬(3:Int)=1 from by decide,show ¬(3:Int)=2 from by decide,show ¬(3:Int)=4 from by decide,true_or,if_true,if_false]) (by decide),c_blk3 sc bd B (by omega) f hf xs ha⟩
  · exact ⟨(n9 (bJ s) ⟨3,(eV s.l f.1).n,false,l4,bU,aT s.l xs,aD s.l xs⟩ s.st),vs,sc,hr,rfl,B.ins _,rN (by simp only[o4,show ¬(4:Int)=1 from by decide,show ¬(4:Int)=2 from by decide,or_true,if_true,if_false]) (by decide),c_blk4 sc bd B (by omega) f hf xs ha⟩
  · exact ⟨(n9 (bJ s) ⟨4,0,false,l4,rH s.l r,[],[]⟩ s.st),vs,sc,hr,rfl,B.ins _,rN (by simp only[o4,show ¬(5:Int)=1 from by decide,show ¬(5:Int)=2 from by decide,show ¬((5:Int)=3∨(5:Int)=4) from by decide,if_true,if_false]) (by decide),c_blk5 sc bd B (by omega) r hR⟩
  · exact ⟨(n9 (bJ s) ⟨5,0,false,l4,rH s.l r,[],[]⟩ s.st),vs,sc,hr,rfl,B.ins _,rN (by simp only[o4,show ¬(6:Int)=1 from by decide,show ¬(6:Int)=2 from by decide,show ¬((6:Int)=3∨(6:Int)=4) from by decide,show ¬(6:Int)=5 from by decide,if_true,if_false]) (by decide),c_blk6 sc bd B (by omega) r hR⟩
  · by_cases h0:0<el.len
    · exact ⟨(cI (dS s a th el) (dR s a th).code.length ((dS s a th el).code.length:Int)),vs,sc,hr,rfl,(RJ (B.mono (by omega))).tgt,RH h0,c_blk17 sc bd B a he th el h0 (by omega) (ih _ (.inl rfl) hth) (ih _ (.inr rfl) hel)⟩
    · obtain rfl:=len_nil.1 h0
      simp only[Sl.wt,Nat.add_zero]at B;exact ⟨(cI (dR s a th) s.code.length ((dR s a th).code.length:Int)),vs,sc,hr,rfl,(K5 B).1.tgt,fin_if,c_blk7 sc bd B a he th (by omega) (ih _ (.inl rfl) hth)⟩
  · exact ⟨(cI (D7 s a th) s.code.length ((D7 s a th).code.length:Int)),vs,sc,hr,rfl,((K5 (a:=a) B).1.put2 _ _ (K5 B).2.1 (K5 B).2.2).tgt,fin_wh,c_blk8 sc bd B a he th (by omega) (ih _ (.inl rfl) hth)⟩
  · exact ⟨(n9 (bJ s) ⟨8,0,false,l4,bU,[],[]⟩ s.st),vs,sc,hr,rfl,B.ins _,rN (by simp only[o4,show ¬(9:Int)=1 from by decide,show ¬(9:Int)=2 from by decide,show ¬((9:Int)=3∨(9:Int)=4) from by decide,show ¬(9:Int)=5 from by decide,show ¬(9:Int)=6 from by decide,show ¬(9:Int)=7 from by decide,show ¬(9:Int)=8 from by decide,if_false]) (by decide),c_blk9 sc bd B (by omega)⟩
theorem fin_nil:cO l0 s .nil={ s with l:=l0 }:=by
  refine Sco.eq rfl rfl rfl ?_ ?_ ?_
  · simp[cO,Sl.wt]
  · simp[cO,o4]
  · simp[cO,cG]
theorem RL {c:Ctx}(S:Sl)(hSl:S.wt≤1000)(vars:List BA)(s:Sco)(sc0:SC E c vars s.l)(hG0:GS E S vars)(bd:Bd E c s.p)(B0:Bnd s S.wt)(e:Frm)(ih:∀S':Sl,S'.wt<S.wt→∀(vars:List BA) (s:Sco),SC E c vars s.l→GS E S' vars→Bd E c s.p→Bnd s S'.wt→∀e:Frm,CH 133 [.ptr e.k 0 0,.vec S'.len (o5 S')] (hT e (aF e.k s) (s).code (s).sites) (.tup []) (hT e (aF e.k (cO s.l s S')) ((cO s.l s S')).code ((cO s.l s S')).sites)):CH 133 [.ptr e.k 0 0,.vec S.len (o5 S)] (hT e (aF e.k s) s.code s.sites) (.tup []) (hT e (aF e.k (cO s.l s S)) ((cO s.l s S)).code ((cO s.l s S)).sites):=by
  refine .wz Tryz.f133 253 ?_;have hlw:=dC S;refine c18z ?_;refine .u6 (fun m st=>∃(Z:Sl) (pre:Sl) (rst:Sl) (vs:List BA) (cur:Sco),(m=rst.len∧(Z=S∧S=pre.app rst∧GS E rst vs∧SC E c vs cur.l∧cur.p=s.p∧Bnd cur rst.wt∧cO s.l cur rst=cO s.l s S))∧st=⟨mkS 253 [(0,AV.ptr e.k 0 0),(1,AV.vec (Go.Un.Sl.len Z) (o5 Z)),(4,AV.vec s.l.length (j7 s.l)),(5,AV.int .i64 ((pre.len:Nat):Int))],hT e (aF e.k cur) cur.code cur.sites⟩) (.v ⟨S,Sl.nil,S,vars,s,⟨rfl,⟨rfl,rfl,hG0,sc0,rfl,B0,rfl⟩⟩,rfl⟩ (hs:=t10) (hr:=t92)) ?_;rintro m sl h' ⟨Z,pre,rst,vs,cur,⟨hm,⟨hZ,hS,hG,sc,hp,B,hF⟩⟩,hst⟩;obtain ⟨rfl,rfl⟩:=St.mk.inj hst;clear hst;subst hZ;have hlen:=congrArg Go.Un.Sl.len hS;rw[Go.Un.Sl.bZ]at hlen;refine c0z ?_;refine u2z ?_ ?_
  ·intro e1 qe1;refine c197z ?_;obtain ⟨k,n,a,r,xs,th,el,rest,rfl⟩:=Go.Un.Sl.oP (s:=rst) (by omega);subst hS;have hwc:=@Q8 pre k n a r xs th el rest;have hlc:=@z6 pre k n a r xs th el rest;obtain ⟨s2,vs2,r1,r2,r3,r4,r5,hrun⟩:=RK (e:=e) (l0:=s.l) (pre:=pre) sc (by rw[hp];exact bd) hG B (fun T hT hgT s' q1 q2 q3 e'=>ih T (by rcases hT with rfl | rfl<;>omega) _ s' q1 hgT (by rw[q2,hp];exact bd) q3 e');refine c8.fitS [(0,AV.ptr e.k 0 0),(1,AV.vec (Go.Un.Sl.len (pre.app (.cons k n a r xs th el rest))) (o5 (pre.app (.cons k n a r xs th el rest)))),(4,AV.vec s.l.length (j7 s.l)),(5,AV.int .i64 ((pre.len:Nat):Int))] ?_;refine c8.led (hrun) ?_;intro lq hq haq;change c8 ..;refine c8.fitS [(0,AV.ptr e.k 0 0),(1,AV.vec (Go.Un.Sl.len (pre.app (.cons k n a r xs th el rest))) (o5 (pre.app (.cons k n a r xs th el rest)))),(4,AV.vec s.l.length (j7 s.l)),(5,AV.int .i64 ((pre.len:Nat):Int))] ?_ haq;refine .rz ?_;exact ⟨_,by omega,.v ⟨_,(pre.app (.cons k n a r xs th el .nil)),rest,vs2,s2,⟨rfl,⟨rfl,eG,r2,r1,r3.trans hp,r4,r5.trans hF⟩⟩,rfl⟩ (he:=by rfl) (hl:=by simp only[aM];exact Nat.le_refl _) (hk:=by exact hT_keep rfl) (hs:=t10) (hr:=t92)⟩
  intro e1 qe1;refine .exit ?_;have hr0:rst=.nil:=Sl.zO (by omega);subst hr0;change c8 ..;refine .rz ?_;refine Ends.n ?_;exact ⟨hT e ⟨0,false,198,10,[.vec cur.p.globals.length (r7 cur.p.globals),.vec cur.p.mutexes.length (c9 cur.p.mutexes),.vec cur.p.funcs.length (o3 cur.p.funcs),.vec s.l.length (j7 s.l),.int .i64 cur.loc,.int .i64 cur.st,.int .i64 0,.int .i64 0,.own (e.k+1) cur.code.length 0 cur.code.length,.own (e.k+2) cur.sites.length 0 cur.sites.length],0⟩ cur.code cur.sites,[],_,(List.append_nil _).symm,by (simp only[aM];exact Nat.le_refl _),(B2 (gN.get ⟨.vec _ _,.vec _ _,.vec _ _,.vec _ _,.int _ _,.int _ _,.int _ _,.int _ _,.own _ _ _ _ e.lt.2.1,.own _ _ _ _ e.lt.2.2,trivial⟩)),rfl,by rw[←hF,fin_nil];exact ⟨rfl,rfl⟩⟩
theorem AH {E:Env}{c:Ctx}:∀(n:Nat) (S:Sl),S.wt≤n→n≤1000→∀(vars:List BA) (s:Sco),SC E c vars s.l→GS E S vars→Bd E c s.p→Bnd s S.wt→∀e:Frm,CH 133 [.ptr e.k 0 0,.vec S.len (o5 S)] (hT e (aF e.k s) (s).code (s).sites) (.tup []) (hT e (aF e.k (cO s.l s S)) ((cO s.l s S)).code ((cO s.l s S)).sites)
  | n,S,hn,h1,vars,s,sc,hG,bd,B,e=>by
    refine RL S (by omega) vars s sc hG bd B e (fun S' hS'=>?_);cases n with
    | zero=>omega
    | succ n=>exact AH n S' (by omega) (by omega)
end Go.Proofs.YtonbocmibeikmaaGreat
end
