/- My own texts, put together by a program of mine. -/
import Derived.Test.YtonbocmibeikmaaGreatCW6
set_option linter.unusedSimpArgs false
set_option linter.unusedVariables false
set_option maxRecDepth 100000
set_option maxHeartbeats 4000000
section
namespace Go.Proofs.YtonbocmibeikmaaGreat
open Go.Ab Go.Un
attribute [local go_sem] l9 aE o4 aK o3 Int.natCast_nonneg Int.natCast_inj List.length_map cB hB_1 hB_2 hB_5 Al Am An Ao eY B8 fK Q3
variable {c:Core}{e:Frame}{left I:Int}
theorem XK {l:c6}(hc:OkC c)(hI:OkI c.L I)(hL:c.L.length<4611686018427387904)(vars:List BA)(hN:vars.length<1000)(f:Fu)(hp:f.params.length≤2):CH 127 [.ptr 5 0 0,.agg (dT f),.vec vars.length (aC vars)] (hB c e I left++l) (.agg (X8 (u0 c f.params vars I).1)) (hB c e (u0 c f.params vars I).2 left++l):=c_ref (e:=⟨e.b0,e.b1,e.b2,e.z,e.m,e.g,e.rest++l⟩) hc hI hL vars hN f hp
variable {n:Nat}
theorem AX {c:Core}{e:Frame}{I left:Int}{fb rb:Blk}{g:Nat}{zs:List AV}{x1 x2 x3 x4 x5 x6 x7:AV}(hz:zs.length=n*7)(hn:n<1000) :
    j0 cfg 214 (hB c e I left++[fb,rb,o8 214 7 g zs,⟨0,false,214,7,[x1,x2,x3,x4,x5,x6,x7],0⟩]) (.own (e.n+2) g 0 n) (.own (e.n+3) 0 0 1)=some (.own (e.n+2) (g+1) 0 (n+1),hB c e I left++[fb,rb,o8 214 7 (g+1) (zs++[x1,x2,x3,x4,x5,x6,x7]),⟨0,false,214,7,[x1,x2,x3,x4,x5,x6,x7],0⟩]):=by
  have hb:(hB c e I left++[fb,rb,o8 214 7 g zs,⟨0,false,214,7,[x1,x2,x3,x4,x5,x6,x7],0⟩])[e.n+2]?=some (o8 214 7 g zs):=eY;rw[u3 (C:=cfg) (K:=7) (m:=1) (new:=[x1,x2,x3,x4,x5,x6,x7]) hb rfl (by omega) hz rfl (by omega) t136 rfl (by decide) (by omega),fK];rfl
theorem LD {c:Core}{e:Frame}{I left:Int}{fb rb:Blk}{g:Nat}{zs:List AV}{x1 x2 x3:AV}{x:Ex}(hz:zs.length=n*7)(hn:n<1000) :
    j0 cfg 214 (hB c e I left++[fb,rb,o8 214 7 g zs,⟨0,false,214,7,x1::x2::x3::s5 x,0⟩]) (.own (e.n+2) g 0 n) (.own (e.n+3) 0 0 1)=some (.own (e.n+2) (g+1) 0 (n+1),hB c e I left++[fb,rb,o8 214 7 (g+1) (zs++x1::x2::x3::s5 x),⟨0,false,214,7,x1::x2::x3::s5 x,0⟩]):=by
  rw[bG];exact AX hz hn
variable {ps l:List Pm}{vars:List BA}{j:Nat}{J:Int}
theorem args_t (h:j<l.length)(hm:(l.getD j iD).mu=true):z5 c ps vars (l.drop j) J=(⟨true,(u0 c ps vars J).1,l7⟩::(z5 c ps vars (l.drop (j+1)) (u0 c ps vars J).2).1,(z5 c ps vars (l.drop (j+1)) (u0 c ps vars J).2).2):=by rw[List.drop_eq_getElem_cons h,z5,if_pos (by simpa [List.getD,h] using hm)]
theorem args_f (h:j<l.length)(hm:(l.getD j iD).mu=false):z5 c ps vars (l.drop j) J=(⟨false,n6,(j6 c vars J).1⟩::(z5 c ps vars (l.drop (j+1)) (j6 c vars J).2).1,(z5 c ps vars (l.drop (j+1)) (j6 c vars J).2).2):=by rw[List.drop_eq_getElem_cons h,z5,if_neg (by rw[show l[j].mu=(l.getD j iD).mu from by simp[List.getD,h],hm];decide)]
theorem yM {l:List Ar}{a:Ar}:bB (l++[a])=bB l++EM a:=by simp[bB]
theorem refs_A {l:List Ar}:∀x∈bB l,Refs n x:=by
  intro x hx;obtain ⟨a,_,hx⟩:=List.mem_flatMap.1 hx;simp only[EM,bG,List.mem_cons,List.not_mem_nil,or_false]at hx;rcases hx with rfl | rfl | rfl | rfl | rfl | rfl | rfl
  · exact .bool _
  · exact .str _
  · exact .vec _ _
  · exact .int _ _
  · exact .int _ _
  · exact .str _
  · exact .vec _ _
theorem M4 {J':Int}{xs:List Ar}{a:Ar}(h:z5 c ps vars l I=(xs++(z5 c ps vars (l.drop j) J).1,(z5 c ps vars (l.drop j) J).2))(hs:z5 c ps vars (l.drop j) J=(a::(z5 c ps vars (l.drop (j+1)) J').1,(z5 c ps vars (l.drop (j+1)) J').2)):z5 c ps vars l I=((xs++[a])++(z5 c ps vars (l.drop (j+1)) J').1,(z5 c ps vars (l.drop (j+1)) J').2):=by rw[h,hs];simp only[List.append_assoc,List.cons_append,List.nil_append]
section
attribute [local go_sem] fW wrap64 dT X8 AX LD lF J7 tN
theorem c_args (hc:OkC c)(hI:OkI c.L I)(hL:c.L.length<4611686018427387904)(vars:List BA)(hN:vars.length<1000)(f g:Fu)(hp:f.params.length≤2)(hq:g.params.length≤2):CH 129 [.ptr 5 0 0,.agg (dT f),.agg (dT g),.vec vars.length (aC vars)] (hB c e I left) (.vec (z5 c f.params vars g.params I).1.length (bB (z5 c f.params vars g.params I).1)) (hB c e (z5 c f.params vars g.params I).2 left):=by
  refine .wz Tryz.f129 40 ?_;refine c51z ?_;refine g5.qY 9 rfl ?_;refine .s4 (fun m st=>∃(j:Nat) (J:Int) (xs:List Ar),(m=g.params.length-j∧(j≤g.params.length∧OkI c.L J∧xs.length=j∧z5 c f.params vars g.params I=(xs++(z5 c f.params vars (g.params.drop j) J).1,(z5 c f.params vars (g.params.drop j) J).2)))∧st=⟨mkS 40 [(0,AV.ptr 5 0 0),(3,AV.vec vars.length (aC vars)),(5,AV.ptr e.n 0 0),(6,AV.ptr (e.n+1) 0 0),(9,AV.own (e.n+2) j 0 j),(10,AV.int .i64 ((j:Nat):Int))],hB c e J left++[⟨0,false,136,3,[.str f.name,.vec f.params.length (v8 f.params),.vec f.body.len (p6 f.body)],0⟩,⟨0,false,136,3,[.str g.name,.vec g.params.length (v8 g.params),.vec g.body.len (p6 g.body)],0⟩,o8 214 7 j (bB xs)]⟩) (.v ⟨0,I,[],⟨rfl,⟨by omega,hI,rfl,rfl⟩⟩,rfl⟩ (hs:=t37) (hr:=t1)) ?_;rintro m sl h' ⟨j,J,xs,⟨hm,⟨hj,hJ,hal,hA⟩⟩,hst⟩;obtain ⟨rfl,rfl⟩:=St.mk.inj hst;clear hst;have hz7:(bB xs).length=j*7:=by rw[cI,hal];omega
  refine c0z ?_;refine u2z ?_ ?_
  ·intro e1 qe1;refine c45z ?_;refine u2z ?_ ?_
   ·intro e2 qe2;refine .c7 [0,3,5,6,9,10] ?_;refine c153z ?_;refine .ch rfl rfl (XK hc hJ hL vars hN f hp) ?_;refine c27z ?_;refine .c7 [0,3,5,6,9,10] ?_;refine g5.nilsO (β:=e.n+2) (bB (xs++[(⟨true,(u0 c f.params vars J).1,l7⟩:Ar)])) t65 (by rw[yM];exact (oQ.refl _).app RG) ?_;simp only[fK,List.set_cons_succ,List.set_cons_zero];refine .rz ?_;exact ⟨_,by omega,.v ⟨(j+1),(u0 c f.params vars J).2,(xs++[(⟨true,(u0 c f.params vars J).1,l7⟩:Ar)]),⟨rfl,⟨by omega,(pR hc hJ).2,by simp[hal],M4 hA (args_t (by omega) (by assumption))⟩⟩,rfl⟩ (he:=t145) (hl:=t28) (hk:=t169) (hs:=t37) (hr:=t1)⟩
   intro e2 qe2;refine .c7 [0,3,5,6,9,10] ?_;refine .r ?_;refine .e 3 ?_;refine .ch rfl rfl (Z9 hc hJ hL vars hN) ?_;refine c27z ?_;refine g5.nilsO (β:=e.n+2) (bB (xs++[(⟨false,n6,(j6 c vars J).1⟩:Ar)])) t65 (by rw[yM];exact (oQ.refl _).app IS) ?_;simp only[fK,List.set_cons_succ,List.set_cons_zero];refine .rz ?_;exact ⟨_,by omega,.v ⟨(j+1),(j6 c vars J).2,(xs++[(⟨false,n6,(j6 c vars J).1⟩:Ar)]),⟨rfl,⟨by omega,(iW hJ).2,by simp[hal],M4 hA (args_f (by omega) (by assumption))⟩⟩,rfl⟩ (he:=t145) (hl:=t28) (hk:=t169) (hs:=t37) (hr:=t1)⟩
  intro e1 qe1;refine c6z ?_;refine .c7 [9] ?_;refine c17z ?_;exact ⟨hB _ _ _ _,_,.vec xs.length (bB xs),rfl,t70,gY,by (show gH _ (hB c e J left++_) 6 (.own (e.n+2) j 0 j)=_;rw[cB,aY,if_neg (by omega),hal];exact gL eY (by omega) (by rw[cI,hal];omega) (by omega) frz_A),by refine ⟨?_,?_⟩<;>(rw[hA,List.drop_of_length_le (by omega)];simp only[z5,List.append_nil])⟩
end
end Go.Proofs.YtonbocmibeikmaaGreat
end
section
namespace Go.Proofs.YtonbocmibeikmaaGreat
open Go.Ab Go.Un
theorem c_argsA {c:Core}{e:Frame}{left I:Int}{l:c6}(hc:OkC c)(hI:OkI c.L I)(hL:c.L.length<4611686018427387904)(vars:List BA)(hN:vars.length<1000)(f g:Fu)(hp:f.params.length≤2)(hq:g.params.length≤2):CH 129 [.ptr 5 0 0,.agg (dT f),.agg (dT g),.vec vars.length (aC vars)] (hB c e I left++l) (.vec (z5 c f.params vars g.params I).1.length (bB (z5 c f.params vars g.params I).1)) (hB c e (z5 c f.params vars g.params I).2 left++l):=c_args (e:=⟨e.b0,e.b1,e.b2,e.z,e.m,e.g,e.rest++l⟩) hc hI hL vars hN f g hp hq
theorem sealC_n {l:List BA}:p5 oA (aC l)=some (aC l):=by
 induction l with
 | nil=>rfl
 | cons x l ih=>
  have e:oA (.str x)=some (.str x):=rfl;simp only[aC,List.map_cons,p5,e]at ih ⊢;rw[ih]
variable {β:Nat}
theorem TP {H:c6}{b:Blk}(h:H[β]?=some b):H.set β b=H:=by obtain ⟨h1,h2⟩:=List.getElem?_eq_some_iff.1 h;rw[←h2];exact List.set_getElem_self h1
variable {g:Nat}
theorem O6 {f:FuncId}{args args':List AV}{H:c6}{Q:AV→c6→Prop}{vs:List BA}(hb:H[β]?=some ⟨g,false,9,1,aC vs,vs.length⟩)(ha:CF β g 0 vs.length (aC vs) args' args)(r:CallA Tryz.prog cfg f args' H Q):CallA Tryz.prog cfg f args H Q:=by
 have e:H.set β (cL ⟨g,false,9,1,aC vs,vs.length⟩ (0+vs.length*1))=H:=by rw[show cL ⟨g,false,9,1,aC vs,vs.length⟩ (0+vs.length*1)=⟨g,false,9,1,aC vs,vs.length⟩ from by simp[cL]];exact TP hb
 refine CallA.GA (β:=β) (off:=0) (len:=vs.length) (cs:=aC vs) hb rfl (by simp[aE]) ?_ ha (by rw[e];exact r);simp only[List.drop_zero,Nat.mul_one];rw[List.take_of_length_le t162];exact sealC_n
theorem raise {c:Code}{sl:List AV}{h:c6}{Q:Exit→St→Prop}{k:Nat}{b:Blk}(hb:h[β]?=some b)(hk:b.frz≤k)(r:g5 Tryz.prog cfg c ⟨sl,h.set β ⟨b.gen,b.virt,b.elem,b.esz,b.cells,k⟩⟩ Q):g5 Tryz.prog cfg c ⟨sl,h⟩ Q:=by
 refine g5.step _ (fun B φ w i=>?_) r;have:=pE k i hb;have e:cL b k=⟨b.gen,b.virt,b.elem,b.esz,b.cells,k⟩:=by simp only[cL,Nat.max_eq_right hk]
 rw[e]at this;exact this
section
variable {c:Core}{e:Frame}{I left:Int}{l:c6}{fb:Blk}{gv:Nat}{vs:List BA}
theorem hB_v:(hB c e I left++(fb::⟨gv,false,9,1,aC vs,vs.length⟩::l))[e.n+1]?=some ⟨gv,false,9,1,aC vs,vs.length⟩:=eY
theorem nL (hc:OkC c)(hI:OkI c.L I)(hL:c.L.length<4611686018427387904)(hN:vs.length<1000):CH 128 [.ptr 5 0 0,.own (e.n+1) gv 0 vs.length] (hB c e I left++(fb::⟨gv,false,9,1,aC vs,vs.length⟩::l)) (.agg (s5 (j6 c vs I).1)) (hB c e (j6 c vs I).2 left++(fb::⟨gv,false,9,1,aC vs,vs.length⟩::l)):=
 O6 (args':=[.ptr 5 0 0,.vec vs.length (aC vs)]) hB_v ⟨.inl rfl,.inr ⟨rfl,rfl⟩,trivial⟩ (Z9 hc hI hL vs hN)
theorem AY (hc:OkC c)(hI:OkI c.L I)(hL:c.L.length<4611686018427387904)(hN:vs.length<1000)(f:Fu)(hp:f.params.length≤2):CH 127 [.ptr 5 0 0,.agg (dT f),.own (e.n+1) gv 0 vs.length] (hB c e I left++(fb::⟨gv,false,9,1,aC vs,vs.length⟩::l)) (.agg (X8 (u0 c f.params vs I).1)) (hB c e (u0 c f.params vs I).2 left++(fb::⟨gv,false,9,1,aC vs,vs.length⟩::l)):=
 O6 (args':=[.ptr 5 0 0,.agg (dT f),.vec vs.length (aC vs)]) hB_v ⟨.inl rfl,.inl rfl,.inr ⟨rfl,rfl⟩,trivial⟩ (XK hc hI hL vs hN f hp)
theorem LF (hc:OkC c)(hI:OkI c.L I)(hL:c.L.length<4611686018427387904)(hN:vs.length<1000)(f g:Fu)(hp:f.params.length≤2)(hq:g.params.length≤2):CH 129 [.ptr 5 0 0,.agg (dT f),.agg (dT g),.own (e.n+1) gv 0 vs.length] (hB c e I left++(fb::⟨gv,false,9,1,aC vs,vs.length⟩::l)) (.vec (z5 c f.params vs g.params I).1.length (bB (z5 c f.params vs g.params I).1)) (hB c e (z5 c f.params vs g.params I).2 left++(fb::⟨gv,false,9,1,aC vs,vs.length⟩::l)):=
 O6 (args':=[.ptr 5 0 0,.agg (dT f),.agg (dT g),.vec vs.length (aC vs)]) hB_v ⟨.inl rfl,.inl rfl,.inl rfl,.inr ⟨rfl,rfl⟩,trivial⟩ (c_argsA hc hI hL vs hN f g hp hq)
def M5 (c:Core)(f:Fu)(fu:Nat)(left:Int):Prop:=∀{e:Frame} (I l':Int) (vs all:List BA) (d m:Int),OkI c.L I→0≤l'→l'<left→0≤d→d≤100→0≤m→m≤100→(∀x∈vs,x∈all)→Fr l'.toNat all→vs.length+l'.toNat≤500→
 CallA Tryz.prog cfg 86 [.ptr 5 0 0,.agg (dT f),.vec vs.length (aC vs),.int .i64 d,.int .i64 m] (hB c e I l') (fun y' h'=>y'=.vec (g7 c f.params fu vs d m I l').1.len (p6 (g7 c f.params fu vs d m I l').1)∧h'=hB c e (g7 c f.params fu vs d m I l').2.1 (g7 c f.params fu vs d m I l').2.2)
theorem M5.V {f:Fu}{fu:Nat}{left0:Int}(h:M5 c f fu left0)(l':Int)(all:List BA)(d m:Int)(hI:OkI c.L I)(h1:0≤l')(h2:l'<left0)(h3:0≤d)(h4:d≤100)(h5:0≤m)(h6:m≤100)(h7:∀x∈vs,x∈all)(h8:Fr l'.toNat all)(h9:vs.length+l'.toNat≤500) :
  CallA Tryz.prog cfg 86 [.ptr 5 0 0,.agg (dT f),.own (e.n+1) gv 0 vs.length,.int .i64 d,.int .i64 m] (hB c e I l'++(fb::⟨gv,false,9,1,aC vs,vs.length⟩::l)) (fun y' h'=>y'=.vec (g7 c f.params fu vs d m I l').1.len (p6 (g7 c f.params fu vs d m I l').1)∧h'=hB c e (g7 c f.params fu vs d m I l').2.1 (g7 c f.params fu vs d m I l').2.2++(fb::⟨gv,false,9,1,aC vs,vs.length⟩::l)):=
 O6 (args':=[.ptr 5 0 0,.agg (dT f),.vec vs.length (aC vs),.int .i64 d,.int .i64 m]) hB_v ⟨.inl rfl,.inl rfl,.inr ⟨rfl,rfl⟩,.inl rfl,.inl rfl,trivial⟩ (h (e:=⟨e.b0,e.b1,e.b2,e.z,e.m,e.g,e.rest++(fb::⟨gv,false,9,1,aC vs,vs.length⟩::l)⟩) I l' vs all d m hI h1 h2 h3 h4 h5 h6 h7 h8 h9)
def gO (g n:Nat):Nat:=if n=0 then g else g+1
theorem TQ (hn:vs.length<1000):j0 cfg 9 (hB c e I left++[fb,⟨0,false,9,1,[],0⟩]) (.own (e.n+1) 0 0 0) (.vec vs.length (aC vs))=some (.own (e.n+1) (gO 0 vs.length) 0 vs.length,hB c e I left++[fb,⟨gO 0 vs.length,false,9,1,aC vs,0⟩]):=by
 have e1:cfg.sz 9=1:=rfl;have e2:(cfg.ti 9).bytes=16:=rfl;have hm:vs.length≤maxLen:=by
  have:(1000:Nat)≤maxLen:=by decide
  omega
 have hb:vs.length*16≤140737488355328:=by omega
 cases vs with
 | nil=>simp[j0,rd,lenOf,e1,e2,eY,gO,aC]
 | cons x vs=>
  have h0:(aC (x::vs)).length=vs.length+1:=by simp[aC]
  simp only[List.length_cons]at hm hb;simp[j0,rd,lenOf,e1,e2,eY,gO,h0,hm,hb,fK]
variable {t:Blk}
theorem app_vs {O p:Blk}{x:BA}(hn:vs.length<1000):j0 cfg 9 (hB c e I left++[fb,⟨gv,false,9,1,aC vs,vs.length⟩,O,t,p,⟨0,false,9,1,[.str x],0⟩]) (.own (e.n+1) gv 0 vs.length) (.own (e.n+5) 0 0 1)=some (.own (e.n+1) (gv+1) 0 (vs.length+1),hB c e I left++[fb,⟨gv+1,false,9,1,aC (vs++[x]),vs.length⟩,O,t,p,⟨0,false,9,1,[.str x],0⟩]):=by
 have e1:cfg.sz 9=1:=rfl;have e2:(cfg.ti 9).bytes=16:=rfl;have hm:vs.length+1≤maxLen:=by
  have:(1001:Nat)≤maxLen:=by decide
  omega
 have hb:(vs.length+1)*16≤140737488355328:=by omega
 have ht:List.take vs.length (aC vs)=aC vs:=List.take_of_length_le t162;have hnl:¬vs.length+1≤vs.length:=by omega
 simp[j0,rd,lenOf,e1,e2,eY,aE,hm,hb,fK,ht,hnl,kA]
variable {n:Nat}{zs:List AV}
theorem TR {vb t:Blk}{g:Nat}{x1 x2 x3 x4 x5 x6 x7 x8 x9 x10 x11:AV}(hz:zs.length=n*11)(hn:n<1000) :
  j0 cfg 190 (hB c e I left++[fb,vb,o8 190 11 g zs,t,⟨0,false,190,11,[x1,x2,x3,x4,x5,x6,x7,x8,x9,x10,x11],0⟩]) (.own (e.n+2) g 0 n) (.own (e.n+4) 0 0 1)=some (.own (e.n+2) (g+1) 0 (n+1),hB c e I left++[fb,vb,o8 190 11 (g+1) (zs++[x1,x2,x3,x4,x5,x6,x7,x8,x9,x10,x11]),t,⟨0,false,190,11,[x1,x2,x3,x4,x5,x6,x7,x8,x9,x10,x11],0⟩]):=by
 have hb:(hB c e I left++[fb,vb,o8 190 11 g zs,t,⟨0,false,190,11,[x1,x2,x3,x4,x5,x6,x7,x8,x9,x10,x11],0⟩])[e.n+2]?=some (o8 190 11 g zs):=eY;rw[u3 (C:=cfg) (K:=11) (m:=1) (new:=[x1,x2,x3,x4,x5,x6,x7,x8,x9,x10,x11]) hb rfl (by omega) hz rfl (by omega) t136 rfl (by decide) (by omega),fK];rfl
theorem TS {vb t u:Blk}{g:Nat}{x1 x2 x3 x4 x5 x6 x7 x8 x9 x10 x11:AV}(hz:zs.length=n*11)(hn:n<1000) :
  j0 cfg 190 (hB c e I left++[fb,vb,o8 190 11 g zs,t,u,⟨0,false,190,11,[x1,x2,x3,x4,x5,x6,x7,x8,x9,x10,x11],0⟩]) (.own (e.n+2) g 0 n) (.own (e.n+5) 0 0 1)=some (.own (e.n+2) (g+1) 0 (n+1),hB c e I left++[fb,vb,o8 190 11 (g+1) (zs++[x1,x2,x3,x4,x5,x6,x7,x8,x9,x10,x11]),t,u,⟨0,false,190,11,[x1,x2,x3,x4,x5,x6,x7,x8,x9,x10,x11],0⟩]):=by
 have hb:(hB c e I left++[fb,vb,o8 190 11 g zs,t,u,⟨0,false,190,11,[x1,x2,x3,x4,x5,x6,x7,x8,x9,x10,x11],0⟩])[e.n+2]?=some (o8 190 11 g zs):=eY;rw[u3 (C:=cfg) (K:=11) (m:=1) (new:=[x1,x2,x3,x4,x5,x6,x7,x8,x9,x10,x11]) hb rfl (by omega) hz rfl (by omega) t136 rfl (by decide) (by omega),fK];rfl
theorem AZ {vb t u v:Blk}{g:Nat}{x1 x2 x3 x4 x5 x6 x7 x8 x9 x10 x11:AV}(hz:zs.length=n*11)(hn:n<1000) :
  j0 cfg 190 (hB c e I left++[fb,vb,o8 190 11 g zs,t,u,v,⟨0,false,190,11,[x1,x2,x3,x4,x5,x6,x7,x8,x9,x10,x11],0⟩]) (.own (e.n+2) g 0 n) (.own (e.n+6) 0 0 1)=some (.own (e.n+2) (g+1) 0 (n+1),hB c e I left++[fb,vb,o8 190 11 (g+1) (zs++[x1,x2,x3,x4,x5,x6,x7,x8,x9,x10,x11]),t,u,v,⟨0,false,190,11,[x1,x2,x3,x4,x5,x6,x7,x8,x9,x10,x11],0⟩]):=by
 have hb:(hB c e I left++[fb,vb,o8 190 11 g zs,t,u,v,⟨0,false,190,11,[x1,x2,x3,x4,x5,x6,x7,x8,x9,x10,x11],0⟩])[e.n+2]?=some (o8 190 11 g zs):=eY;rw[u3 (C:=cfg) (K:=11) (m:=1) (new:=[x1,x2,x3,x4,x5,x6,x7,x8,x9,x10,x11]) hb rfl (by omega) hz rfl (by omega) t136 rfl (by decide) (by omega),fK];rfl
variable {m:Nat}{cs:List AV}
theorem LG {vb t u s:Blk}{g:Nat}(hz:zs.length=n*11)(hcs:cs.length=m*11)(hn:n<1000)(hm:m<1000) :
  j0 cfg 190 (hB c e I left++[fb,vb,o8 190 11 g zs,t,u,s]) (.own (e.n+2) g 0 n) (.vec m cs)=some (.own (e.n+2) (gO g m) 0 (n+m),hB c e I left++[fb,vb,o8 190 11 (gO g m) (zs++cs),t,u,s]):=by
 have hb:(hB c e I left++[fb,vb,o8 190 11 g zs,t,u,s])[e.n+2]?=some (o8 190 11 g zs):=eY;by_cases h0:m=0
 ·subst h0;obtain rfl:cs=[]:=List.length_eq_zero_iff.1 (by simpa using hcs);have e1:cfg.sz 190=11:=rfl;have e2:(cfg.ti 190).bytes=192:=rfl;have hmx:n≤maxLen:=by
   have:(1000:Nat)≤maxLen:=by decide
   omega
  have hbd:n*192≤140737488355328:=by omega
  simp[j0,rd,lenOf,e1,e2,hb,W9,gO,hmx,hbd]
 ·rw[u3 (C:=cfg) (K:=11) (m:=m) (new:=cs) hb rfl (by omega) hz hcs (by omega) rfl rfl (by decide) (by omega),fK];simp only[gO,h0,if_false];rfl
theorem TU {vb t u s:Blk}{g:Nat}{y1 y2 y3 y4 y5 y6 y7 y8 y9 y10 y11:AV}(hz:zs.length=n*11)(hcs:cs.length=m*11)(hn:n<900)(hm:m<1000) :
  j0 cfg 190 (hB c e I left++[fb,vb,o8 190 11 g (zs++[y1,y2,y3,y4,y5,y6,y7,y8,y9,y10,y11]),t,u,s]) (.own (e.n+2) g 0 (n+1)) (.vec m cs)=some (.own (e.n+2) (gO g m) 0 (n+1+m),hB c e I left++[fb,vb,o8 190 11 (gO g m) ((zs++[y1,y2,y3,y4,y5,y6,y7,y8,y9,y10,y11])++cs),t,u,s]):=
 LG (by rw[List.length_append,hz];simp;omega) hcs (by omega) hm
theorem TV {vb t u v:Blk}{g:Nat}{y1 y2 y3 y4 y5 y6 y7 y8 y9 y10 y11 x1 x2 x3 x4 x5 x6 x7 x8 x9 x10 x11:AV}(hz:zs.length=n*11)(hcs:cs.length=m*11)(hn:n<400)(hm:m<400) :
  j0 cfg 190 (hB c e I left++[fb,vb,o8 190 11 g (zs++y1::y2::y3::y4::y5::y6::y7::y8::y9::y10::y11::cs),t,u,v,⟨0,false,190,11,[x1,x2,x3,x4,x5,x6,x7,x8,x9,x10,x11],0⟩]) (.own (e.n+2) g 0 (n+1+m)) (.own (e.n+6) 0 0 1)=some (.own (e.n+2) (g+1) 0 (n+1+m+1),hB c e I left++[fb,vb,o8 190 11 (g+1) ((zs++y1::y2::y3::y4::y5::y6::y7::y8::y9::y10::y11::cs)++[x1,x2,x3,x4,x5,x6,x7,x8,x9,x10,x11]),t,u,v,⟨0,false,190,11,[x1,x2,x3,x4,x5,x6,x7,x8,x9,x10,x11],0⟩]):=
 AZ (by rw[List.length_append,hz];simp only[List.length_cons,hcs];omega) (by omega)
end
theorem XL {n:Nat}:∀(s:Sl),∀x∈p6 s,Refs n x
 | .nil,x,hx=>by simp[p6]at hx
 | .cons k nm e r as' th el rest,x,hx=>by
  simp only[p6,bG,List.cons_append,List.nil_append,List.mem_cons]at hx;rcases hx with rfl | rfl | rfl | rfl | rfl | rfl | rfl | rfl | rfl | rfl | rfl | hx
  ·exact .int _ _
  ·exact .str _
  ·exact .int _ _
  ·exact .int _ _
  ·exact .str _
  ·exact .vec _ _
  ·exact .str _
  ·exact .vec _ _
  ·exact .vec _ _
  ·exact .vec _ _
  ·exact .vec _ _
  ·exact XL rest x hx
theorem frz_S {n d:Nat}{H:c6}:∀(s:Sl),p5 (kP n H (d+1)) (p6 s)=some (p6 s)
 | .nil=>rfl
 | .cons k nm e r as' th el rest=>by have ih:=frz_S (n:=n) (d:=d) (H:=H) rest;simp only[p6,bG,List.cons_append,List.nil_append,p5,pL,pM,nA,ih]
theorem aR {k:Int}{nm:BA}{x:Ex}{r:Rf}{xs:List Ar}{th el:Sl}{a b c d f:AV}(ha:a=.vec x.args.length (n5 x.args)∨(a=.nils∧x.args=[]))(hb:b=.vec r.idx.length (n5 r.idx)∨(b=.nils∧r.idx=[]))(hc:c=.vec xs.length (bB xs)∨(c=.nils∧xs=[]))
  (hd:d=.vec th.len (p6 th)∨(d=.nils∧th=.nil)) (hf:f=.vec el.len (p6 el)∨(f=.nils∧el=.nil)) :
  oQ (p6 (row k nm x r xs th el)) [.int .i64 k,.str nm,.int .i64 x.op,.int .i64 x.num,.str x.name,a,.str r.name,b,c,d,f]:=by
 simp only[row,p6,bG,List.cons_append,List.nil_append];refine ⟨.inl rfl,.inl rfl,.inl rfl,.inl rfl,.inl rfl,?_,.inl rfl,?_,?_,?_,?_,trivial⟩
 ·rcases ha with rfl | ⟨rfl,h⟩
  ·exact .inl rfl
  ·rw[h];exact .inr ⟨rfl,rfl⟩
 ·rcases hb with rfl | ⟨rfl,h⟩
  ·exact .inl rfl
  ·rw[h];exact .inr ⟨rfl,rfl⟩
 ·rcases hc with rfl | ⟨rfl,h⟩
  ·exact .inl rfl
  ·rw[h];exact .inr ⟨rfl,rfl⟩
 ·rcases hd with rfl | ⟨rfl,h⟩
  ·exact .inl rfl
  ·rw[h];exact .inr ⟨rfl,rfl⟩
 ·rcases hf with rfl | ⟨rfl,h⟩
  ·exact .inl rfl
  ·rw[h];exact .inr ⟨rfl,rfl⟩
theorem kI {k:Int}{nm:BA}{x:Ex}{r:Rf}{xs:List Ar}{th el:Sl}:p6 (row k nm x r xs th el)=[.int .i64 k,.str nm,.int .i64 x.op,.int .i64 x.num,.str x.name,.vec x.args.length (n5 x.args),.str r.name,.vec r.idx.length (n5 r.idx),.vec xs.length (bB xs),.vec th.len (p6 th),.vec el.len (p6 el)]:=by simp only[row,p6,bG,List.cons_append,List.nil_append]
theorem wrap8 {n:Int}(h1:0≤n)(h2:n<256):IntKind.wrap .u8 n=n:=by unfold IntKind.wrap;have e1:(2:Int)^IntKind.bits .u8=256:=rfl;have e3:IntKind.signed .u8=false:=rfl;simp only[e1,e3,Bool.false_and,Bool.false_eq_true,if_false];omega
theorem vnm_eq {l:Int}(h0:0≤l)(h1:l<24):(⟨#[118]⟩:BA)++(⟨#[UInt8.ofNat (97+l.tmod 26).toNat,UInt8.ofNat (97+(l.tdiv 26).tmod 26).toNat]⟩:BA)=vnm l.toNat:=by
 obtain ⟨n,rfl⟩:=Int.eq_ofNat_of_zero_le h0;have key:∀n:Fin 24,(⟨#[118]⟩:BA)++(⟨#[UInt8.ofNat (97+((n.1:Nat):Int).tmod 26).toNat,UInt8.ofNat (97+(((n.1:Nat):Int).tdiv 26).tmod 26).toNat]⟩:BA)=vnm n.1:=by decide +kernel
 exact key ⟨n,by omega⟩
theorem tm26 {l:Int}(h0:0≤l):0≤l.tmod 26∧l.tmod 26<26:=⟨Int.tmod_nonneg _ h0,Int.tmod_lt_of_pos _ (by omega)⟩
theorem td26 {l:Int}(h0:0≤l)(h1:l<24):l.tdiv 26=0:=by
 obtain ⟨n,rfl⟩:=Int.eq_ofNat_of_zero_le h0;have key:∀n:Fin 24,(((n.1:Nat):Int).tdiv 26)=0:=by decide
 exact key ⟨n,by omega⟩
end Go.Proofs.YtonbocmibeikmaaGreat
end
