/- My own texts, put together by a program of mine. -/
import Derived.Test.YtonbocmibeikmaaGreatIX7
set_option linter.unusedSimpArgs false
set_option linter.unusedVariables false
set_option maxRecDepth 100000
set_option maxHeartbeats 4000000
section
namespace Go.Proofs.YtonbocmibeikmaaGreat
open Go.Ab Go.Un
theorem c_argsA {c:Core}{e:Frame}{left I:Int}{l:c6}(hc:OkC c)(hI:OkI c.L I)(hL:c.L.length<4611686018427387904)(vars:List BA)(hN:vars.length<1000)(f g:Fu)(hp:f.params.length≤2)(hq:g.params.length≤2):CH 129 [.ptr 5 0 0,.agg (fE f),.agg (fE g),.vec vars.length (bA vars)] (hB c e I left++l) (.vec (aS c f.params vars g.params I).1.length (cC (aS c f.params vars g.params I).1)) (hB c e (aS c f.params vars g.params I).2 left++l):=c_args (e:=⟨e.b0,e.b1,e.b2,e.z,e.m,e.g,e.rest++l⟩) hc hI hL vars hN f g hp hq
theorem sealC_n {l:List BA}:o6 qF (bA l)=some (bA l):=by
 induction l with
 | nil=>rfl
 | cons x l ih=>
  have e:qF (.str x)=some (.str x):=rfl;simp only[bA,List.map_cons,o6,e]at ih ⊢;rw[ih]
variable {β:Nat}
theorem VP {H:c6}{b:Blk}(h:H[β]?=some b):H.set β b=H:=by obtain ⟨h1,h2⟩:=List.getElem?_eq_some_iff.1 h;rw[←h2];exact List.set_getElem_self h1
variable {g:Nat}
theorem S3 {f:FuncId}{args args':List AV}{H:c6}{Q:AV→c6→Prop}{vs:List BA}(hb:H[β]?=some ⟨g,false,9,1,bA vs,vs.length⟩)(ha:DQ β g 0 vs.length (bA vs) args' args)(r:CallA Tryz.prog cfg f args' H Q):CallA Tryz.prog cfg f args H Q:=by
 have e:H.set β (eM ⟨g,false,9,1,bA vs,vs.length⟩ (0+vs.length*1))=H:=by rw[show eM ⟨g,false,9,1,bA vs,vs.length⟩ (0+vs.length*1)=⟨g,false,9,1,bA vs,vs.length⟩ from by simp[eM]];exact VP hb
 refine CallA.HF (β:=β) (off:=0) (len:=vs.length) (cs:=bA vs) hb rfl (by simp[bE]) ?_ ha (by rw[e];exact r);simp only[List.drop_zero,Nat.mul_one];rw[List.take_of_length_le t183];exact sealC_n
theorem raise {c:Code}{sl:List AV}{h:c6}{Q:Exit→St→Prop}{k:Nat}{b:Blk}(hb:h[β]?=some b)(hk:b.frz≤k)(r:c9 Tryz.prog cfg c ⟨sl,h.set β ⟨b.gen,b.cQ,b.elem,b.esz,b.cells,k⟩⟩ Q):c9 Tryz.prog cfg c ⟨sl,h⟩ Q:=by
 refine c9.step _ (fun B φ w i=>?_) r;have:=qJ k i hb;have e:eM b k=⟨b.gen,b.cQ,b.elem,b.esz,b.cells,k⟩:=by simp only[eM,Nat.max_eq_right hk]
 rw[e]at this;exact this
section
variable {c:Core}{e:Frame}{I left:Int}{l:c6}{fb:Blk}{gv:Nat}{vs:List BA}
theorem hB_v:(hB c e I left++(fb::⟨gv,false,9,1,bA vs,vs.length⟩::l))[e.n+1]?=some ⟨gv,false,9,1,bA vs,vs.length⟩:=gP
theorem oS (hc:OkC c)(hI:OkI c.L I)(hL:c.L.length<4611686018427387904)(hN:vs.length<1000):CH 128 [.ptr 5 0 0,.own (e.n+1) gv 0 vs.length] (hB c e I left++(fb::⟨gv,false,9,1,bA vs,vs.length⟩::l)) (.agg (w8 (j6 c vs I).1)) (hB c e (j6 c vs I).2 left++(fb::⟨gv,false,9,1,bA vs,vs.length⟩::l)):=
 S3 (args':=[.ptr 5 0 0,.vec vs.length (bA vs)]) hB_v ⟨.inl rfl,.inr ⟨rfl,rfl⟩,trivial⟩ (BD hc hI hL vs hN)
theorem CR (hc:OkC c)(hI:OkI c.L I)(hL:c.L.length<4611686018427387904)(hN:vs.length<1000)(f:Fu)(hp:f.params.length≤2):CH 127 [.ptr 5 0 0,.agg (fE f),.own (e.n+1) gv 0 vs.length] (hB c e I left++(fb::⟨gv,false,9,1,bA vs,vs.length⟩::l)) (.agg (AG (y0 c f.params vs I).1)) (hB c e (y0 c f.params vs I).2 left++(fb::⟨gv,false,9,1,bA vs,vs.length⟩::l)):=
 S3 (args':=[.ptr 5 0 0,.agg (fE f),.vec vs.length (bA vs)]) hB_v ⟨.inl rfl,.inl rfl,.inr ⟨rfl,rfl⟩,trivial⟩ (YT hc hI hL vs hN f hp)
theorem NL (hc:OkC c)(hI:OkI c.L I)(hL:c.L.length<4611686018427387904)(hN:vs.length<1000)(f g:Fu)(hp:f.params.length≤2)(hq:g.params.length≤2):CH 129 [.ptr 5 0 0,.agg (fE f),.agg (fE g),.own (e.n+1) gv 0 vs.length] (hB c e I left++(fb::⟨gv,false,9,1,bA vs,vs.length⟩::l)) (.vec (aS c f.params vs g.params I).1.length (cC (aS c f.params vs g.params I).1)) (hB c e (aS c f.params vs g.params I).2 left++(fb::⟨gv,false,9,1,bA vs,vs.length⟩::l)):=
 S3 (args':=[.ptr 5 0 0,.agg (fE f),.agg (fE g),.vec vs.length (bA vs)]) hB_v ⟨.inl rfl,.inl rfl,.inl rfl,.inr ⟨rfl,rfl⟩,trivial⟩ (c_argsA hc hI hL vs hN f g hp hq)
def P8 (c:Core)(f:Fu)(fu:Nat)(left:Int):Prop:=∀{e:Frame} (I l':Int) (vs all:List BA) (d m:Int),OkI c.L I→0≤l'→l'<left→0≤d→d≤100→0≤m→m≤100→(∀x∈vs,x∈all)→Fr l'.toNat all→vs.length+l'.toNat≤500→
 CallA Tryz.prog cfg 86 [.ptr 5 0 0,.agg (fE f),.vec vs.length (bA vs),.int .i64 d,.int .i64 m] (hB c e I l') (fun y' h'=>y'=.vec (g7 c f.params fu vs d m I l').1.len (s4 (g7 c f.params fu vs d m I l').1)∧h'=hB c e (g7 c f.params fu vs d m I l').2.1 (g7 c f.params fu vs d m I l').2.2)
theorem P8.V {f:Fu}{fu:Nat}{left0:Int}(h:P8 c f fu left0)(l':Int)(all:List BA)(d m:Int)(hI:OkI c.L I)(h1:0≤l')(h2:l'<left0)(h3:0≤d)(h4:d≤100)(h5:0≤m)(h6:m≤100)(h7:∀x∈vs,x∈all)(h8:Fr l'.toNat all)(h9:vs.length+l'.toNat≤500) :
  CallA Tryz.prog cfg 86 [.ptr 5 0 0,.agg (fE f),.own (e.n+1) gv 0 vs.length,.int .i64 d,.int .i64 m] (hB c e I l'++(fb::⟨gv,false,9,1,bA vs,vs.length⟩::l)) (fun y' h'=>y'=.vec (g7 c f.params fu vs d m I l').1.len (s4 (g7 c f.params fu vs d m I l').1)∧h'=hB c e (g7 c f.params fu vs d m I l').2.1 (g7 c f.params fu vs d m I l').2.2++(fb::⟨gv,false,9,1,bA vs,vs.length⟩::l)):=
 S3 (args':=[.ptr 5 0 0,.agg (fE f),.vec vs.length (bA vs),.int .i64 d,.int .i64 m]) hB_v ⟨.inl rfl,.inl rfl,.inr ⟨rfl,rfl⟩,.inl rfl,.inl rfl,trivial⟩ (h (e:=⟨e.b0,e.b1,e.b2,e.z,e.m,e.g,e.rest++(fb::⟨gv,false,9,1,bA vs,vs.length⟩::l)⟩) I l' vs all d m hI h1 h2 h3 h4 h5 h6 h7 h8 h9)
def gO (g n:Nat):Nat:=if n=0 then g else g+1
theorem VQ (hn:vs.length<1000):j9 cfg 9 (hB c e I left++[fb,⟨0,false,9,1,[],0⟩]) (.own (e.n+1) 0 0 0) (.vec vs.length (bA vs))=some (.own (e.n+1) (gO 0 vs.length) 0 vs.length,hB c e I left++[fb,⟨gO 0 vs.length,false,9,1,bA vs,0⟩]):=by
 have e1:cfg.sz 9=1:=rfl;have e2:(cfg.ti 9).bytes=16:=rfl;have hm:vs.length≤maxLen:=by
  have:(1000:Nat)≤maxLen:=by decide
  omega
 have hb:vs.length*16≤140737488355328:=by omega
 cases vs with
 | nil=>simp[j9,rd,lenOf,e1,e2,gP,gO,bA]
 | cons x vs=>
  have h0:(bA (x::vs)).length=vs.length+1:=by simp[bA]
  simp only[List.length_cons]at hm hb;simp[j9,rd,lenOf,e1,e2,gP,gO,h0,hm,hb,hU]
variable {t:Blk}
theorem app_vs {O p:Blk}{x:BA}(hn:vs.length<1000):j9 cfg 9 (hB c e I left++[fb,⟨gv,false,9,1,bA vs,vs.length⟩,O,t,p,⟨0,false,9,1,[.str x],0⟩]) (.own (e.n+1) gv 0 vs.length) (.own (e.n+5) 0 0 1)=some (.own (e.n+1) (gv+1) 0 (vs.length+1),hB c e I left++[fb,⟨gv+1,false,9,1,bA (vs++[x]),vs.length⟩,O,t,p,⟨0,false,9,1,[.str x],0⟩]):=by
 have e1:cfg.sz 9=1:=rfl;have e2:(cfg.ti 9).bytes=16:=rfl;have hm:vs.length+1≤maxLen:=by
  have:(1001:Nat)≤maxLen:=by decide
  omega
 have hb:(vs.length+1)*16≤140737488355328:=by omega
 have ht:List.take vs.length (bA vs)=bA vs:=List.take_of_length_le t183;have hnl:¬vs.length+1≤vs.length:=by omega
 simp[j9,rd,lenOf,e1,e2,gP,bE,hm,hb,hU,ht,hnl,lK]
variable {n:Nat}{zs:List AV}
theorem VR {vb t:Blk}{g:Nat}{x1 x2 x3 x4 x5 x6 x7 x8 x9 x10 x11:AV}(hz:zs.length=n*11)(hn:n<1000) :
  j9 cfg 190 (hB c e I left++[fb,vb,s8 190 11 g zs,t,⟨0,false,190,11,[x1,x2,x3,x4,x5,x6,x7,x8,x9,x10,x11],0⟩]) (.own (e.n+2) g 0 n) (.own (e.n+4) 0 0 1)=some (.own (e.n+2) (g+1) 0 (n+1),hB c e I left++[fb,vb,s8 190 11 (g+1) (zs++[x1,x2,x3,x4,x5,x6,x7,x8,x9,x10,x11]),t,⟨0,false,190,11,[x1,x2,x3,x4,x5,x6,x7,x8,x9,x10,x11],0⟩]):=by
 have hb:(hB c e I left++[fb,vb,s8 190 11 g zs,t,⟨0,false,190,11,[x1,x2,x3,x4,x5,x6,x7,x8,x9,x10,x11],0⟩])[e.n+2]?=some (s8 190 11 g zs):=gP;rw[aJ (C:=cfg) (K:=11) (m:=1) (new:=[x1,x2,x3,x4,x5,x6,x7,x8,x9,x10,x11]) hb rfl (by omega) hz rfl (by omega) t151 rfl (by decide) (by omega),hU];rfl
theorem VS {vb t u:Blk}{g:Nat}{x1 x2 x3 x4 x5 x6 x7 x8 x9 x10 x11:AV}(hz:zs.length=n*11)(hn:n<1000) :
  j9 cfg 190 (hB c e I left++[fb,vb,s8 190 11 g zs,t,u,⟨0,false,190,11,[x1,x2,x3,x4,x5,x6,x7,x8,x9,x10,x11],0⟩]) (.own (e.n+2) g 0 n) (.own (e.n+5) 0 0 1)=some (.own (e.n+2) (g+1) 0 (n+1),hB c e I left++[fb,vb,s8 190 11 (g+1) (zs++[x1,x2,x3,x4,x5,x6,x7,x8,x9,x10,x11]),t,u,⟨0,false,190,11,[x1,x2,x3,x4,x5,x6,x7,x8,x9,x10,x11],0⟩]):=by
 have hb:(hB c e I left++[fb,vb,s8 190 11 g zs,t,u,⟨0,false,190,11,[x1,x2,x3,x4,x5,x6,x7,x8,x9,x10,x11],0⟩])[e.n+2]?=some (s8 190 11 g zs):=gP;rw[aJ (C:=cfg) (K:=11) (m:=1) (new:=[x1,x2,x3,x4,x5,x6,x7,x8,x9,x10,x11]) hb rfl (by omega) hz rfl (by omega) t151 rfl (by decide) (by omega),hU];rfl
theorem CT {vb t u v:Blk}{g:Nat}{x1 x2 x3 x4 x5 x6 x7 x8 x9 x10 x11:AV}(hz:zs.length=n*11)(hn:n<1000) :
  j9 cfg 190 (hB c e I left++[fb,vb,s8 190 11 g zs,t,u,v,⟨0,false,190,11,[x1,x2,x3,x4,x5,x6,x7,x8,x9,x10,x11],0⟩]) (.own (e.n+2) g 0 n) (.own (e.n+6) 0 0 1)=some (.own (e.n+2) (g+1) 0 (n+1),hB c e I left++[fb,vb,s8 190 11 (g+1) (zs++[x1,x2,x3,x4,x5,x6,x7,x8,x9,x10,x11]),t,u,v,⟨0,false,190,11,[x1,x2,x3,x4,x5,x6,x7,x8,x9,x10,x11],0⟩]):=by
 have hb:(hB c e I left++[fb,vb,s8 190 11 g zs,t,u,v,⟨0,false,190,11,[x1,x2,x3,x4,x5,x6,x7,x8,x9,x10,x11],0⟩])[e.n+2]?=some (s8 190 11 g zs):=gP;rw[aJ (C:=cfg) (K:=11) (m:=1) (new:=[x1,x2,x3,x4,x5,x6,x7,x8,x9,x10,x11]) hb rfl (by omega) hz rfl (by omega) t151 rfl (by decide) (by omega),hU];rfl
variable {m:Nat}{cs:List AV}
theorem NM {vb t u s:Blk}{g:Nat}(hz:zs.length=n*11)(hcs:cs.length=m*11)(hn:n<1000)(hm:m<1000) :
  j9 cfg 190 (hB c e I left++[fb,vb,s8 190 11 g zs,t,u,s]) (.own (e.n+2) g 0 n) (.vec m cs)=some (.own (e.n+2) (gO g m) 0 (n+m),hB c e I left++[fb,vb,s8 190 11 (gO g m) (zs++cs),t,u,s]):=by
 have hb:(hB c e I left++[fb,vb,s8 190 11 g zs,t,u,s])[e.n+2]?=some (s8 190 11 g zs):=gP;by_cases h0:m=0
 ·subst h0;obtain rfl:cs=[]:=List.length_eq_zero_iff.1 (by simpa using hcs);have e1:cfg.sz 190=11:=rfl;have e2:(cfg.ti 190).bytes=192:=rfl;have hmx:n≤maxLen:=by
   have:(1000:Nat)≤maxLen:=by decide
   omega
  have hbd:n*192≤140737488355328:=by omega
  simp[j9,rd,lenOf,e1,e2,hb,Z5,gO,hmx,hbd]
 ·rw[aJ (C:=cfg) (K:=11) (m:=m) (new:=cs) hb rfl (by omega) hz hcs (by omega) rfl rfl (by decide) (by omega),hU];simp only[gO,h0,if_false];rfl
theorem VT {vb t u s:Blk}{g:Nat}{y1 y2 y3 y4 y5 y6 y7 y8 y9 y10 y11:AV}(hz:zs.length=n*11)(hcs:cs.length=m*11)(hn:n<900)(hm:m<1000) :
  j9 cfg 190 (hB c e I left++[fb,vb,s8 190 11 g (zs++[y1,y2,y3,y4,y5,y6,y7,y8,y9,y10,y11]),t,u,s]) (.own (e.n+2) g 0 (n+1)) (.vec m cs)=some (.own (e.n+2) (gO g m) 0 (n+1+m),hB c e I left++[fb,vb,s8 190 11 (gO g m) ((zs++[y1,y2,y3,y4,y5,y6,y7,y8,y9,y10,y11])++cs),t,u,s]):=
 NM (by rw[List.length_append,hz];simp;omega) hcs (by omega) hm
theorem VU {vb t u v:Blk}{g:Nat}{y1 y2 y3 y4 y5 y6 y7 y8 y9 y10 y11 x1 x2 x3 x4 x5 x6 x7 x8 x9 x10 x11:AV}(hz:zs.length=n*11)(hcs:cs.length=m*11)(hn:n<400)(hm:m<400) :
  j9 cfg 190 (hB c e I left++[fb,vb,s8 190 11 g (zs++y1::y2::y3::y4::y5::y6::y7::y8::y9::y10::y11::cs),t,u,v,⟨0,false,190,11,[x1,x2,x3,x4,x5,x6,x7,x8,x9,x10,x11],0⟩]) (.own (e.n+2) g 0 (n+1+m)) (.own (e.n+6) 0 0 1)=some (.own (e.n+2) (g+1) 0 (n+1+m+1),hB c e I left++[fb,vb,s8 190 11 (g+1) ((zs++y1::y2::y3::y4::y5::y6::y7::y8::y9::y10::y11::cs)++[x1,x2,x3,x4,x5,x6,x7,x8,x9,x10,x11]),t,u,v,⟨0,false,190,11,[x1,x2,x3,x4,x5,x6,x7,x8,x9,x10,x11],0⟩]):=
 CT (by rw[List.length_append,hz];simp only[List.length_cons,hcs];omega) (by omega)
end
theorem YU {n:Nat}:∀(s:Sl),∀x∈s4 s,Refs n x
 | .nil,x,hx=>by simp[s4]at hx
 | .cons k nm e r as' th el rest,x,hx=>by
  simp only[s4,cM,List.cons_append,List.nil_append,List.mem_cons]at hx;rcases hx with rfl | rfl | rfl | rfl | rfl | rfl | rfl | rfl | rfl | rfl | rfl | hx
  ·exact .int _ _
  ·exact .str _
  ·exact .int _ _
  ·exact .int _ _
  ·exact .str _
  ·exact .vec _ _
  ·exact .str _
  ·exact .vec _ _
  ·exact .vec _ _
  ·exact .vec _ _
  ·exact .vec _ _
  ·exact YU rest x hx
theorem frz_S {n d:Nat}{H:c6}:∀(s:Sl),o6 (iT n H (d+1)) (s4 s)=some (s4 s)
 | .nil=>rfl
 | .cons k nm e r as' th el rest=>by have ih:=frz_S (n:=n) (d:=d) (H:=H) rest;simp only[s4,cM,List.cons_append,List.nil_append,o6,uD,qP,oE,ih]
theorem bR {k:Int}{nm:BA}{x:Ex}{r:Rf}{xs:List Ar}{th el:Sl}{a b c d f:AV}(ha:a=.vec x.args.length (o2 x.args)∨(a=.j4∧x.args=[]))(hb:b=.vec r.idx.length (o2 r.idx)∨(b=.j4∧r.idx=[]))(hc:c=.vec xs.length (cC xs)∨(c=.j4∧xs=[]))
  (hd:d=.vec th.len (s4 th)∨(d=.j4∧th=.nil)) (hf:f=.vec el.len (s4 el)∨(f=.j4∧el=.nil)) :
  pV (s4 (row k nm x r xs th el)) [.int .i64 k,.str nm,.int .i64 x.op,.int .i64 x.num,.str x.name,a,.str r.name,b,c,d,f]:=by
 simp only[row,s4,cM,List.cons_append,List.nil_append];refine ⟨.inl rfl,.inl rfl,.inl rfl,.inl rfl,.inl rfl,?_,.inl rfl,?_,?_,?_,?_,trivial⟩
 ·rcases ha with rfl | ⟨rfl,h⟩
  ·exact .inl rfl
  ·rw[h];exact .inr ⟨rfl,rfl⟩
 ·rcases hb with rfl | ⟨rfl,h⟩
  ·exact .inl rfl
  ·rw[h];exact .inr ⟨rfl,rfl⟩
 ·rcases hc with rfl | ⟨rfl,h⟩
  ·exact .inl rfl
  ·rw[h];exact .inr ⟨rfl,rfl⟩
 ·rcases hd with rfl | ⟨rfl,h⟩
  ·exact .inl rfl
  ·rw[h];exact .inr ⟨rfl,rfl⟩
 ·rcases hf with rfl | ⟨rfl,h⟩
  ·exact .inl rfl
  ·rw[h];exact .inr ⟨rfl,rfl⟩
theorem lR {k:Int}{nm:BA}{x:Ex}{r:Rf}{xs:List Ar}{th el:Sl}:s4 (row k nm x r xs th el)=[.int .i64 k,.str nm,.int .i64 x.op,.int .i64 x.num,.str x.name,.vec x.args.length (o2 x.args),.str r.name,.vec r.idx.length (o2 r.idx),.vec xs.length (cC xs),.vec th.len (s4 th),.vec el.len (s4 el)]:=by simp only[row,s4,cM,List.cons_append,List.nil_append]
theorem wrap8 {n:Int}(h1:0≤n)(h2:n<256):IntKind.wrap .u8 n=n:=by unfold IntKind.wrap;have e1:(2:Int)^IntKind.bits .u8=256:=rfl;have e3:IntKind.signed .u8=false:=rfl;simp only[e1,e3,Bool.false_and,Bool.false_eq_true,if_false];omega
theorem vnm_eq {l:Int}(h0:0≤l)(h1:l<24):(⟨#[118]⟩:BA)++(⟨#[UInt8.ofNat (97+l.tmod 26).toNat,UInt8.ofNat (97+(l.tdiv 26).tmod 26).toNat]⟩:BA)=vnm l.toNat:=by
 obtain ⟨n,rfl⟩:=Int.eq_ofNat_of_zero_le h0;have key:∀n:Fin 24,(⟨#[118]⟩:BA)++(⟨#[UInt8.ofNat (97+((n.1:Nat):Int).tmod 26).toNat,UInt8.ofNat (97+(((n.1:Nat):Int).tdiv 26).tmod 26).toNat]⟩:BA)=vnm n.1:=by decide +kernel
 exact key ⟨n,by omega⟩
theorem tm26 {l:Int}(h0:0≤l):0≤l.tmod 26∧l.tmod 26<26:=⟨Int.tmod_nonneg _ h0,Int.tmod_lt_of_pos _ (by omega)⟩
theorem td26 {l:Int}(h0:0≤l)(h1:l<24):l.tdiv 26=0:=by
 obtain ⟨n,rfl⟩:=Int.eq_ofNat_of_zero_le h0;have key:∀n:Fin 24,(((n.1:Nat):Int).tdiv 26)=0:=by decide
 exact key ⟨n,by omega⟩
end Go.Proofs.YtonbocmibeikmaaGreat
end
