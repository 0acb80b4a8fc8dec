/- My own texts, put together by a program of mine. -/
import Derived.Test.YtapdldekgbbomaaGreatDoorGW3
set_option linter.unusedSimpArgs false
set_option linter.unusedVariables false
set_option maxRecDepth 100000
set_option maxHeartbeats 4000000
section
namespace Go.Proofs.YtapdldekgbbomaaGreatDoor
open Go.Ab Go.Un
def cY:Sl→Int→List Int
  | .nil,_=>[]
  | .cons k n e r xs th el rest,t=>
    if k=7 then t::(cY th (t+1)++((if 0<el.len then t::cY el (t+1+(th.wt:Int)) else [])++cY rest (t+1+(th.wt:Int)+(el.wt:Int))))
    else if k=8 then t::(cY th (t+1)++(t::cY rest (t+1+(th.wt:Int))))
    else t::cY rest (t+1)
theorem iO:∀(S:Sl) (t:Int),(cY S t).length≤2*S.wt
  | .nil,t=>by simp[cY]
  | .cons k n e r xs th el rest,t=>by
    have h1:=iO th (t+1);have h2:=iO el (t+1+(th.wt:Int));have h3:=iO rest (t+1+(th.wt:Int)+(el.wt:Int));have h4:=iO rest (t+1+(th.wt:Int));have h5:=iO rest (t+1);unfold cY;simp only[Sl.wt];split
    · split<;>simp only[List.length_cons,List.length_append,List.length_nil]<;>omega
    · split<;>simp only[List.length_cons,List.length_append]<;>omega
def rV (c:List Ins)(i:Nat)(v:Int):List Ins:=c.set i { c.getD i l5 with target:=v }
theorem lJ {c:List Ins}{i:Nat}{v:Int}:(rV c i v).length=c.length:=by simp[rV]
theorem zH {c d:List Ins}{x:Ins}{i:Nat}{v:Int}(hi:i=c.length):rV (c++(x::d)) i v=c++({ x with target:=v }::d):=by subst hi;simp[rV,List.getD]
def cB (s:Sco):Sco:={ s with st:=s.st+1 }
def r8 (s:Sco)(i:Ins)(t:Int):Sco:={ s with code:=s.code++[i],sites:=s.sites++[t] }
def dC (s:Sco)(i:Nat)(v:Int):Sco:={ s with code:=rV s.code i v }
def qU (s:Sco)(n:BA):Sco:={ s with l:=s.l++[⟨n,4,s.loc⟩],loc:=s.loc+1 }
def dG (l0:List Ent)(s:Sco)(S:Sl):Sco:={ s with l:=l0,loc:=gI S s.loc,st:=s.st+(S.wt:Int),code:=s.code++s4 S s.l s.loc s.code.length,sites:=s.sites++cY S s.st }
variable {k:Nat}{s:Sco}
theorem sU {i:Nat}{v:Int}:aW k (dC s i v)=aW k s:=by simp only[aW,dC,lJ]
variable {t:Int}
theorem NZ {i:Ins}{n:BA}:aW k (qU (r8 (cB s) i t) n)=⟨0,false,161,10,[.vec s.p.globals.length (o6 s.p.globals),.vec s.p.c6.length (j4 s.p.c6),.vec s.p.funcs.length (l8 s.p.funcs),.vec (s.l.length+1) (j8 (s.l++[⟨n,4,s.loc⟩])),.int .i64 (s.loc+1),.int .i64 (s.st+1),.int .i64 0,.int .i64 0,.own (k+1) (s.code.length+1) 0 (s.code.length+1),.own (k+2) (s.sites.length+1) 0 (s.sites.length+1)],0⟩:=by simp only[aW,qU,r8,cB,List.length_append,List.length_cons,List.length_nil,Nat.zero_add]
theorem zI:(aW k s).gen=0:=rfl
theorem uS:(aW k s).cG=false:=rfl
theorem uT:(aW k s).elem=161:=rfl
theorem zJ:(aW k s).esz=10:=rfl
theorem zK:(aW k s).frz=0:=rfl
theorem qV:(aW k s).cells=[.vec s.p.globals.length (o6 s.p.globals),.vec s.p.c6.length (j4 s.p.c6),.vec s.p.funcs.length (l8 s.p.funcs),.vec s.l.length (j8 s.l),.int .i64 s.loc,.int .i64 s.st,.int .i64 0,.int .i64 0,.own (k+1) s.code.length 0 s.code.length,.own (k+2) s.sites.length 0 s.sites.length]:=rfl
theorem GG:(cB s).l=s.l:=rfl
theorem V0:(cB s).loc=s.loc:=rfl
theorem stSt_p:(cB s).p=s.p:=rfl
theorem gY:(cB s).code.length=s.code.length:=rfl
theorem eX:(cB s).sites.length=s.sites.length:=rfl
theorem N5 {i:Ins}:(r8 s i t).l=s.l:=rfl
theorem uU {i:Ins}:(r8 s i t).loc=s.loc:=rfl
theorem V1 {i:Ins}:(r8 s i t).st=s.st:=rfl
theorem stPut_p {i:Ins}:(r8 s i t).p=s.p:=rfl
theorem cV {i:Ins}:(r8 s i t).code.length=s.code.length+1:=by simp[r8]
theorem cE {i:Ins}:(r8 s i t).sites.length=s.sites.length+1:=by simp[r8]
theorem stTgt_l {i:Nat}:(dC s i t).l=s.l:=rfl
theorem kI {i:Nat}:(dC s i t).code.length=s.code.length:=lJ
theorem oH {i:Nat}:(dC s i t).sites.length=s.sites.length:=rfl
variable {l0:List Ent}{S:Sl}
theorem finS_l:(dG l0 s S).l=l0:=rfl
theorem finS_p:(dG l0 s S).p=s.p:=rfl
theorem iW:s.code.length≤(dG l0 s S).code.length∧(dG l0 s S).code.length≤s.code.length+2*S.wt:=by have:=fE S s.l s.loc s.code.length;simp only[dG,List.length_append];omega
theorem iP:s.sites.length≤(dG l0 s S).sites.length∧(dG l0 s S).sites.length≤s.sites.length+2*S.wt:=by have:=iO S s.st;simp only[dG,List.length_append];omega
theorem rN:∀(S:Sl) (n:Int),n≤gI S n∧gI S n≤n+(S.wt:Int)
  | .nil,n=>by simp[gI,Sl.wt]
  | .cons k nm e r xs th el rest,n=>by
    have r1:=rN rest (n+1);have r2:=rN rest (gI el (gI th n));have r3:=rN rest (gI th n);have r4:=rN rest n;have t1:=rN th n;have e1:=rN el (gI th n);simp only[gI,Sl.wt];split
    · omega
    · split
      · omega
      · split<;>omega
structure Bnd (s:Sco)(W:Nat):Prop where
  lp:0<s.l.length
  lb:s.l.length+W≤900
  cb:s.code.length+2*W≤5000
  sb:s.sites.length+2*W≤5000
  o0:0≤s.loc
  ob:s.loc+(W:Int)≤5000
  t0:0≤s.st
  tb:s.st+(W:Int)≤5000
structure Bd (E:Env)(c:Ctx)(p:Go.Un.Pg):Prop where
  hE:E.c6=p.c6
  hc:c.nm=p.c6.length
  hf:E.funcs=p.funcs.map fun f=>(f.name,f.params)
  fp:∀f∈E.funcs,f.2.length≤2
theorem Sco.eq {a b:Sco}(h1:a.p=b.p)(h2:a.l=b.l)(h3:a.loc=b.loc)(h4:a.st=b.st)(h5:a.code=b.code)(h6:a.sites=b.sites):a=b:=by cases a;cases b;simp_all
variable {rest:Sl}
theorem fin_var {n:BA}{e:Ex}:dG l0 (qU (r8 (cB s) ⟨1,s.loc,false,gH s.l e,cL,[],[]⟩ s.st) n) rest=dG l0 s (.cons 1 n e n5 [] .nil .nil rest):=by
  refine Sco.eq rfl rfl ?_ ?_ ?_ ?_
  · simp only[dG,qU,r8,cB,gI,if_true]
  · simp only[dG,qU,r8,cB,Sl.wt];omega
  · simp only[dG,qU,r8,cB,s4,if_true,List.append_assoc,List.cons_append,List.nil_append,List.length_append,List.length_cons,List.length_nil,Nat.zero_add]
  · simp only[dG,qU,r8,cB,cY,show ¬(1:Int)=7 from by decide,show ¬(1:Int)=8 from by decide,if_false,List.append_assoc,List.cons_append,List.nil_append]
variable {r:Rf}{xs:List Ar}
theorem qW {i:Ins}{k:Int}{n:BA}{e:Ex}(h:s4 (.cons k n e r xs .nil .nil rest) s.l s.loc s.code.length=i::s4 rest s.l s.loc (s.code.length+1))(hk:k≠1∧k≠7∧k≠8):dG l0 (r8 (cB s) i s.st) rest=dG l0 s (.cons k n e r xs .nil .nil rest):=by
  refine Sco.eq rfl rfl ?_ ?_ ?_ ?_
  · simp only[dG,r8,cB,gI,hk.1,hk.2.1,hk.2.2,if_false]
  · simp only[dG,r8,cB,Sl.wt];omega
  · simp only[dG,h,r8,cB,List.append_assoc,List.cons_append,List.nil_append,List.length_append,List.length_cons,List.length_nil,Nat.zero_add]
  · simp only[dG,r8,cB,cY,hk.2.1,hk.2.2,if_false,List.append_assoc,List.cons_append,List.nil_append]
theorem len_nil {s:Sl}:¬0<s.len↔s=.nil:=⟨fun h=>Sl.yH (by omega),fun h=>by subst h;simp[Go.Un.Sl.len]⟩
def dZ (s:Sco)(e:Ex)(th:Sl):Sco:=dG s.l (r8 (cB s) ⟨6,0,false,gH s.l e,cL,[],[]⟩ s.st) th
def stJ (s:Sco)(e:Ex)(th:Sl):Sco:=r8 (dZ s e th) ⟨7,0,false,l4,cL,[],[]⟩ s.st
def eA (s:Sco)(e:Ex)(th el:Sl):Sco:=dG s.l (dC (stJ s e th) s.code.length ((stJ s e th).code.length:Int)) el
def A7 (s:Sco)(e:Ex)(th:Sl):Sco:=r8 (dZ s e th) ⟨7,((s.code.length:Nat):Int),false,l4,cL,[],[]⟩ s.st
variable {th:Sl}
theorem pM {e:Ex}:(dZ s e th).code=s.code++((⟨6,0,false,gH s.l e,cL,[],[]⟩:Ins)::s4 th s.l s.loc (s.code.length+1)):=by simp only[dZ,dG,r8,cB,List.append_assoc,List.cons_append,List.nil_append,List.length_append,List.length_cons,List.length_nil,Nat.zero_add]
theorem pN {e:Ex}:(dZ s e th).code.length=s.code.length+1+(s4 th s.l s.loc (s.code.length+1)).length:=by rw[pM];simp;omega
theorem OA {e:Ex}{v:Int}:(dC (stJ s e th) s.code.length v).code=s.code++((⟨6,v,false,gH s.l e,cL,[],[]⟩:Ins)::(s4 th s.l s.loc (s.code.length+1)++[⟨7,0,false,l4,cL,[],[]⟩])):=by simp only[dC,stJ,r8,pM,List.append_assoc,List.cons_append];exact zH rfl
variable {el:Sl}
theorem uV {e:Ex}:(eA s e th el).code=s.code++((⟨6,((stJ s e th).code.length:Int),false,gH s.l e,cL,[],[]⟩:Ins)::(s4 th s.l s.loc (s.code.length+1)++(⟨7,0,false,l4,cL,[],[]⟩::s4 el s.l (gI th s.loc) ((dZ s e th).code.length+1)))):=by
  have h1:(dC (stJ s e th) s.code.length ((stJ s e th).code.length:Int)).code.length=(dZ s e th).code.length+1:=by simp only[dC,lJ,stJ,r8,List.length_append,List.length_cons,List.length_nil,Nat.zero_add]
  show (dC (stJ s e th) s.code.length ((stJ s e th).code.length:Int)).code++s4 el s.l (gI th s.loc) _=_;rw[h1,OA];simp only[List.append_assoc,List.cons_append,List.nil_append]
theorem stJ_len {e:Ex}:(stJ s e th).code.length=(dZ s e th).code.length+1:=by simp[stJ,r8]
theorem AX {e:Ex}:(eA s e th el).code.length=(dZ s e th).code.length+1+(s4 el s.l (gI th s.loc) ((dZ s e th).code.length+1)).length:=by rw[uV,pN];simp;omega
theorem fin_if {n:BA}{e:Ex}:dG l0 (dC (dZ s e th) s.code.length ((dZ s e th).code.length:Int)) rest=dG l0 s (.cons 7 n e r xs th .nil rest):=by
  have hne:¬(7:Int)=1∧¬(7:Int)=2∧¬((7:Int)=3∨(7:Int)=4)∧¬(7:Int)=5∧¬(7:Int)=6:=by decide
  have h0:¬0<Sl.nil.len:=by simp[Go.Un.Sl.len]
  refine Sco.eq rfl rfl ?_ ?_ ?_ ?_
  · simp only[dG,dC,dZ,r8,cB,gI,hne.1,if_false,if_true]
  · simp only[dG,dC,dZ,r8,cB,Sl.wt];omega
  · show rV (dZ s e th).code s.code.length _++s4 rest s.l (gI th s.loc) (rV (dZ s e th).code s.code.length _).length=s.code++s4 _ s.l s.loc s.code.length
    rw[lJ,pN,pM,zH rfl];simp only[s4,gI,hne.1,hne.2.1,hne.2.2.1,hne.2.2.2.1,hne.2.2.2.2,h0,if_false,if_true,List.append_assoc,List.cons_append]
  · show s.sites++[s.st]++cY th (s.st+1)++cY rest (s.st+1+(th.wt:Int))=s.sites++cY _ s.st
    simp only[cY,Sl.wt,h0,if_true,if_false,List.append_assoc,List.cons_append,List.nil_append,Int.natCast_zero,Int.add_zero]
theorem OB {n:BA}{e:Ex}(hel:0<el.len):dG l0 (dC (eA s e th el) (dZ s e th).code.length ((eA s e th el).code.length:Int)) rest=dG l0 s (.cons 7 n e r xs th el rest):=by
  have hne:¬(7:Int)=1∧¬(7:Int)=2∧¬((7:Int)=3∨(7:Int)=4)∧¬(7:Int)=5∧¬(7:Int)=6:=by decide
  refine Sco.eq rfl rfl ?_ ?_ ?_ ?_
  · simp only[dG,dC,eA,stJ,dZ,r8,cB,gI,hne.1,if_false,if_true]
  · simp only[dG,dC,eA,stJ,dZ,r8,cB,Sl.wt];omega
  · show rV (eA s e th el).code (dZ s e th).code.length _++s4 rest s.l (gI el (gI th s.loc)) (rV (eA s e th el).code (dZ s e th).code.length _).length=s.code++s4 _ s.l s.loc s.code.length
    rw[lJ,AX,uV];rw[show s.code++((⟨6,((stJ s e th).code.length:Int),false,gH s.l e,cL,[],[]⟩:Ins)::(s4 th s.l s.loc (s.code.length+1)++(⟨7,0,false,l4,cL,[],[]⟩::s4 el s.l (gI th s.loc) ((dZ s e th).code.length+1))))=(s.code++((⟨6,((stJ s e th).code.length:Int),false,gH s.l e,cL,[],[]⟩:Ins)::s4 th s.l s.loc (s.code.length+1)))++(⟨7,0,false,l4,cL,[],[]⟩::s4 el s.l (gI th s.loc) ((dZ s e th).code.length+1)) from by simp only[List.append_assoc,List.cons_append]];rw[zH (by rw[pN];simp;omega),stJ_len,pN];simp only[s4,hne.1,hne.2.1,hne.2.2.1,hne.2.2.2.1,hne.2.2.2.2,hel,if_false,if_true,List.append_assoc,List.cons_append]
  · show s.sites++[s.st]++cY th (s.st+1)++[s.st]++cY el (s.st+1+(th.wt:Int))++cY rest (s.st+1+(th.wt:Int)+(el.wt:Int))=s.sites++cY _ s.st
    simp only[cY,hel,if_true,List.append_assoc,List.cons_append,List.nil_append]
theorem fin_wh {n:BA}{e:Ex}:dG l0 (dC (A7 s e th) s.code.length ((A7 s e th).code.length:Int)) rest=dG l0 s (.cons 8 n e r xs th .nil rest):=by
  have hne:¬(8:Int)=1∧¬(8:Int)=2∧¬((8:Int)=3∨(8:Int)=4)∧¬(8:Int)=5∧¬(8:Int)=6∧¬(8:Int)=7:=by decide
  rw[show (A7 s e th).code.length=(dZ s e th).code.length+1 from by simp[A7,r8]];refine Sco.eq rfl rfl ?_ ?_ ?_ ?_
  · simp only[dG,dC,A7,dZ,r8,cB,gI,hne.1,hne.2.2.2.2.2,if_false,if_true]
  · simp only[dG,dC,A7,dZ,r8,cB,Sl.wt];omega
  · show rV ((dZ s e th).code++[⟨7,((s.code.length:Nat):Int),false,l4,cL,[],[]⟩]) s.code.length _++s4 rest s.l (gI th s.loc) (rV ((dZ s e th).code++[⟨7,((s.code.length:Nat):Int),false,l4,cL,[],[]⟩]) s.code.length _).length=s.code++s4 _ s.l s.loc s.code.length
    rw[lJ,List.length_append,pN,pM,List.append_assoc,List.cons_append,zH rfl];simp only[s4,hne.1,hne.2.1,hne.2.2.1,hne.2.2.2.1,hne.2.2.2.2.1,hne.2.2.2.2.2,if_false,if_true,List.append_assoc,List.cons_append,List.nil_append,List.length_cons,List.length_nil,Nat.zero_add]
  · show s.sites++[s.st]++cY th (s.st+1)++[s.st]++cY rest (s.st+1+(th.wt:Int))=s.sites++cY _ s.st
    simp only[cY,hne.2.2.2.2.2,if_true,if_false,List.append_assoc,List.cons_append,List.nil_append]
theorem agg_nil {h:c8}{φ:Map}{w:World}{xs xs':List AV}(hn:mB xs' xs){v:Value}(r:Rel h φ w v (.agg xs)):Rel h φ w v (.agg xs'):=by
  cases r with
  | pure hp=>cases hp
  | agg a _ ha h1 hr=>
    obtain ⟨k1,k2⟩:=hn.get;refine .agg a xs' (by rw[ha,k1]) h1 fun j v y e1 e2=>?_;have hj:j<xs.length:=by rw[←k1];exact (List.getElem?_eq_some_iff.1 e2).1
    have hx:xs[j]?=some xs[j]:=List.getElem?_eq_getElem hj;rcases k2 j y _ e2 hx with rfl | ⟨e3,rfl⟩
    · exact hr j v _ e1 hx
    · exact K2 (e3▸hr j v _ e1 hx)
def Ey:List AV→List AV→Prop
  | [],[]=>True
  | x::xs,y::ys=>(x=y∨∃a b,x=.agg a∧y=.agg b∧mB a b)∧Ey xs ys
  | _,_=>False
theorem Ey.get:∀{xs ys:List AV},Ey xs ys→xs.length=ys.length∧∀(t:Nat) (x y:AV),xs[t]?=some x→ys[t]?=some y→x=y∨∃a b,x=.agg a∧y=.agg b∧mB a b
  | [],[],_=>⟨rfl,fun t x y h=>by simp at h⟩
  | x::xs,y::ys,h=>by
    obtain ⟨h1,h2⟩:=h;obtain ⟨k1,k2⟩:=Ey.get h2;refine ⟨by simp[k1],fun t u v hu hv=>?_⟩
    match t with
    | 0=>simp at hu hv;subst hu;subst hv;exact h1
    | t+1=>exact k2 t u v t166 t167
  | [],_::_,h=>h.elim
  | _::_,[],h=>h.elim
theorem aggArg {f:FuncId}{h:c8}{args args':List AV}{Q:AV→c8→Prop}(ha:Ey args' args)(r:CallA Tryz.prog cfg f args' h Q):CallA Tryz.prog cfg f args h Q:=by
  intro B φ w cargs i hs hr;obtain ⟨k1,k2⟩:=ha.get;refine r B φ w cargs i t232 fun j v y h1 h2=>?_;have hj:j<args.length:=by rw[←k1];exact (List.getElem?_eq_some_iff.1 h2).1
  have hx:args[j]?=some args[j]:=List.getElem?_eq_getElem hj;rcases k2 j y _ h2 hx with rfl | ⟨a,b,rfl,e2,hn⟩
  · exact hr j v _ h1 hx
  · exact agg_nil hn (e2▸hr j v _ h1 hx)
theorem mR {e:Frm}(hc:s.code.length<10000)(hs:s.sites.length<10000)(i:Ins)(t:Int){zs:List AV}(hz:mB (eS i) zs):CH 72 [.ptr e.k 0 0,.agg zs,.int .i64 t] (hT e (aW e.k s) s.code s.sites) (.int .i64 ((s.code.length:Nat):Int)) (hT e (aW e.k (r8 s i t)) (r8 s i t).code (r8 s i t).sites):=
  aggArg (args':=[.ptr e.k 0 0,.agg (eS i),.int .i64 t]) ⟨.inl rfl,.inr ⟨_,_,rfl,rfl,hz⟩,.inl rfl,trivial⟩ (c_put hc hs i t)
theorem GI:∀{c:List Ins} {i:Nat} {v:Int},i<c.length→List.take (i*12+1) (s3 c)++AV.int .i64 v::List.drop (i*12+1+1) (s3 c)=s3 (rV c i v)
  | x::c,0,v,_=>by
    have e1:s3 (x::c)=eS x++s3 c:=by simp[s3]
    have e2:rV (x::c) 0 v={ x with target:=v }::c:=by simp[rV]
    have e3:s3 ({ x with target:=v }::c)=eS { x with target:=v }++s3 c:=by simp[s3]
    rw[e1,e2,e3];rfl
  | x::c,i+1,v,h=>by
    have ih:=GI (c:=c) (i:=i) (v:=v) (by simpa using h);have e1:s3 (x::c)=eS x++s3 c:=by simp[s3]
    have e2:rV (x::c) (i+1) v=x::rV c i v:=by simp[rV]
    have e3:s3 (x::rV c i v)=eS x++s3 (rV c i v):=by simp[s3]
    have hl:(eS x).length=12:=bN x;rw[e1,e2,e3,←ih,show (i+1)*12+1=(eS x).length+(i*12+1) from by omega,List.take_length_add_append,show (eS x).length+(i*12+1)+1=(eS x).length+(i*12+1+1) from by omega,List.drop_length_add_append,List.append_assoc]
theorem G1 {c:List Ins}(h:0<c.length):s3 c≠[]:=by intro h0;have:=congrArg List.length h0;rw[u5]at this;simp at this;omega
section
variable {e:Frm}{b:Blk}{c:List Ins}{ss:List Int}{l:c8}{v:Int}{i n:Nat}
theorem hT_1na (h:0<c.length):(hT e b c ss++l)[e.k+1]?=some ⟨c.length,false,105,12,s3 c,0⟩:=by rw[NT,eR (G1 h)]
theorem hT_pn (h:c.length=n)(h0:0<n):(hT e b c ss++l).set (e.k+1) ⟨n,false,105,12,s3 (rV c i v),0⟩=hT e b (rV c i v) ss++l:=by
  subst h;have hl:(rV c i v).length=c.length:=lJ;have:n4 105 12 (rV c i v).length (s3 (rV c i v))=⟨c.length,false,105,12,s3 (rV c i v),0⟩:=by rw[eR (G1 (by omega)),hl]
  rw[←this,RQ]
theorem app_cpE {b0 b1 b2:Blk}{es:List Ent}{n:Nat}(hz:es.length=n)(h0:0<n)(hn:n<1000):g8 cfg 131 (hT e b c ss++(b0::b1::b2::⟨1,false,131,3,[],0⟩::l)) (.own (e.n+3) 1 0 0) (.vec n (j8 es))=some (.own (e.n+3) 2 0 n,hT e b c ss++(b0::b1::b2::⟨2,false,131,3,j8 es,0⟩::l)):=by
  subst hz;have e1:cfg.sz 131=3:=rfl;have e2:(cfg.ti 131).bytes=32:=rfl;have hm:es.length≤maxLen:=by
    have:(1000:Nat)≤maxLen:=by decide
    omega
  have hb:es.length*32≤140737488355328:=by omega
  have h1:(j8 es).length=es.length*3:=by rw[w5];omega
  have h2:¬es.length=0:=by omega
  have h3:¬es.length*3=0:=by omega
  simp[g8,rd,lenOf,e1,e2,h1,hm,hb,eK,iC,h0,h2,h3]
theorem app_onE {b0 b1 b2:Blk}{es:List Ent}{x:BA}{k m:Int}{n:Nat}(hz:es.length=n)(hn:n<1000):g8 cfg 131 (hT e b c ss++(b0::b1::b2::⟨2,false,131,3,j8 es,0⟩::⟨1,false,131,3,[.str x,.int .i64 k,.int .i64 m],0⟩::l)) (.own (e.n+3) 2 0 n) (.own (e.n+4) 1 0 1)=some (.own (e.n+3) 3 0 (n+1),hT e b c ss++(b0::b1::b2::⟨3,false,131,3,j8 (es++[⟨x,k,m⟩]),0⟩::⟨1,false,131,3,[.str x,.int .i64 k,.int .i64 m],0⟩::l)):=by
  subst hz;have e1:cfg.sz 131=3:=rfl;have e2:(cfg.ti 131).bytes=32:=rfl;have hm:es.length+1≤maxLen:=by
    have:(1001:Nat)≤maxLen:=by decide
    omega
  have hb:(es.length+1)*32≤140737488355328:=by omega
  have h1:(j8 es).length=es.length*3:=by rw[w5];omega
  have ht:List.take (es.length*3) (j8 es)=j8 es:=List.take_of_length_le (by omega);have hnl:¬(es.length+1)*3≤es.length*3:=by omega
  have hs:j8 (es++[⟨x,k,m⟩])=j8 es++[.str x,.int .i64 k,.int .i64 m]:=by simp[j8,iU]
  simp[g8,rd,lenOf,e1,e2,h1,hm,hb,ht,hnl,eK,iC,hs]
end
theorem qX (l:List Ent):z4 (j8 l):=z4.flat fun _=>z4.cons .str (z4.cons .int (z4.cons .int .nil))
theorem stIf_l {e:Ex}:(dZ s e th).l=s.l:=rfl
attribute [local go_sem] rd w5 o8 bY cR u5 bN gG cS n7 aJ w9 l7 aM Int.natCast_nonneg Int.natCast_inj List.length_map wrap64 eT jO jP I6 vZ A5 I7 nH max2 fG dL cA Nat.reduceMul nG kH iU lH fK uR bD hT_0 hT_2 NS NU eK zE iC N0 NV U5 hT_1na hT_pn GI app_cpE app_onE zI uS uT zJ zK qV yY GG V0 stSt_p gY eX N5 uU V1 stPut_p cV cE stTgt_l kI oH finS_l finS_p stIf_l
variable {E:Env}{vs:List BA}{pre:Sl}{W:Nat}
theorem c_blk1 {e:Frm}{c:Ctx}(sc:SC E c vs s.l)(bd:Bd E c s.p)(B:Bnd s W)(hW:1≤W)(j:Nat)(hj:j<24)(hn:vnm j∉vs)(a:Ex)(he:GE vs 2 a):g6 Tryz.prog cfg (qM [1,0,1,0,0,1,0] (jV Tryz.f71)) ⟨mkS 253 [(0,AV.ptr e.k 0 0),(1,AV.vec (Go.Un.Sl.len (pre.app (.cons 1 (vnm j) a n5 [] .nil .nil rest))) (n8 (pre.app (.cons 1 (vnm j) a n5 [] .nil .nil rest)))),(4,AV.vec l0.length (j8 l0)),(5,AV.int .i64 ((pre.len:Nat):Int))],(hT e (aW e.k s) s.code s.sites)⟩ (Led 253 [(0,AV.ptr e.k 0 0),(1,AV.vec (Go.Un.Sl.len (pre.app (.cons 1 (vnm j) a n5 [] .nil .nil rest))) (n8 (pre.app (.cons 1 (vnm j) a n5 [] .nil .nil rest)))),(4,AV.vec l0.length (j8 l0)),(5,AV.int .i64 ((pre.len:Nat):Int))] ((hT e (aW e.k (qU (r8 (cB s) ⟨1,s.loc,false,gH s.l a,cL,[],[]⟩ s.st) (vnm j))) ((qU (r8 (cB s) ⟨1,s.loc,false,gH s.l a,cL,[],[]⟩ s.st) (vnm j))).code ((qU (r8 (cB s) ⟨1,s.loc,false,gH s.l a,cL,[],[]⟩ s.st) (vnm j))).sites))):=by obtain ⟨q1,q2,q3,q4,q5,q6,q7,q8⟩:=B;have hlc:=@aN pre 1 (vnm j) a n5 [] .nil .nil rest;refine c191z ?_;refine g6.bA (hT e (aW e.k (cB s)) s.code s.sites++[⟨0,false,149,11,[.int .i64 1,.str (vnm j),.int .i64 a.op,.int .i64 a.num,.str a.name,.vec a.args.length (n9 a.args),.str n5.name,.vec n5.idx.length (n9 n5.idx),.vec (([]:List Ar)).length (aH ([]:List Ar)),.vec (Go.Un.Sl.len Go.Un.Sl.nil) (n8 Go.Un.Sl.nil),.vec (Go.Un.Sl.len Go.Un.Sl.nil) (n8 Go.Un.Sl.nil)],0⟩]) rfl ?_;refine c36z ?_;refine .c9 [0,1,4,5,6,7,41] ?_;refine c138z ?_;refine .seq ?_;refine c32z ?_;refine c118z ?_;refine .cl rfl rfl (fun _=>GB (sc.fr j hj hn) (by omega)) ?_;refine c287z ?_;refine .c9 [0,1,4,5,6,7,9] ?_;refine c14z ?_;refine .sk ?_;refine c30z ?_;refine .ch rfl rfl (gM (NY (s:=cB s) t147 s.st sc.var he _)) ?_;refine .n ?_;refine .sg w7 (mkH 9 [0,0,2,6,14,0,62,0,255] [8] [] [0,256] []) 0 ?_;refine aC.bA t23 ?_;refine .p 4 ?_;refine .rn [true] ?_;refine c89z ?_;refine .cn [true] [256,0] [_] rfl rfl (by simp only[kO,and_true,List.cons_append,List.nil_append];exact gM (mR t62 t61 ⟨1,s.loc,false,gH s.l a,cL,[],[]⟩ s.st t30)) ?_;refine aC.nil rfl ?_;refine .c9 [0,1,4,5,6] ?_;refine .sg w7 (mkH 19 [0,0,0,4,12,28,62,0,128,0,512,1536,3584,8064,16256,32766,65535,131071,262143] [1,6,14,15,18] [(1,0),(14,1)] [0,2,66,16384,16386,16450,49218,311362] [0,1,2,3,4,5,6]) 2 ?_;refine .p 1 ?_;refine .em [true] [2,0] [_] ?_;refine .p 3 ?_;refine .rm [true,true] ?_;refine .em [true,false] [66,2,0] [_] ?_;refine .p 1 ?_;refine .rn [true,true,true] ?_;refine .p 3 ?_;refine .rn [true,true,true] ?_;refine .p 1 ?_;refine .en [true,true,true] [16450,16386,16384,66,2,0] [_,_,_] ?_;refine .en [true,false,false,false,false,false] [49218,16450,16386,16384,66,2,0] [_] ?_;refine .p 2 ?_;refine .en [true,false,false,false,false,false,false] [311362,49218,16450,16386,16384,66,2,0] [_] ?_;refine .po [false,false,false,true,false,false,true,false] ?_;refine .po [false,false,false,true,true,false,true,true] ?_;refine .po [false,false,false,false,true,false,false,true] ?_;refine aC.nil rfl ?_;refine .c9 [0,1,4,5] ?_;refine g6.yC (γ:=e.n+3) (β:=e.k) (k:=3) (off:=0) (len:=s.l.length+1) (cs:=j8 (s.l++[⟨vnm j,4,s.loc⟩])) t110 rfl t211 (by rw[List.drop_zero,List.take_of_length_le t211];exact (qX _).QM) (by simp only[NS];rfl) (by have:=e.lt;omega) rfl ?_;simp only[iC,U5,List.set_cons_succ,List.set_cons_zero];refine .rz ?_;exact .mk _ (by rw[NZ];rfl)
theorem c_blk2 {e:Frm}{c:Ctx}(sc:SC E c vs s.l)(bd:Bd E c s.p)(B:Bnd s W)(hW:1≤W)(n:BA)(hn:n∈vs)(a:Ex)(he:GE vs 2 a):g6 Tryz.prog cfg (qM [1,0,1,0,0,1,0] (jV Tryz.f71)) ⟨mkS 253 [(0,AV.ptr e.k 0 0),(1,AV.vec (Go.Un.Sl.len (pre.app (.cons 2 n a n5 [] .nil .nil rest))) (n8 (pre.app (.cons 2 n a n5 [] .nil .nil rest)))),(4,AV.vec l0.length (j8 l0)),(5,AV.int .i64 ((pre.len:Nat):Int))],(hT e (aW e.k s) s.code s.sites)⟩ (Led 253 [(0,AV.ptr e.k 0 0),(1,AV.vec (Go.Un.Sl.len (pre.app (.cons 2 n a n5 [] .nil .nil rest))) (n8 (pre.app (.cons 2 n a n5 [] .nil .nil rest)))),(4,AV.vec l0.length (j8 l0)),(5,AV.int .i64 ((pre.len:Nat):Int))] ((hT e (aW e.k (r8 (cB s) ⟨1,(fA s.l n).n,(fA s.l n).kind==1,gH s.l a,cL,[],[]⟩ s.st)) ((r8 (cB s) ⟨1,(fA s.l n).n,(fA s.l n).kind==1,gH s.l a,cL,[],[]⟩ s.st)).code ((r8 (cB s) ⟨1,(fA s.l n).n,(fA s.l n).kind==1,gH s.l a,cL,[],[]⟩ s.st)).sites))):=by obtain ⟨q1,q2,q3,q4,q5,q6,q7,q8⟩:=B;have hlc:=@aN pre 2 n a n5 [] .nil .nil rest;obtain ⟨v,hv1,hv2⟩:=sc.var n hn;refine c191z ?_;refine g6.bA (hT e (aW e.k (cB s)) s.code s.sites++[⟨0,false,149,11,[.int .i64 2,.str n,.int .i64 a.op,.int .i64 a.num,.str a.name,.vec a.args.length (n9 a.args),.str n5.name,.vec n5.idx.length (n9 n5.idx),.vec (([]:List Ar)).length (aH ([]:List Ar)),.vec (Go.Un.Sl.len Go.Un.Sl.nil) (n8 Go.Un.Sl.nil),.vec (Go.Un.Sl.len Go.Un.Sl.nil) (n8 Go.Un.Sl.nil)],0⟩]) rfl ?_;refine c205z ?_;refine c138z ?_;refine c30z ?_;refine .ch rfl rfl (gM (c_var (s:=cB s) t147 s.st hv1 hv2)) ?_;refine .n ?_;refine .c9 [0,1,4,5,6,7,11] ?_;refine .og w7 (mkH 14 [0,0,2,0,8,24,0,0,128,0,960,2046,0,8191] [10,13] [] [0,1024,9216] [0,1,2,3,4,5]) 0 ?_;refine aC.bA t23 ?_;refine .p 2 ?_;refine c118z ?_;refine .p 3 ?_;refine c31z ?_;refine .cn [true] [1024,0] [_] rfl rfl (by simp only[kO,and_true,List.cons_append,List.nil_append];exact gM (NY (s:=cB s) t147 s.st sc.var he _)) ?_;refine .p 2 ?_;refine .cn [true,false] [9216,1024,0] [_] rfl rfl (by simp only[kO,and_true,List.cons_append,List.nil_append];exact gM (mR t62 t61 ⟨1,v.n,v.kind==1,gH s.l a,cL,[],[]⟩ s.st t30)) ?_;refine c162z ?_;exact .mk _ (by rw[eM hv1])
theorem c_blk3 {e:Frm}{c:Ctx}(sc:SC E c vs s.l)(bd:Bd E c s.p)(B:Bnd s W)(hW:1≤W)(f:BA×List Pm)(hf:f∈E.funcs)(xs:List Ar)(ha:GAs E vs f.2 xs):g6 Tryz.prog cfg (qM [1,0,1,0,0,1,0] (jV Tryz.f71)) ⟨mkS 253 [(0,AV.ptr e.k 0 0),(1,AV.vec (Go.Un.Sl.len (pre.app (.cons 3 f.1 l4 n5 xs .nil .nil rest))) (n8 (pre.app (.cons 3 f.1 l4 n5 xs .nil .nil rest)))),(4,AV.vec l0.length (j8 l0)),(5,AV.int .i64 ((pre.len:Nat):Int))],(hT e (aW e.k s) s.code s.sites)⟩ (Led 253 [(0,AV.ptr e.k 0 0),(1,AV.vec (Go.Un.Sl.len (pre.app (.cons 3 f.1 l4 n5 xs .nil .nil rest))) (n8 (pre.app (.cons 3 f.1 l4 n5 xs .nil .nil rest)))),(4,AV.vec l0.length (j8 l0)),(5,AV.int .i64 ((pre.len:Nat):Int))] ((hT e (aW e.k (r8 (cB s) ⟨2,(fA s.l f.1).n,false,l4,cL,bO s.l xs,aU s.l xs⟩ s.st)) ((r8 (cB s) ⟨2,(fA s.l f.1).n,false,l4,cL,bO s.l xs,aU s.l xs⟩ s.st)).code ((r8 (cB s) ⟨2,(fA s.l f.1).n,false,l4,cL,bO s.l xs,aU s.l xs⟩ s.st)).sites))):=by
  obtain ⟨q1,q2,q3,q4,q5,q6,q7,q8⟩:=B;have hlc:=@aN pre 3 f.1 l4 n5 xs .nil .nil rest;obtain ⟨⟨fy,fk,fn⟩,hf1,hfk,hf5,hf6,hf7⟩:=sc.fn f hf;simp only at hfk hf5 hf6 hf7;subst hfk;have hf2:0≤fn∧fn<s.p.funcs.length:=by rw[bd.hf,List.length_map]at hf6;exact ⟨hf5,hf6⟩
  have hf3:(s.p.funcs.getD fn.toNat j5).params=f.2:=by rw[bd.hf,getD_map (d':=j5) (by omega)]at hf7;rw[←hf7]
  have hf4:=bd.fp f hf;refine c191z ?_;refine g6.bA (hT e (aW e.k (cB s)) s.code s.sites++[⟨0,false,149,11,[.int .i64 3,.str f.1,.int .i64 l4.op,.int .i64 l4.num,.str l4.name,.vec l4.args.length (n9 l4.args),.str n5.name,.vec n5.idx.length (n9 n5.idx),.vec (xs).length (aH xs),.vec (Go.Un.Sl.len Go.Un.Sl.nil) (n8 Go.Un.Sl.nil),.vec (Go.Un.Sl.len Go.Un.Sl.nil) (n8 Go.Un.Sl.nil)],0⟩]) rfl ?_;refine c234z ?_;refine .T ?_;refine .sk ?_;refine .T ?_;refine c150z ?_;refine .ch rfl rfl (gM (c_call3 (s:=cB s) t147 s.st sc bd.hE bd.hc hf1 hf2 hf3 hf4 ha)) ?_;refine .e 1 ?_;refine .ch rfl rfl (gM (mR t62 t61 ⟨2,fn,false,l4,cL,bO s.l xs,aU s.l xs⟩ s.st t30)) ?_;refine .nil ?_;exact .mk _ (by rw[eM hf1])
theorem c_blk4 {e:Frm}{c:Ctx}(sc:SC E c vs s.l)(bd:Bd E c s.p)(B:Bnd s W)(hW:1≤W)(f:BA×List Pm)(hf:f∈E.funcs)(xs:List Ar)(ha:GAs E vs f.2 xs):g6 Tryz.prog cfg (qM [1,0,1,0,0,1,0] (jV Tryz.f71)) ⟨mkS 253 [(0,AV.ptr e.k 0 0),(1,AV.vec (Go.Un.Sl.len (pre.app (.cons 4 f.1 l4 n5 xs .nil .nil rest))) (n8 (pre.app (.cons 4 f.1 l4 n5 xs .nil .nil rest)))),(4,AV.vec l0.length (j8 l0)),(5,AV.int .i64 ((pre.len:Nat):Int))],(hT e (aW e.k s) s.code s.sites)⟩ (Led 253 [(0,AV.ptr e.k 0 0),(1,AV.vec (Go.Un.Sl.len (pre.app (.cons 4 f.1 l4 n5 xs .nil .nil rest))) (n8 (pre.app (.cons 4 f.1 l4 n5 xs .nil .nil rest)))),(4,AV.vec l0.length (j8 l0)),(5,AV.int .i64 ((pre.len:Nat):Int))] ((hT e (aW e.k (r8 (cB s) ⟨3,(fA s.l f.1).n,false,l4,cL,bO s.l xs,aU s.l xs⟩ s.st)) ((r8 (cB s) ⟨3,(fA s.l f.1).n,false,l4,cL,bO s.l xs,aU s.l xs⟩ s.st)).code ((r8 (cB s) ⟨3,(fA s.l f.1).n,false,l4,cL,bO s.l xs,aU s.l xs⟩ s.st)).sites))):=by
  obtain ⟨q1,q2,q3,q4,q5,q6,q7,q8⟩:=B;have hlc:=@aN pre 4 f.1 l4 n5 xs .nil .nil rest;obtain ⟨⟨fy,fk,fn⟩,hf1,hfk,hf5,hf6,hf7⟩:=sc.fn f hf;simp only at hfk hf5 hf6 hf7;subst hfk;have hf2:0≤fn∧fn<s.p.funcs.length:=by rw[bd.hf,List.length_map]at hf6;exact ⟨hf5,hf6⟩
  have hf3:(s.p.funcs.getD fn.toNat j5).params=f.2:=by rw[bd.hf,getD_map (d':=j5) (by omega)]at hf7;rw[←hf7]
  have hf4:=bd.fp f hf;refine c191z ?_;refine g6.bA (hT e (aW e.k (cB s)) s.code s.sites++[⟨0,false,149,11,[.int .i64 4,.str f.1,.int .i64 l4.op,.int .i64 l4.num,.str l4.name,.vec l4.args.length (n9 l4.args),.str n5.name,.vec n5.idx.length (n9 n5.idx),.vec (xs).length (aH xs),.vec (Go.Un.Sl.len Go.Un.Sl.nil) (n8 Go.Un.Sl.nil),.vec (Go.Un.Sl.len Go.Un.Sl.nil) (n8 Go.Un.Sl.nil)],0⟩]) rfl ?_;refine c268z ?_;refine .T ?_;refine .c9 [0,1,4,5,6,7] ?_;refine c150z ?_;refine .ch rfl rfl (gM (c_call4 (s:=cB s) t147 s.st sc bd.hE bd.hc hf1 hf2 hf3 hf4 ha)) ?_;refine .e 1 ?_;refine .ch rfl rfl (gM (mR t62 t61 ⟨3,fn,false,l4,cL,bO s.l xs,aU s.l xs⟩ s.st t30)) ?_;refine .nil ?_;exact .mk _ (by rw[eM hf1])
theorem c_blk5 {e:Frm}{c:Ctx}(sc:SC E c vs s.l)(bd:Bd E c s.p)(B:Bnd s W)(hW:1≤W)(r:Rf)(hR:GR E vs r):g6 Tryz.prog cfg (qM [1,0,1,0,0,1,0] (jV Tryz.f71)) ⟨mkS 253 [(0,AV.ptr e.k 0 0),(1,AV.vec (Go.Un.Sl.len (pre.app (.cons 5 ByteArray.empty l4 r [] .nil .nil rest))) (n8 (pre.app (.cons 5 ByteArray.empty l4 r [] .nil .nil rest)))),(4,AV.vec l0.length (j8 l0)),(5,AV.int .i64 ((pre.len:Nat):Int))],(hT e (aW e.k s) s.code s.sites)⟩ (Led 253 [(0,AV.ptr e.k 0 0),(1,AV.vec (Go.Un.Sl.len (pre.app (.cons 5 ByteArray.empty l4 r [] .nil .nil rest))) (n8 (pre.app (.cons 5 ByteArray.empty l4 r [] .nil .nil rest)))),(4,AV.vec l0.length (j8 l0)),(5,AV.int .i64 ((pre.len:Nat):Int))] ((hT e (aW e.k (r8 (cB s) ⟨4,0,false,l4,qO s.l r,[],[]⟩ s.st)) ((r8 (cB s) ⟨4,0,false,l4,qO s.l r,[],[]⟩ s.st)).code ((r8 (cB s) ⟨4,0,false,l4,qO s.l r,[],[]⟩ s.st)).sites))):=by obtain ⟨q1,q2,q3,q4,q5,q6,q7,q8⟩:=B;have hlc:=@aN pre 5 ByteArray.empty l4 r [] .nil .nil rest;refine c191z ?_;refine g6.bA (hT e (aW e.k (cB s)) s.code s.sites++[⟨0,false,149,11,[.int .i64 5,.str ByteArray.empty,.int .i64 l4.op,.int .i64 l4.num,.str l4.name,.vec l4.args.length (n9 l4.args),.str r.name,.vec r.idx.length (n9 r.idx),.vec (([]:List Ar)).length (aH ([]:List Ar)),.vec (Go.Un.Sl.len Go.Un.Sl.nil) (n8 Go.Un.Sl.nil),.vec (Go.Un.Sl.len Go.Un.Sl.nil) (n8 Go.Un.Sl.nil)],0⟩]) rfl ?_;refine c309z ?_;refine c138z ?_;refine .c9 [0,1,4,5,6,7] ?_;refine .r ?_;refine .e 5 ?_;refine .ch rfl rfl (gM (GF (s:=cB s) t147 s.st sc bd.hE bd.hc hR)) ?_;refine .e 2 ?_;refine .ch rfl rfl (gM (mR t62 t61 ⟨4,0,false,l4,qO s.l r,[],[]⟩ s.st t30)) ?_;refine .nil ?_;exact .mk _ rfl
theorem c_blk6 {e:Frm}{c:Ctx}(sc:SC E c vs s.l)(bd:Bd E c s.p)(B:Bnd s W)(hW:1≤W)(r:Rf)(hR:GR E vs r):g6 Tryz.prog cfg (qM [1,0,1,0,0,1,0] (jV Tryz.f71)) ⟨mkS 253 [(0,AV.ptr e.k 0 0),(1,AV.vec (Go.Un.Sl.len (pre.app (.cons 6 ByteArray.empty l4 r [] .nil .nil rest))) (n8 (pre.app (.cons 6 ByteArray.empty l4 r [] .nil .nil rest)))),(4,AV.vec l0.length (j8 l0)),(5,AV.int .i64 ((pre.len:Nat):Int))],(hT e (aW e.k s) s.code s.sites)⟩ (Led 253 [(0,AV.ptr e.k 0 0),(1,AV.vec (Go.Un.Sl.len (pre.app (.cons 6 ByteArray.empty l4 r [] .nil .nil rest))) (n8 (pre.app (.cons 6 ByteArray.empty l4 r [] .nil .nil rest)))),(4,AV.vec l0.length (j8 l0)),(5,AV.int .i64 ((pre.len:Nat):Int))] ((hT e (aW e.k (r8 (cB s) ⟨5,0,false,l4,qO s.l r,[],[]⟩ s.st)) ((r8 (cB s) ⟨5,0,false,l4,qO s.l r,[],[]⟩ s.st)).code ((r8 (cB s) ⟨5,0,false,l4,qO s.l r,[],[]⟩ s.st)).sites))):=by obtain ⟨q1,q2,q3,q4,q5,q6,q7,q8⟩:=B;have hlc:=@aN pre 6 ByteArray.empty l4 r [] .nil .nil rest;refine c191z ?_;refine g6.bA (hT e (aW e.k (cB s)) s.code s.sites++[⟨0,false,149,11,[.int .i64 6,.str ByteArray.empty,.int .i64 l4.op,.int .i64 l4.num,.str l4.name,.vec l4.args.length (n9 l4.args),.str r.name,.vec r.idx.length (n9 r.idx),.vec (([]:List Ar)).length (aH ([]:List Ar)),.vec (Go.Un.Sl.len Go.Un.Sl.nil) (n8 Go.Un.Sl.nil),.vec (Go.Un.Sl.len Go.Un.Sl.nil) (n8 Go.Un.Sl.nil)],0⟩]) rfl ?_;refine c309z ?_;refine c14z ?_;refine .c9 [0,1,4,5,6,7,41] ?_;refine c138z ?_;refine .r ?_;refine .e 5 ?_;refine .ch rfl rfl (gM (GF (s:=cB s) t147 s.st sc bd.hE bd.hc hR)) ?_;refine .e 2 ?_;refine .ch rfl rfl (gM (mR t62 t61 ⟨5,0,false,l4,qO s.l r,[],[]⟩ s.st t30)) ?_;refine .nil ?_;exact .mk _ rfl
theorem c_blk7 {e:Frm}{c:Ctx}(sc:SC E c vs s.l)(bd:Bd E c s.p)(B:Bnd s W)(a:Ex)(he:GE vs 2 a)(th:Sl)(hW:1+th.wt≤W)(ith:(∀s':Sco,SC E c vs s'.l→s'.p=s.p→Bnd s' th.wt→∀e:Frm,CH 71 [.ptr e.k 0 0,.vec th.len (n8 th)] (hT e (aW e.k s') (s').code (s').sites) (.tup []) (hT e (aW e.k (dG s'.l s' th)) ((dG s'.l s' th)).code ((dG s'.l s' th)).sites))):g6 Tryz.prog cfg (qM [1,0,1,0,0,1,0] (jV Tryz.f71)) ⟨mkS 253 [(0,AV.ptr e.k 0 0),(1,AV.vec (Go.Un.Sl.len (pre.app (.cons 7 ByteArray.empty a n5 [] th .nil rest))) (n8 (pre.app (.cons 7 ByteArray.empty a n5 [] th .nil rest)))),(4,AV.vec l0.length (j8 l0)),(5,AV.int .i64 ((pre.len:Nat):Int))],(hT e (aW e.k s) s.code s.sites)⟩ (Led 253 [(0,AV.ptr e.k 0 0),(1,AV.vec (Go.Un.Sl.len (pre.app (.cons 7 ByteArray.empty a n5 [] th .nil rest))) (n8 (pre.app (.cons 7 ByteArray.empty a n5 [] th .nil rest)))),(4,AV.vec l0.length (j8 l0)),(5,AV.int .i64 ((pre.len:Nat):Int))] ((hT e (aW e.k (dC (dZ s a th) s.code.length ((dZ s a th).code.length:Int))) ((dC (dZ s a th) s.code.length ((dZ s a th).code.length:Int))).code ((dC (dZ s a th) s.code.length ((dZ s a th).code.length:Int))).sites))):=by obtain ⟨q1,q2,q3,q4,q5,q6,q7,q8⟩:=B;have hlc:=@aN pre 7 ByteArray.empty a n5 [] th .nil rest;refine c191z ?_;refine g6.bA (hT e (aW e.k (cB s)) s.code s.sites++[⟨0,false,149,11,[.int .i64 7,.str ByteArray.empty,.int .i64 a.op,.int .i64 a.num,.str a.name,.vec a.args.length (n9 a.args),.str n5.name,.vec n5.idx.length (n9 n5.idx),.vec (([]:List Ar)).length (aH ([]:List Ar)),.vec (Go.Un.Sl.len th) (n8 th),.vec (Go.Un.Sl.len Go.Un.Sl.nil) (n8 Go.Un.Sl.nil)],0⟩]) rfl ?_;refine c309z ?_;refine c14z ?_;refine c44z ?_;refine c138z ?_;refine c40z ?_;refine c183z ?_;refine .n ?_;refine .c9 [0,1,4,5,6,7,12] ?_;have b1:Bnd (r8 (cB s) ⟨6,0,false,gH s.l a,cL,[],[]⟩ s.st) th.wt:=⟨q1,t217,t200,t193,q5,t204,t197,t172⟩;refine c124z ?_;refine .nil ?_;have fc:=iW (l0:=s.l) (s:=r8 (cB s) ⟨6,0,false,gH s.l a,cL,[],[]⟩ s.st) (S:=th);have fs:=iP (l0:=s.l) (s:=r8 (cB s) ⟨6,0,false,gH s.l a,cL,[],[]⟩ s.st) (S:=th);rw[cV,gY]at fc;rw[cE,eX]at fs;change _≤(dZ s a th).code.length∧(dZ s a th).code.length≤_ at fc;change _≤(dZ s a th).sites.length∧(dZ s a th).sites.length≤_ at fs;change g6 _ _ _ ⟨mkS _ _,hT e (aW e.k (dZ s a th)) (dZ s a th).code (dZ s a th).sites++_⟩ _;refine c14z ?_;refine .c9 [0,1,4,5,12] ?_;refine c143z ?_;refine c145z ?_;refine c76z ?_;refine c214z ?_;exact .mk _ (by rw[sU];rfl)
theorem c_blk17 {e:Frm}{c:Ctx}(sc:SC E c vs s.l)(bd:Bd E c s.p)(B:Bnd s W)(a:Ex)(he:GE vs 2 a)(th el:Sl)(hel:0<el.len)(hW:1+th.wt+el.wt≤W)(ith:(∀s':Sco,SC E c vs s'.l→s'.p=s.p→Bnd s' th.wt→∀e:Frm,CH 71 [.ptr e.k 0 0,.vec th.len (n8 th)] (hT e (aW e.k s') (s').code (s').sites) (.tup []) (hT e (aW e.k (dG s'.l s' th)) ((dG s'.l s' th)).code ((dG s'.l s' th)).sites)))(iel:(∀s':Sco,SC E c vs s'.l→s'.p=s.p→Bnd s' el.wt→∀e:Frm,CH 71 [.ptr e.k 0 0,.vec el.len (n8 el)] (hT e (aW e.k s') (s').code (s').sites) (.tup []) (hT e (aW e.k (dG s'.l s' el)) ((dG s'.l s' el)).code ((dG s'.l s' el)).sites))):g6 Tryz.prog cfg (qM [1,0,1,0,0,1,0] (jV Tryz.f71)) ⟨mkS 253 [(0,AV.ptr e.k 0 0),(1,AV.vec (Go.Un.Sl.len (pre.app (.cons 7 ByteArray.empty a n5 [] th el rest))) (n8 (pre.app (.cons 7 ByteArray.empty a n5 [] th el rest)))),(4,AV.vec l0.length (j8 l0)),(5,AV.int .i64 ((pre.len:Nat):Int))],(hT e (aW e.k s) s.code s.sites)⟩ (Led 253 [(0,AV.ptr e.k 0 0),(1,AV.vec (Go.Un.Sl.len (pre.app (.cons 7 ByteArray.empty a n5 [] th el rest))) (n8 (pre.app (.cons 7 ByteArray.empty a n5 [] th el rest)))),(4,AV.vec l0.length (j8 l0)),(5,AV.int .i64 ((pre.len:Nat):Int))] ((hT e (aW e.k (dC (eA s a th el) (dZ s a th).code.length ((eA s a th el).code.length:Int))) ((dC (eA s a th el) (dZ s a th).code.length ((eA s a th el).code.length:Int))).code ((dC (eA s a th el) (dZ s a th).code.length ((eA s a th el).code.length:Int))).sites))):=by
  obtain ⟨q1,q2,q3,q4,q5,q6,q7,q8⟩:=B;have hlc:=@aN pre 7 ByteArray.empty a n5 [] th el rest;refine c191z ?_;refine g6.bA (hT e (aW e.k (cB s)) s.code s.sites++[⟨0,false,149,11,[.int .i64 7,.str ByteArray.empty,.int .i64 a.op,.int .i64 a.num,.str a.name,.vec a.args.length (n9 a.args),.str n5.name,.vec n5.idx.length (n9 n5.idx),.vec (([]:List Ar)).length (aH ([]:List Ar)),.vec (Go.Un.Sl.len th) (n8 th),.vec (Go.Un.Sl.len el) (n8 el)],0⟩]) rfl ?_;refine c309z ?_;refine c14z ?_;refine c44z ?_;refine c138z ?_;refine c40z ?_;refine c183z ?_;refine .n ?_;refine .c9 [0,1,4,5,6,7,12] ?_;have b1:Bnd (r8 (cB s) ⟨6,0,false,gH s.l a,cL,[],[]⟩ s.st) th.wt:=⟨q1,t217,t200,t193,q5,t204,t197,t172⟩;refine c124z ?_;refine .nil ?_;have fc:=iW (l0:=s.l) (s:=r8 (cB s) ⟨6,0,false,gH s.l a,cL,[],[]⟩ s.st) (S:=th);have fs:=iP (l0:=s.l) (s:=r8 (cB s) ⟨6,0,false,gH s.l a,cL,[],[]⟩ s.st) (S:=th);rw[cV,gY]at fc;rw[cE,eX]at fs;change _≤(dZ s a th).code.length∧(dZ s a th).code.length≤_ at fc;change _≤(dZ s a th).sites.length∧(dZ s a th).sites.length≤_ at fs;change g6 _ _ _ ⟨mkS _ _,hT e (aW e.k (dZ s a th)) (dZ s a th).code (dZ s a th).sites++_⟩ _;refine .z ?_;refine uTbz ?_;intro e1 qe1;refine .c9 [0,1,4,5,6,7,12] ?_;refine c13z ?_;refine .ch rfl rfl (gM (mR t62 t61 ⟨7,0,false,l4,cL,[],[]⟩ s.st t30)) ?_;refine .n ?_;change g6 _ _ _ ⟨mkS _ _,hT e (aW e.k (stJ s a th)) (stJ s a th).code (stJ s a th).sites++_⟩ _;have jc:(stJ s a th).code.length=(dZ s a th).code.length+1:=cV;have js:(stJ s a th).sites.length=(dZ s a th).sites.length+1:=cE;refine .sg w7 (mkH 13 [0,1,3,7,0,0,32,96,224,480,1023,2047,4095] [12] [] [0,4096] []) 0 ?_;refine .p 3 ?_;refine c145z ?_;refine c76z ?_;refine c214z ?_;refine .c9 [0,1,4,5,6,13] ?_;refine g6.bA (hT e (aW e.k (dC (stJ s a th) s.code.length ((stJ s a th).code.length:Int))) (dC (stJ s a th) s.code.length ((stJ s a th).code.length:Int)).code (dC (stJ s a th) s.code.length ((stJ s a th).code.length:Int)).sites++[_]) (by rw[sU];rfl) ?_;have lb:=rN th s.loc;have b2:Bnd (dC (stJ s a th) s.code.length ((stJ s a th).code.length:Int)) el.wt:=⟨q1,by show s.l.length+_≤_;omega,by rw[kI,jc];omega,by rw[oH,js];omega,by show 0≤gI th s.loc;omega,by show gI th s.loc+_≤_;omega,by show 0≤s.st+1+(th.wt:Int);omega,by show s.st+1+(th.wt:Int)+_≤_;omega⟩;refine c13z ?_;refine .ch rfl rfl (gM (iel (dC (stJ s a th) s.code.length ((stJ s a th).code.length:Int)) sc rfl b2 _)) ?_;refine .nil ?_;have ec:(stJ s a th).code.length≤(eA s a th el).code.length∧(eA s a th el).code.length≤(stJ s a th).code.length+2*el.wt:=by have h0:=iW (l0:=s.l) (s:=(dC (stJ s a th) s.code.length ((stJ s a th).code.length:Int))) (S:=el);rw[kI]at h0;exact h0
  change g6 _ _ _ ⟨mkS _ _,hT e (aW e.k (eA s a th el)) (eA s a th el).code (eA s a th el).sites++_⟩ _;refine c143z ?_;refine c145z ?_;refine c76z ?_;refine c214z ?_;exact .mk _ (by rw[sU];rfl)
theorem c_blk8 {e:Frm}{c:Ctx}(sc:SC E c vs s.l)(bd:Bd E c s.p)(B:Bnd s W)(a:Ex)(he:GE vs 2 a)(th:Sl)(hW:1+th.wt≤W)(ith:(∀s':Sco,SC E c vs s'.l→s'.p=s.p→Bnd s' th.wt→∀e:Frm,CH 71 [.ptr e.k 0 0,.vec th.len (n8 th)] (hT e (aW e.k s') (s').code (s').sites) (.tup []) (hT e (aW e.k (dG s'.l s' th)) ((dG s'.l s' th)).code ((dG s'.l s' th)).sites))):g6 Tryz.prog cfg (qM [1,0,1,0,0,1,0] (jV Tryz.f71)) ⟨mkS 253 [(0,AV.ptr e.k 0 0),(1,AV.vec (Go.Un.Sl.len (pre.app (.cons 8 ByteArray.empty a n5 [] th .nil rest))) (n8 (pre.app (.cons 8 ByteArray.empty a n5 [] th .nil rest)))),(4,AV.vec l0.length (j8 l0)),(5,AV.int .i64 ((pre.len:Nat):Int))],(hT e (aW e.k s) s.code s.sites)⟩ (Led 253 [(0,AV.ptr e.k 0 0),(1,AV.vec (Go.Un.Sl.len (pre.app (.cons 8 ByteArray.empty a n5 [] th .nil rest))) (n8 (pre.app (.cons 8 ByteArray.empty a n5 [] th .nil rest)))),(4,AV.vec l0.length (j8 l0)),(5,AV.int .i64 ((pre.len:Nat):Int))] ((hT e (aW e.k (dC (A7 s a th) s.code.length ((A7 s a th).code.length:Int))) ((dC (A7 s a th) s.code.length ((A7 s a th).code.length:Int))).code ((dC (A7 s a th) s.code.length ((A7 s a th).code.length:Int))).sites))):=by obtain ⟨q1,q2,q3,q4,q5,q6,q7,q8⟩:=B;have hlc:=@aN pre 8 ByteArray.empty a n5 [] th .nil rest;refine c191z ?_;refine g6.bA (hT e (aW e.k (cB s)) s.code s.sites++[⟨0,false,149,11,[.int .i64 8,.str ByteArray.empty,.int .i64 a.op,.int .i64 a.num,.str a.name,.vec a.args.length (n9 a.args),.str n5.name,.vec n5.idx.length (n9 n5.idx),.vec (([]:List Ar)).length (aH ([]:List Ar)),.vec (Go.Un.Sl.len th) (n8 th),.vec (Go.Un.Sl.len Go.Un.Sl.nil) (n8 Go.Un.Sl.nil)],0⟩]) rfl ?_;refine c309z ?_;refine c14z ?_;refine c44z ?_;refine c14z ?_;refine c138z ?_;refine c40z ?_;refine c183z ?_;refine .n ?_;refine .c9 [0,1,4,5,6,7,14] ?_;have b1:Bnd (r8 (cB s) ⟨6,0,false,gH s.l a,cL,[],[]⟩ s.st) th.wt:=⟨q1,t217,t200,t193,q5,t204,t197,t172⟩;refine c124z ?_;refine .nil ?_;have fc:=iW (l0:=s.l) (s:=r8 (cB s) ⟨6,0,false,gH s.l a,cL,[],[]⟩ s.st) (S:=th);have fs:=iP (l0:=s.l) (s:=r8 (cB s) ⟨6,0,false,gH s.l a,cL,[],[]⟩ s.st) (S:=th);rw[cV,gY]at fc;rw[cE,eX]at fs;change _≤(dZ s a th).code.length∧(dZ s a th).code.length≤_ at fc;change _≤(dZ s a th).sites.length∧(dZ s a th).sites.length≤_ at fs;change g6 _ _ _ ⟨mkS _ _,hT e (aW e.k (dZ s a th)) (dZ s a th).code (dZ s a th).sites++_⟩ _;refine c30z ?_;refine .ch rfl rfl (gM (mR t62 t61 ⟨7,((s.code.length:Nat):Int),false,l4,cL,[],[]⟩ s.st t30)) ?_;refine .nil ?_;refine .c9 [0,1,4,5,14] ?_;change g6 _ _ _ ⟨mkS _ _,hT e (aW e.k (A7 s a th)) (A7 s a th).code (A7 s a th).sites++_⟩ _;have jc:(A7 s a th).code.length=(dZ s a th).code.length+1:=cV;refine c143z ?_;refine c145z ?_;refine c76z ?_;refine c214z ?_;exact .mk _ (by rw[sU];rfl)
theorem c_blk9 {e:Frm}{c:Ctx}(sc:SC E c vs s.l)(bd:Bd E c s.p)(B:Bnd s W)(hW:1≤W):g6 Tryz.prog cfg (qM [1,0,1,0,0,1,0] (jV Tryz.f71)) ⟨mkS 253 [(0,AV.ptr e.k 0 0),(1,AV.vec (Go.Un.Sl.len (pre.app (.cons 9 ByteArray.empty l4 n5 [] .nil .nil rest))) (n8 (pre.app (.cons 9 ByteArray.empty l4 n5 [] .nil .nil rest)))),(4,AV.vec l0.length (j8 l0)),(5,AV.int .i64 ((pre.len:Nat):Int))],(hT e (aW e.k s) s.code s.sites)⟩ (Led 253 [(0,AV.ptr e.k 0 0),(1,AV.vec (Go.Un.Sl.len (pre.app (.cons 9 ByteArray.empty l4 n5 [] .nil .nil rest))) (n8 (pre.app (.cons 9 ByteArray.empty l4 n5 [] .nil .nil rest)))),(4,AV.vec l0.length (j8 l0)),(5,AV.int .i64 ((pre.len:Nat):Int))] ((hT e (aW e.k (r8 (cB s) ⟨8,0,false,l4,cL,[],[]⟩ s.st)) ((r8 (cB s) ⟨8,0,false,l4,cL,[],[]⟩ s.st)).code ((r8 (cB s) ⟨8,0,false,l4,cL,[],[]⟩ s.st)).sites))):=by obtain ⟨q1,q2,q3,q4,q5,q6,q7,q8⟩:=B;have hlc:=@aN pre 9 ByteArray.empty l4 n5 [] .nil .nil rest;refine c191z ?_;refine g6.bA (hT e (aW e.k (cB s)) s.code s.sites++[⟨0,false,149,11,[.int .i64 9,.str ByteArray.empty,.int .i64 l4.op,.int .i64 l4.num,.str l4.name,.vec l4.args.length (n9 l4.args),.str n5.name,.vec n5.idx.length (n9 n5.idx),.vec (([]:List Ar)).length (aH ([]:List Ar)),.vec (Go.Un.Sl.len Go.Un.Sl.nil) (n8 Go.Un.Sl.nil),.vec (Go.Un.Sl.len Go.Un.Sl.nil) (n8 Go.Un.Sl.nil)],0⟩]) rfl ?_;refine c309z ?_;refine c14z ?_;refine c44z ?_;refine c91z ?_;refine .c9 [0,1,4,5,7] ?_;refine c283z ?_;refine .ch rfl rfl (gM (mR t62 t61 ⟨8,0,false,l4,cL,[],[]⟩ s.st t30)) ?_;refine .nil ?_;exact .mk _ rfl
theorem Bnd.mono {W':Nat}(h:Bnd s W)(hw:W'≤W):Bnd s W':=by obtain ⟨q1,q2,q3,q4,q5,q6,q7,q8⟩:=h;exact ⟨q1,by omega,by omega,by omega,q5,by omega,q7,by omega⟩
theorem Bnd.ins (h:Bnd s (1+W))(i:Ins):Bnd (r8 (cB s) i s.st) W:=by obtain ⟨q1,q2,q3,q4,q5,q6,q7,q8⟩:=h;exact ⟨q1,t217,t200,t193,q5,t204,t197,t172⟩
theorem Bnd.var (h:Bnd s (1+W))(i:Ins)(n:BA):Bnd (qU (r8 (cB s) i s.st) n) W:=by obtain ⟨q1,q2,q3,q4,q5,q6,q7,q8⟩:=h;exact ⟨by simp[qU],by show (s.l++[_]).length+_≤_;simp;omega,by show (r8 (cB s) i s.st).code.length+_≤_;rw[cV,gY];omega,by show (r8 (cB s) i s.st).sites.length+_≤_;rw[cE,eX];omega,by show 0≤s.loc+1;omega,by show s.loc+1+_≤_;omega,t197,t172⟩
theorem Bnd.fin (h:Bnd s (S.wt+W)):Bnd (dG s.l s S) W:=by obtain ⟨q1,q2,q3,q4,q5,q6,q7,q8⟩:=h;have h1:=iW (l0:=s.l) (s:=s) (S:=S);have h2:=iP (l0:=s.l) (s:=s) (S:=S);have h3:=rN S s.loc;exact ⟨q1,by show s.l.length+_≤_;omega,by omega,by omega,by show 0≤gI S s.loc;omega,by show gI S s.loc+_≤_;omega,by show 0≤s.st+(S.wt:Int);omega,by show s.st+(S.wt:Int)+_≤_;omega⟩
theorem Bnd.tgt {i:Nat}{v:Int}(h:Bnd s W):Bnd (dC s i v) W:=by obtain ⟨q1,q2,q3,q4,q5,q6,q7,q8⟩:=h;exact ⟨q1,q2,by rw[kI];exact q3,q4,q5,q6,q7,q8⟩
theorem Bnd.put2 (h:Bnd s W)(i:Ins)(t:Int)(hc:s.code.length+1+2*W≤5000)(hs:s.sites.length+1+2*W≤5000):Bnd (r8 s i t) W:=by obtain ⟨q1,q2,q3,q4,q5,q6,q7,q8⟩:=h;exact ⟨q1,by rw[N5];omega,by rw[cV];omega,by rw[cE];omega,q5,by rw[uU];omega,q7,by rw[V1];omega⟩
variable {a:Ex}
theorem G2 (h:Bnd s (1+th.wt+W)):Bnd (dZ s a th) W∧(dZ s a th).code.length+1+2*W≤5000∧(dZ s a th).sites.length+1+2*W≤5000:=by have h1:=(show Bnd s (1+(th.wt+W)) from h.mono (by omega)).ins ⟨6,0,false,gH s.l a,cL,[],[]⟩;have h2:=iW (l0:=s.l) (s:=r8 (cB s) ⟨6,0,false,gH s.l a,cL,[],[]⟩ s.st) (S:=th);have h3:=iP (l0:=s.l) (s:=r8 (cB s) ⟨6,0,false,gH s.l a,cL,[],[]⟩ s.st) (S:=th);rw[cV,gY]at h2;rw[cE,eX]at h3;have q3:=h.cb;have q4:=h.sb;exact ⟨h1.fin,by show (dG s.l (r8 (cB s) _ s.st) th).code.length+1+2*W≤5000;omega,by show (dG s.l (r8 (cB s) _ s.st) th).sites.length+1+2*W≤5000;omega⟩
theorem OC (h:Bnd s (1+th.wt+(el.wt+W))):Bnd (eA s a th el) W:=by obtain ⟨h1,h2,h3⟩:=G2 (a:=a) h;exact (((h1.put2 ⟨7,0,false,l4,cL,[],[]⟩ s.st h2 h3).tgt (i:=s.code.length) (v:=((stJ s a th).code.length:Int)))).fin
theorem OD {e:Frm}{c:Ctx}(sc:SC E c vs s.l)(bd:Bd E c s.p){k:Int}{n:BA}(hG:GS E (.cons k n a r xs th el rest) vs)(B:Bnd s (Sl.cons k n a r xs th el rest).wt)(ih:∀T:Sl,(T=th∨T=el)→GS E T vs→(∀s':Sco,SC E c vs s'.l→s'.p=s.p→Bnd s' T.wt→∀e:Frm,CH 71 [.ptr e.k 0 0,.vec T.len (n8 T)] (hT e (aW e.k s') (s').code (s').sites) (.tup []) (hT e (aW e.k (dG s'.l s' T)) ((dG s'.l s' T)).code ((dG s'.l s' T)).sites))):∃s' vs',SC E c vs' s'.l∧GS E rest vs'∧s'.p=s.p∧Bnd s' rest.wt∧dG l0 s' rest=dG l0 s (.cons k n a r xs th el rest)∧g6 Tryz.prog cfg (qM [1,0,1,0,0,1,0] (jV Tryz.f71)) ⟨mkS 253 [(0,AV.ptr e.k 0 0),(1,AV.vec (Go.Un.Sl.len (pre.app (.cons k n a r xs th el rest))) (n8 (pre.app (.cons k n a r xs th el rest)))),(4,AV.vec l0.length (j8 l0)),(5,AV.int .i64 ((pre.len:Nat):Int))],(hT e (aW e.k s) s.code s.sites)⟩ (Led 253 [(0,AV.ptr e.k 0 0),(1,AV.vec (Go.Un.Sl.len (pre.app (.cons k n a r xs th el rest))) (n8 (pre.app (.cons k n a r xs th el rest)))),(4,AV.vec l0.length (j8 l0)),(5,AV.int .i64 ((pre.len:Nat):Int))] (hT e (aW e.k s') (s').code (s').sites)):=by
  rcases hG with ⟨rfl,⟨j,hj,rfl⟩,hn,he,rfl,rfl,rfl,rfl,hr⟩ | ⟨rfl,hn,he,rfl,rfl,rfl,rfl,hr⟩ | ⟨rfl | rfl,⟨f,hf,rfl,ha⟩,rfl,rfl,rfl,rfl,hr⟩ | ⟨rfl | rfl,rfl,rfl,hR,rfl,rfl,rfl,hr⟩ | ⟨rfl,rfl,he,rfl,rfl,hth,hel,hr⟩ | ⟨rfl,rfl,he,rfl,rfl,hth,rfl,hr⟩ | ⟨rfl,rfl,rfl,rfl,rfl,rfl,rfl,hr⟩
  all_goals simp only[Sl.wt,Nat.add_zero]at B
  · exact ⟨(qU (r8 (cB s) ⟨1,s.loc,false,gH s.l a,cL,[],[]⟩ s.st) (vnm j)),_,sc.push hj hn s.loc,hr,rfl,B.var _ _,fin_var,c_blk1 sc bd B (by omega) j hj hn a he⟩
  · exact ⟨(r8 (cB s) ⟨1,(fA s.l n).n,(fA s.l n).kind==1,gH s.l a,cL,[],[]⟩ s.st),vs,sc,hr,rfl,B.ins _,qW (by simp only[s4,show ¬(2:Int)=1 from by decide,if_true,if_false];rfl) (by decide),c_blk2 sc bd B (by omega) n hn a he⟩
  · exact ⟨(r8 (cB s) ⟨2,(fA s.l f.1).n,false,l4,cL,bO s.l xs,aU s.l xs⟩ s.st),vs,sc,hr,rfl,B.ins _,qW (by simp only[s4,show ¬(3:Int)=1 from by decide,show ¬(3:Int)=2 from by decide,show ¬(3:Int)=4 from by decide,true_or,if_true,if_false]) (by decide),c_blk3 sc bd B (by omega) f hf xs ha⟩
  · exact ⟨(r8 (cB s) ⟨3,(fA s.l f.1).n,false,l4,cL,bO s.l xs,aU s.l xs⟩ s.st),vs,sc,hr,rfl,B.ins _,qW (by simp only[s4,show ¬(4:Int)=1 from by decide,show ¬(4:Int)=2 from by decide,or_true,if_true,if_false]) (by decide),c_blk4 sc bd B (by omega) f hf xs ha⟩
  · exact ⟨(r8 (cB s) ⟨4,0,false,l4,qO s.l r,[],[]⟩ s.st),vs,sc,hr,rfl,B.ins _,qW (by simp only[s4,show ¬(5:Int)=1 from by decide,show ¬(5:Int)=2 from by decide,show ¬((5:Int)=3∨(5:Int)=4) from by decide,if_true,if_false]) (by decide),c_blk5 sc bd B (by omega) r hR⟩
  · exact ⟨(r8 (cB s) ⟨5,0,false,l4,qO s.l r,[],[]⟩ s.st),vs,sc,hr,rfl,B.ins _,qW (by simp only[s4,show ¬(6:Int)=1 from by decide,show ¬(6:Int)=2 from by decide,show ¬((6:Int)=3∨(6:Int)=4) from by decide,show ¬(6:Int)=5 from by decide,if_true,if_false]) (by decide),c_blk6 sc bd B (by omega) r hR⟩
  · by_cases h0:0<el.len
    · exact ⟨(dC (eA s a th el) (dZ s a th).code.length ((eA s a th el).code.length:Int)),vs,sc,hr,rfl,(OC (B.mono (by omega))).tgt,OB h0,c_blk17 sc bd B a he th el h0 (by omega) (ih _ (.inl rfl) hth) (ih _ (.inr rfl) hel)⟩
    · obtain rfl:=len_nil.1 h0
      simp only[Sl.wt,Nat.add_zero]at B;exact ⟨(dC (dZ s a th) s.code.length ((dZ s a th).code.length:Int)),vs,sc,hr,rfl,(G2 B).1.tgt,fin_if,c_blk7 sc bd B a he th (by omega) (ih _ (.inl rfl) hth)⟩
  · exact ⟨(dC (A7 s a th) s.code.length ((A7 s a th).code.length:Int)),vs,sc,hr,rfl,((G2 (a:=a) B).1.put2 _ _ (G2 B).2.1 (G2 B).2.2).tgt,fin_wh,c_blk8 sc bd B a he th (by omega) (ih _ (.inl rfl) hth)⟩
  · exact ⟨(r8 (cB s) ⟨8,0,false,l4,cL,[],[]⟩ s.st),vs,sc,hr,rfl,B.ins _,qW (by simp only[s4,show ¬(9:Int)=1 from by decide,show ¬(9:Int)=2 from by decide,show ¬((9:Int)=3∨(9:Int)=4) from by decide,show ¬(9:Int)=5 from by decide,show ¬(9:Int)=6 from by decide,show ¬(9:Int)=7 from by decide,show ¬(9:Int)=8 from by decide,if_false]) (by decide),c_blk9 sc bd B (by omega)⟩
theorem fin_nil:dG l0 s .nil={ s with l:=l0 }:=by
  refine Sco.eq rfl rfl rfl ?_ ?_ ?_
  · simp[dG,Sl.wt]
  · simp[dG,s4]
  · simp[dG,cY]
theorem OE {c:Ctx}(S:Sl)(hSl:S.wt≤1000)(vars:List BA)(s:Sco)(sc0:SC E c vars s.l)(hG0:GS E S vars)(bd:Bd E c s.p)(B0:Bnd s S.wt)(e:Frm)(ih:∀S':Sl,S'.wt<S.wt→∀(vars:List BA) (s:Sco),SC E c vars s.l→GS E S' vars→Bd E c s.p→Bnd s S'.wt→∀e:Frm,CH 71 [.ptr e.k 0 0,.vec S'.len (n8 S')] (hT e (aW e.k s) (s).code (s).sites) (.tup []) (hT e (aW e.k (dG s.l s S')) ((dG s.l s S')).code ((dG s.l s S')).sites)):CH 71 [.ptr e.k 0 0,.vec S.len (n8 S)] (hT e (aW e.k s) s.code s.sites) (.tup []) (hT e (aW e.k (dG s.l s S)) ((dG s.l s S)).code ((dG s.l s S)).sites):=by
  refine .wz Tryz.f71 253 ?_;have hlw:=bF S;refine c25z ?_;refine .aD (fun m st=>∃(Z:Sl) (pre:Sl) (rst:Sl) (vs:List BA) (cur:Sco),(m=rst.len∧(Z=S∧S=pre.app rst∧GS E rst vs∧SC E c vs cur.l∧cur.p=s.p∧Bnd cur rst.wt∧dG s.l cur rst=dG s.l s S))∧st=⟨mkS 253 [(0,AV.ptr e.k 0 0),(1,AV.vec (Go.Un.Sl.len Z) (n8 Z)),(4,AV.vec s.l.length (j8 s.l)),(5,AV.int .i64 ((pre.len:Nat):Int))],hT e (aW e.k cur) cur.code cur.sites⟩) (.v ⟨S,Sl.nil,S,vars,s,⟨rfl,⟨rfl,rfl,hG0,sc0,rfl,B0,rfl⟩⟩,rfl⟩ (hs:=t11) (hr:=t108)) ?_;rintro m sl h' ⟨Z,pre,rst,vs,cur,⟨hm,⟨hZ,hS,hG,sc,hp,B,hF⟩⟩,hst⟩;obtain ⟨rfl,rfl⟩:=St.mk.inj hst;clear hst;subst hZ;have hlen:=congrArg Go.Un.Sl.len hS;rw[Go.Un.Sl.w8]at hlen;refine c0z ?_;refine u2z ?_ ?_
  ·intro e1 qe1;refine c116z ?_;obtain ⟨k,n,a,r,xs,th,el,rest,rfl⟩:=Go.Un.Sl.oD (s:=rst) (by omega);subst hS;have hwc:=@M5 pre k n a r xs th el rest;have hlc:=@aN pre k n a r xs th el rest;obtain ⟨s2,vs2,r1,r2,r3,r4,r5,hrun⟩:=OD (e:=e) (l0:=s.l) (pre:=pre) sc (by rw[hp];exact bd) hG B (fun T hT hgT s' q1 q2 q3 e'=>ih T (by rcases hT with rfl | rfl<;>omega) _ s' q1 hgT (by rw[q2,hp];exact bd) q3 e');refine g6.fitS [(0,AV.ptr e.k 0 0),(1,AV.vec (Go.Un.Sl.len (pre.app (.cons k n a r xs th el rest))) (n8 (pre.app (.cons k n a r xs th el rest)))),(4,AV.vec s.l.length (j8 s.l)),(5,AV.int .i64 ((pre.len:Nat):Int))] ?_;refine g6.led (hrun) ?_;intro lq hq haq;change g6 ..;refine g6.fitS [(0,AV.ptr e.k 0 0),(1,AV.vec (Go.Un.Sl.len (pre.app (.cons k n a r xs th el rest))) (n8 (pre.app (.cons k n a r xs th el rest)))),(4,AV.vec s.l.length (j8 s.l)),(5,AV.int .i64 ((pre.len:Nat):Int))] ?_ haq;refine .rz ?_;exact ⟨_,by omega,.v ⟨_,(pre.app (.cons k n a r xs th el .nil)),rest,vs2,s2,⟨rfl,⟨rfl,eO,r2,r1,r3.trans hp,r4,r5.trans hF⟩⟩,rfl⟩ (he:=by rfl) (hl:=by simp only[bD];exact Nat.le_refl _) (hk:=by exact hT_keep rfl) (hs:=t11) (hr:=t108)⟩
  intro e1 qe1;refine .exit ?_;have hr0:rst=.nil:=Sl.yH (by omega);subst hr0;change g6 ..;refine .rz ?_;refine Ends.n ?_;exact ⟨hT e ⟨0,false,161,10,[.vec cur.p.globals.length (o6 cur.p.globals),.vec cur.p.c6.length (j4 cur.p.c6),.vec cur.p.funcs.length (l8 cur.p.funcs),.vec s.l.length (j8 s.l),.int .i64 cur.loc,.int .i64 cur.st,.int .i64 0,.int .i64 0,.own (e.k+1) cur.code.length 0 cur.code.length,.own (e.k+2) cur.sites.length 0 cur.sites.length],0⟩ cur.code cur.sites,[],_,(List.append_nil _).symm,by (simp only[bD];exact Nat.le_refl _),(zF (dP.get ⟨.vec _ _,.vec _ _,.vec _ _,.vec _ _,.int _ _,.int _ _,.int _ _,.int _ _,.own _ _ _ _ e.lt.2.1,.own _ _ _ _ e.lt.2.2,trivial⟩)),rfl,by rw[←hF,fin_nil];exact ⟨rfl,rfl⟩⟩
theorem V2 {E:Env}{c:Ctx}:∀(n:Nat) (S:Sl),S.wt≤n→n≤1000→∀(vars:List BA) (s:Sco),SC E c vars s.l→GS E S vars→Bd E c s.p→Bnd s S.wt→∀e:Frm,CH 71 [.ptr e.k 0 0,.vec S.len (n8 S)] (hT e (aW e.k s) (s).code (s).sites) (.tup []) (hT e (aW e.k (dG s.l s S)) ((dG s.l s S)).code ((dG s.l s S)).sites)
  | n,S,hn,h1,vars,s,sc,hG,bd,B,e=>by
    refine OE S (by omega) vars s sc hG bd B e (fun S' hS'=>?_);cases n with
    | zero=>omega
    | succ n=>exact V2 n S' (by omega) (by omega)
end Go.Proofs.YtapdldekgbbomaaGreatDoor
end
