/- My own texts, put together by a program of mine. -/
import Derived.Test.YtapdldekgbbomaaGreatDoorGP3
set_option linter.unusedSimpArgs false
set_option linter.unusedVariables false
set_option maxRecDepth 100000
set_option maxHeartbeats 4000000
section
namespace Go.Proofs.YtapdldekgbbomaaGreatDoor
open Go.Ab Go.Un
def cV:Sl→Int→List Int
  | .nil,_=>[]
  | .cons k n e r xs th el rest,t=>
    if k=7 then t::(cV th (t+1)++((if 0<el.len then t::cV el (t+1+(th.wt:Int)) else [])++cV rest (t+1+(th.wt:Int)+(el.wt:Int))))
    else if k=8 then t::(cV th (t+1)++(t::cV rest (t+1+(th.wt:Int))))
    else t::cV rest (t+1)
theorem jB:∀(S:Sl) (t:Int),(cV S t).length≤2*S.wt
  | .nil,t=>by simp[cV]
  | .cons k n e r xs th el rest,t=>by
    have h1:=jB th (t+1);have h2:=jB el (t+1+(th.wt:Int));have h3:=jB rest (t+1+(th.wt:Int)+(el.wt:Int));have h4:=jB rest (t+1+(th.wt:Int));have h5:=jB rest (t+1);unfold cV;simp only[Sl.wt];split
    · split<;>simp only[List.length_cons,List.length_append,List.length_nil]<;>omega
    · split<;>simp only[List.length_cons,List.length_append]<;>omega
def sR (c:List Ins)(i:Nat)(v:Int):List Ins:=c.set i { c.getD i j4 with target:=v }
theorem lT {c:List Ins}{i:Nat}{v:Int}:(sR c i v).length=c.length:=by simp[sR]
theorem zU {c d:List Ins}{x:Ins}{i:Nat}{v:Int}(hi:i=c.length):sR (c++(x::d)) i v=c++({ x with target:=v }::d):=by subst hi;simp[sR,List.getD]
def bY (s:Sco):Sco:={ s with st:=s.st+1 }
def r6 (s:Sco)(i:Ins)(t:Int):Sco:={ s with code:=s.code++[i],sites:=s.sites++[t] }
def cY (s:Sco)(i:Nat)(v:Int):Sco:={ s with code:=sR s.code i v }
def rL (s:Sco)(n:BA):Sco:={ s with l:=s.l++[⟨n,4,s.loc⟩],loc:=s.loc+1 }
def dD (l0:List Ent)(s:Sco)(S:Sl):Sco:={ s with l:=l0,loc:=gG S s.loc,st:=s.st+(S.wt:Int),code:=s.code++r9 S s.l s.loc s.code.length,sites:=s.sites++cV S s.st }
variable {k:Nat}{s:Sco}
theorem tT {i:Nat}{v:Int}:aN k (cY s i v)=aN k s:=by simp only[aN,cY,lT]
variable {t:Int}
theorem OK {i:Ins}{n:BA}:aN k (rL (r6 (bY s) i t) n)=⟨0,false,161,10,[.vec s.p.globals.length (s7 s.p.globals),.vec s.p.c5.length (j6 s.p.c5),.vec s.p.funcs.length (p9 s.p.funcs),.vec (s.l.length+1) (l4 (s.l++[⟨n,4,s.loc⟩])),.int .i64 (s.loc+1),.int .i64 (s.st+1),.int .i64 0,.int .i64 0,.own (k+1) (s.code.length+1) 0 (s.code.length+1),.own (k+2) (s.sites.length+1) 0 (s.sites.length+1)],0⟩:=by simp only[aN,rL,r6,bY,List.length_append,List.length_cons,List.length_nil,Nat.zero_add]
theorem zV:(aN k s).gen=0:=rfl
theorem vO:(aN k s).cL=false:=rfl
theorem vP:(aN k s).elem=161:=rfl
theorem zW:(aN k s).esz=10:=rfl
theorem zX:(aN k s).frz=0:=rfl
theorem rM:(aN k s).cells=[.vec s.p.globals.length (s7 s.p.globals),.vec s.p.c5.length (j6 s.p.c5),.vec s.p.funcs.length (p9 s.p.funcs),.vec s.l.length (l4 s.l),.int .i64 s.loc,.int .i64 s.st,.int .i64 0,.int .i64 0,.own (k+1) s.code.length 0 s.code.length,.own (k+2) s.sites.length 0 s.sites.length]:=rfl
theorem GN:(bY s).l=s.l:=rfl
theorem V5:(bY s).loc=s.loc:=rfl
theorem stSt_p:(bY s).p=s.p:=rfl
theorem gZ:(bY s).code.length=s.code.length:=rfl
theorem fE:(bY s).sites.length=s.sites.length:=rfl
theorem N6 {i:Ins}:(r6 s i t).l=s.l:=rfl
theorem vQ {i:Ins}:(r6 s i t).loc=s.loc:=rfl
theorem V6 {i:Ins}:(r6 s i t).st=s.st:=rfl
theorem stPut_p {i:Ins}:(r6 s i t).p=s.p:=rfl
theorem cO {i:Ins}:(r6 s i t).code.length=s.code.length+1:=by simp[r6]
theorem cC {i:Ins}:(r6 s i t).sites.length=s.sites.length+1:=by simp[r6]
theorem stTgt_l {i:Nat}:(cY s i t).l=s.l:=rfl
theorem kN {i:Nat}:(cY s i t).code.length=s.code.length:=lT
theorem oS {i:Nat}:(cY s i t).sites.length=s.sites.length:=rfl
variable {l0:List Ent}{S:Sl}
theorem finS_l:(dD l0 s S).l=l0:=rfl
theorem finS_p:(dD l0 s S).p=s.p:=rfl
theorem jJ:s.code.length≤(dD l0 s S).code.length∧(dD l0 s S).code.length≤s.code.length+2*S.wt:=by have:=fM S s.l s.loc s.code.length;simp only[dD,List.length_append];omega
theorem jC:s.sites.length≤(dD l0 s S).sites.length∧(dD l0 s S).sites.length≤s.sites.length+2*S.wt:=by have:=jB S s.st;simp only[dD,List.length_append];omega
theorem sG:∀(S:Sl) (n:Int),n≤gG S n∧gG S n≤n+(S.wt:Int)
  | .nil,n=>by simp[gG,Sl.wt]
  | .cons k nm e r xs th el rest,n=>by
    have r1:=sG rest (n+1);have r2:=sG rest (gG el (gG th n));have r3:=sG rest (gG th n);have r4:=sG rest n;have t1:=sG th n;have e1:=sG el (gG th n);simp only[gG,Sl.wt];split
    · omega
    · split
      · omega
      · split<;>omega
structure Bnd (s:Sco)(W:Nat):Prop where
  lp:0<s.l.length
  lb:s.l.length+W≤900
  cb:s.code.length+2*W≤5000
  sb:s.sites.length+2*W≤5000
  o0:0≤s.loc
  ob:s.loc+(W:Int)≤5000
  t0:0≤s.st
  tb:s.st+(W:Int)≤5000
structure Bd (E:Env)(c:Ctx)(p:Go.Un.Pg):Prop where
  hE:E.c5=p.c5
  hc:c.nm=p.c5.length
  hf:E.funcs=p.funcs.map fun f=>(f.name,f.params)
  fp:∀f∈E.funcs,f.2.length≤2
theorem Sco.eq {a b:Sco}(h1:a.p=b.p)(h2:a.l=b.l)(h3:a.loc=b.loc)(h4:a.st=b.st)(h5:a.code=b.code)(h6:a.sites=b.sites):a=b:=by cases a;cases b;simp_all
variable {rest:Sl}
theorem fin_var {n:BA}{e:Ex}:dD l0 (rL (r6 (bY s) ⟨1,s.loc,false,gE s.l e,cI,[],[]⟩ s.st) n) rest=dD l0 s (.cons 1 n e o5 [] .nil .nil rest):=by
  refine Sco.eq rfl rfl ?_ ?_ ?_ ?_
  · simp only[dD,rL,r6,bY,gG,if_true]
  · simp only[dD,rL,r6,bY,Sl.wt];omega
  · simp only[dD,rL,r6,bY,r9,if_true,List.append_assoc,List.cons_append,List.nil_append,List.length_append,List.length_cons,List.length_nil,Nat.zero_add]
  · simp only[dD,rL,r6,bY,cV,show ¬(1:Int)=7 from by decide,show ¬(1:Int)=8 from by decide,if_false,List.append_assoc,List.cons_append,List.nil_append]
variable {r:Rf}{xs:List Ar}
theorem rO {i:Ins}{k:Int}{n:BA}{e:Ex}(h:r9 (.cons k n e r xs .nil .nil rest) s.l s.loc s.code.length=i::r9 rest s.l s.loc (s.code.length+1))(hk:k≠1∧k≠7∧k≠8):dD l0 (r6 (bY s) i s.st) rest=dD l0 s (.cons k n e r xs .nil .nil rest):=by
  refine Sco.eq rfl rfl ?_ ?_ ?_ ?_
  · simp only[dD,r6,bY,gG,hk.1,hk.2.1,hk.2.2,if_false]
  · simp only[dD,r6,bY,Sl.wt];omega
  · simp only[dD,h,r6,bY,List.append_assoc,List.cons_append,List.nil_append,List.length_append,List.length_cons,List.length_nil,Nat.zero_add]
  · simp only[dD,r6,bY,cV,hk.2.1,hk.2.2,if_false,List.append_assoc,List.cons_append,List.nil_append]
theorem len_nil {s:Sl}:¬0<s.len↔s=.nil:=⟨fun h=>Sl.yW (by omega),fun h=>by subst h;simp[Go.Un.Sl.len]⟩
def eE (s:Sco)(e:Ex)(th:Sl):Sco:=dD s.l (r6 (bY s) ⟨6,0,false,gE s.l e,cI,[],[]⟩ s.st) th
def stJ (s:Sco)(e:Ex)(th:Sl):Sco:=r6 (eE s e th) ⟨7,0,false,n4,cI,[],[]⟩ s.st
def eF (s:Sco)(e:Ex)(th el:Sl):Sco:=dD s.l (cY (stJ s e th) s.code.length ((stJ s e th).code.length:Int)) el
def B3 (s:Sco)(e:Ex)(th:Sl):Sco:=r6 (eE s e th) ⟨7,((s.code.length:Nat):Int),false,n4,cI,[],[]⟩ s.st
variable {th:Sl}
theorem qD {e:Ex}:(eE s e th).code=s.code++((⟨6,0,false,gE s.l e,cI,[],[]⟩:Ins)::r9 th s.l s.loc (s.code.length+1)):=by simp only[eE,dD,r6,bY,List.append_assoc,List.cons_append,List.nil_append,List.length_append,List.length_cons,List.length_nil,Nat.zero_add]
theorem qE {e:Ex}:(eE s e th).code.length=s.code.length+1+(r9 th s.l s.loc (s.code.length+1)).length:=by rw[qD];simp;omega
theorem OL {e:Ex}{v:Int}:(cY (stJ s e th) s.code.length v).code=s.code++((⟨6,v,false,gE s.l e,cI,[],[]⟩:Ins)::(r9 th s.l s.loc (s.code.length+1)++[⟨7,0,false,n4,cI,[],[]⟩])):=by simp only[cY,stJ,r6,qD,List.append_assoc,List.cons_append];exact zU rfl
variable {el:Sl}
theorem vR {e:Ex}:(eF s e th el).code=s.code++((⟨6,((stJ s e th).code.length:Int),false,gE s.l e,cI,[],[]⟩:Ins)::(r9 th s.l s.loc (s.code.length+1)++(⟨7,0,false,n4,cI,[],[]⟩::r9 el s.l (gG th s.loc) ((eE s e th).code.length+1)))):=by
  have h1:(cY (stJ s e th) s.code.length ((stJ s e th).code.length:Int)).code.length=(eE s e th).code.length+1:=by simp only[cY,lT,stJ,r6,List.length_append,List.length_cons,List.length_nil,Nat.zero_add]
  show (cY (stJ s e th) s.code.length ((stJ s e th).code.length:Int)).code++r9 el s.l (gG th s.loc) _=_;rw[h1,OL];simp only[List.append_assoc,List.cons_append,List.nil_append]
theorem stJ_len {e:Ex}:(stJ s e th).code.length=(eE s e th).code.length+1:=by simp[stJ,r6]
theorem BL {e:Ex}:(eF s e th el).code.length=(eE s e th).code.length+1+(r9 el s.l (gG th s.loc) ((eE s e th).code.length+1)).length:=by rw[vR,qE];simp;omega
theorem fin_if {n:BA}{e:Ex}:dD l0 (cY (eE s e th) s.code.length ((eE s e th).code.length:Int)) rest=dD l0 s (.cons 7 n e r xs th .nil rest):=by
  have hne:¬(7:Int)=1∧¬(7:Int)=2∧¬((7:Int)=3∨(7:Int)=4)∧¬(7:Int)=5∧¬(7:Int)=6:=by decide
  have h0:¬0<Sl.nil.len:=by simp[Go.Un.Sl.len]
  refine Sco.eq rfl rfl ?_ ?_ ?_ ?_
  · simp only[dD,cY,eE,r6,bY,gG,hne.1,if_false,if_true]
  · simp only[dD,cY,eE,r6,bY,Sl.wt];omega
  · show sR (eE s e th).code s.code.length _++r9 rest s.l (gG th s.loc) (sR (eE s e th).code s.code.length _).length=s.code++r9 _ s.l s.loc s.code.length
    rw[lT,qE,qD,zU rfl];simp only[r9,gG,hne.1,hne.2.1,hne.2.2.1,hne.2.2.2.1,hne.2.2.2.2,h0,if_false,if_true,List.append_assoc,List.cons_append]
  · show s.sites++[s.st]++cV th (s.st+1)++cV rest (s.st+1+(th.wt:Int))=s.sites++cV _ s.st
    simp only[cV,Sl.wt,h0,if_true,if_false,List.append_assoc,List.cons_append,List.nil_append,Int.natCast_zero,Int.add_zero]
theorem OM {n:BA}{e:Ex}(hel:0<el.len):dD l0 (cY (eF s e th el) (eE s e th).code.length ((eF s e th el).code.length:Int)) rest=dD l0 s (.cons 7 n e r xs th el rest):=by
  have hne:¬(7:Int)=1∧¬(7:Int)=2∧¬((7:Int)=3∨(7:Int)=4)∧¬(7:Int)=5∧¬(7:Int)=6:=by decide
  refine Sco.eq rfl rfl ?_ ?_ ?_ ?_
  · simp only[dD,cY,eF,stJ,eE,r6,bY,gG,hne.1,if_false,if_true]
  · simp only[dD,cY,eF,stJ,eE,r6,bY,Sl.wt];omega
  · show sR (eF s e th el).code (eE s e th).code.length _++r9 rest s.l (gG el (gG th s.loc)) (sR (eF s e th el).code (eE s e th).code.length _).length=s.code++r9 _ s.l s.loc s.code.length
    rw[lT,BL,vR];rw[show s.code++((⟨6,((stJ s e th).code.length:Int),false,gE s.l e,cI,[],[]⟩:Ins)::(r9 th s.l s.loc (s.code.length+1)++(⟨7,0,false,n4,cI,[],[]⟩::r9 el s.l (gG th s.loc) ((eE s e th).code.length+1))))=(s.code++((⟨6,((stJ s e th).code.length:Int),false,gE s.l e,cI,[],[]⟩:Ins)::r9 th s.l s.loc (s.code.length+1)))++(⟨7,0,false,n4,cI,[],[]⟩::r9 el s.l (gG th s.loc) ((eE s e th).code.length+1)) from by simp only[List.append_assoc,List.cons_append]];rw[zU (by rw[qE];simp;omega),stJ_len,qE];simp only[r9,hne.1,hne.2.1,hne.2.2.1,hne.2.2.2.1,hne.2.2.2.2,hel,if_false,if_true,List.append_assoc,List.cons_append]
  · show s.sites++[s.st]++cV th (s.st+1)++[s.st]++cV el (s.st+1+(th.wt:Int))++cV rest (s.st+1+(th.wt:Int)+(el.wt:Int))=s.sites++cV _ s.st
    simp only[cV,hel,if_true,List.append_assoc,List.cons_append,List.nil_append]
theorem fin_wh {n:BA}{e:Ex}:dD l0 (cY (B3 s e th) s.code.length ((B3 s e th).code.length:Int)) rest=dD l0 s (.cons 8 n e r xs th .nil rest):=by
  have hne:¬(8:Int)=1∧¬(8:Int)=2∧¬((8:Int)=3∨(8:Int)=4)∧¬(8:Int)=5∧¬(8:Int)=6∧¬(8:Int)=7:=by decide
  rw[show (B3 s e th).code.length=(eE s e th).code.length+1 from by simp[B3,r6]];refine Sco.eq rfl rfl ?_ ?_ ?_ ?_
  · simp only[dD,cY,B3,eE,r6,bY,gG,hne.1,hne.2.2.2.2.2,if_false,if_true]
  · simp only[dD,cY,B3,eE,r6,bY,Sl.wt];omega
  · show sR ((eE s e th).code++[⟨7,((s.code.length:Nat):Int),false,n4,cI,[],[]⟩]) s.code.length _++r9 rest s.l (gG th s.loc) (sR ((eE s e th).code++[⟨7,((s.code.length:Nat):Int),false,n4,cI,[],[]⟩]) s.code.length _).length=s.code++r9 _ s.l s.loc s.code.length
    rw[lT,List.length_append,qE,qD,List.append_assoc,List.cons_append,zU rfl];simp only[r9,hne.1,hne.2.1,hne.2.2.1,hne.2.2.2.1,hne.2.2.2.2.1,hne.2.2.2.2.2,if_false,if_true,List.append_assoc,List.cons_append,List.nil_append,List.length_cons,List.length_nil,Nat.zero_add]
  · show s.sites++[s.st]++cV th (s.st+1)++[s.st]++cV rest (s.st+1+(th.wt:Int))=s.sites++cV _ s.st
    simp only[cV,hne.2.2.2.2.2,if_true,if_false,List.append_assoc,List.cons_append,List.nil_append]
theorem agg_nil {h:c8}{φ:Map}{w:World}{xs xs':List AV}(hn:oY xs' xs){v:Value}(r:Rel h φ w v (.agg xs)):Rel h φ w v (.agg xs'):=by
  cases r with
  | pure hp=>cases hp
  | agg a _ ha h1 hr=>
    obtain ⟨k1,k2⟩:=hn.get;refine .agg a xs' (by rw[ha,k1]) h1 fun j v y e1 e2=>?_;have hj:j<xs.length:=by rw[←k1];exact (List.getElem?_eq_some_iff.1 e2).1
    have hx:xs[j]?=some xs[j]:=List.getElem?_eq_getElem hj;rcases k2 j y _ e2 hx with rfl | ⟨e3,rfl⟩
    · exact hr j v _ e1 hx
    · exact K6 (e3▸hr j v _ e1 hx)
def Ic:List AV→List AV→Prop
  | [],[]=>True
  | x::xs,y::ys=>(x=y∨∃a b,x=.agg a∧y=.agg b∧oY a b)∧Ic xs ys
  | _,_=>False
theorem Ic.get:∀{xs ys:List AV},Ic xs ys→xs.length=ys.length∧∀(t:Nat) (x y:AV),xs[t]?=some x→ys[t]?=some y→x=y∨∃a b,x=.agg a∧y=.agg b∧oY a b
  | [],[],_=>⟨rfl,fun t x y h=>by simp at h⟩
  | x::xs,y::ys,h=>by
    obtain ⟨h1,h2⟩:=h;obtain ⟨k1,k2⟩:=Ic.get h2;refine ⟨by simp[k1],fun t u v hu hv=>?_⟩
    match t with
    | 0=>simp at hu hv;subst hu;subst hv;exact h1
    | t+1=>exact k2 t u v t165 t172
  | [],_::_,h=>h.elim
  | _::_,[],h=>h.elim
theorem aggArg {f:FuncId}{h:c8}{args args':List AV}{Q:AV→c8→Prop}(ha:Ic args' args)(r:l6 Tryz.prog cfg f args' h Q):l6 Tryz.prog cfg f args h Q:=by
  intro B φ w cargs i hs hr;obtain ⟨k1,k2⟩:=ha.get;refine r B φ w cargs i t214 fun j v y h1 h2=>?_;have hj:j<args.length:=by rw[←k1];exact (List.getElem?_eq_some_iff.1 h2).1
  have hx:args[j]?=some args[j]:=List.getElem?_eq_getElem hj;rcases k2 j y _ h2 hx with rfl | ⟨a,b,rfl,e2,hn⟩
  · exact hr j v _ h1 hx
  · exact agg_nil hn (e2▸hr j v _ h1 hx)
theorem nE {e:Frm}(hc:s.code.length<10000)(hs:s.sites.length<10000)(i:Ins)(t:Int){zs:List AV}(hz:oY (eZ i) zs):CH 72 [.ptr e.k 0 0,.agg zs,.int .i64 t] (hT e (aN e.k s) s.code s.sites) (.int .i64 ((s.code.length:Nat):Int)) (hT e (aN e.k (r6 s i t)) (r6 s i t).code (r6 s i t).sites):=
  aggArg (args':=[.ptr e.k 0 0,.agg (eZ i),.int .i64 t]) ⟨.inl rfl,.inr ⟨_,_,rfl,rfl,hz⟩,.inl rfl,trivial⟩ (c_put hc hs i t)
theorem GO:∀{c:List Ins} {i:Nat} {v:Int},i<c.length→List.take (i*12+1) (r8 c)++AV.int .i64 v::List.drop (i*12+1+1) (r8 c)=r8 (sR c i v)
  | x::c,0,v,_=>by
    have e1:r8 (x::c)=eZ x++r8 c:=by simp[r8]
    have e2:sR (x::c) 0 v={ x with target:=v }::c:=by simp[sR]
    have e3:r8 ({ x with target:=v }::c)=eZ { x with target:=v }++r8 c:=by simp[r8]
    rw[e1,e2,e3];rfl
  | x::c,i+1,v,h=>by
    have ih:=GO (c:=c) (i:=i) (v:=v) (by simpa using h);have e1:r8 (x::c)=eZ x++r8 c:=by simp[r8]
    have e2:sR (x::c) (i+1) v=x::sR c i v:=by simp[sR]
    have e3:r8 (x::sR c i v)=eZ x++r8 (sR c i v):=by simp[r8]
    have hl:(eZ x).length=12:=bE x;rw[e1,e2,e3,←ih,show (i+1)*12+1=(eZ x).length+(i*12+1) from by omega,List.take_length_add_append,show (eZ x).length+(i*12+1)+1=(eZ x).length+(i*12+1+1) from by omega,List.drop_length_add_append,List.append_assoc]
theorem G6 {c:List Ins}(h:0<c.length):r8 c≠[]:=by intro h0;have:=congrArg List.length h0;rw[w6]at this;simp at this;omega
section
variable {e:Frm}{b:Blk}{c:List Ins}{ss:List Int}{l:c8}{v:Int}{i n:Nat}
theorem hT_1na (h:0<c.length):(hT e b c ss++l)[e.k+1]?=some ⟨c.length,false,105,12,r8 c,0⟩:=by rw[OF,jG (G6 h)]
theorem hT_pn (h:c.length=n)(h0:0<n):(hT e b c ss++l).set (e.k+1) ⟨n,false,105,12,r8 (sR c i v),0⟩=hT e b (sR c i v) ss++l:=by
  subst h;have hl:(sR c i v).length=c.length:=lT;have:p8 105 12 (sR c i v).length (r8 (sR c i v))=⟨c.length,false,105,12,r8 (sR c i v),0⟩:=by rw[jG (G6 (by omega)),hl]
  rw[←this,SW]
theorem app_cpE {b0 b1 b2:Blk}{es:List Ent}{n:Nat}(hz:es.length=n)(h0:0<n)(hn:n<1000):j5 cfg 131 (hT e b c ss++(b0::b1::b2::⟨1,false,131,3,[],0⟩::l)) (.own (e.n+3) 1 0 0) (.vec n (l4 es))=some (.own (e.n+3) 2 0 n,hT e b c ss++(b0::b1::b2::⟨2,false,131,3,l4 es,0⟩::l)):=by
  subst hz;have e1:cfg.sz 131=3:=rfl;have e2:(cfg.ti 131).bytes=32:=rfl;have hm:es.length≤maxLen:=by
    have:(1000:Nat)≤maxLen:=by decide
    omega
  have hb:es.length*32≤140737488355328:=by omega
  have h1:(l4 es).length=es.length*3:=by rw[u7];omega
  have h2:¬es.length=0:=by omega
  have h3:¬es.length*3=0:=by omega
  simp[j5,rd,lenOf,e1,e2,h1,hm,hb,eR,iH,h0,h2,h3]
theorem app_onE {b0 b1 b2:Blk}{es:List Ent}{x:BA}{k m:Int}{n:Nat}(hz:es.length=n)(hn:n<1000):j5 cfg 131 (hT e b c ss++(b0::b1::b2::⟨2,false,131,3,l4 es,0⟩::⟨1,false,131,3,[.str x,.int .i64 k,.int .i64 m],0⟩::l)) (.own (e.n+3) 2 0 n) (.own (e.n+4) 1 0 1)=some (.own (e.n+3) 3 0 (n+1),hT e b c ss++(b0::b1::b2::⟨3,false,131,3,l4 (es++[⟨x,k,m⟩]),0⟩::⟨1,false,131,3,[.str x,.int .i64 k,.int .i64 m],0⟩::l)):=by
  subst hz;have e1:cfg.sz 131=3:=rfl;have e2:(cfg.ti 131).bytes=32:=rfl;have hm:es.length+1≤maxLen:=by
    have:(1001:Nat)≤maxLen:=by decide
    omega
  have hb:(es.length+1)*32≤140737488355328:=by omega
  have h1:(l4 es).length=es.length*3:=by rw[u7];omega
  have ht:List.take (es.length*3) (l4 es)=l4 es:=List.take_of_length_le (by omega);have hnl:¬(es.length+1)*3≤es.length*3:=by omega
  have hs:l4 (es++[⟨x,k,m⟩])=l4 es++[.str x,.int .i64 k,.int .i64 m]:=by simp[l4,jH]
  simp[j5,rd,lenOf,e1,e2,h1,hm,hb,ht,hnl,eR,iH,hs]
end
theorem rP (l:List Ent):aO (l4 l):=aO.flat fun _=>aO.cons .str (aO.cons .int (aO.cons .int .nil))
theorem stIf_l {e:Ex}:(eE s e th).l=s.l:=rfl
attribute [local go_sem] rd u7 p7 bT dB w6 bE gD dU q9 bO aZ n6 bV Int.natCast_nonneg Int.natCast_inj List.length_map wrap64 gJ jT jU T8 F3 L9 T9 qS max2 fP dG bW Nat.reduceMul nR kM jH qB lR vN aT hT_0 hT_2 OE OG eR zR iH N1 OH V0 hT_1na hT_pn GO app_cpE app_onE zV vO vP zW zX rM zM GN V5 stSt_p gZ fE N6 vQ V6 stPut_p cO cC stTgt_l kN oS finS_l finS_p stIf_l
variable {E:Env}{vs:List BA}{pre:Sl}{W:Nat}
theorem c_blk1 {e:Frm}{c:Ctx}(sc:SC E c vs s.l)(bd:Bd E c s.p)(B:Bnd s W)(hW:1≤W)(j:Nat)(hj:j<24)(hn:vnm j∉vs)(a:Ex)(he:GE vs 2 a):g7 Tryz.prog cfg (rE [1,0,1,0,0,1,0] (kB Tryz.f71)) ⟨mkS 253 [(0,AV.ptr e.k 0 0),(1,AV.vec (Go.Un.Sl.len (pre.app (.cons 1 (vnm j) a o5 [] .nil .nil rest))) (s3 (pre.app (.cons 1 (vnm j) a o5 [] .nil .nil rest)))),(4,AV.vec l0.length (l4 l0)),(5,AV.int .i64 ((pre.len:Nat):Int))],(hT e (aN e.k s) s.code s.sites)⟩ (Led 253 [(0,AV.ptr e.k 0 0),(1,AV.vec (Go.Un.Sl.len (pre.app (.cons 1 (vnm j) a o5 [] .nil .nil rest))) (s3 (pre.app (.cons 1 (vnm j) a o5 [] .nil .nil rest)))),(4,AV.vec l0.length (l4 l0)),(5,AV.int .i64 ((pre.len:Nat):Int))] ((hT e (aN e.k (rL (r6 (bY s) ⟨1,s.loc,false,gE s.l a,cI,[],[]⟩ s.st) (vnm j))) ((rL (r6 (bY s) ⟨1,s.loc,false,gE s.l a,cI,[],[]⟩ s.st) (vnm j))).code ((rL (r6 (bY s) ⟨1,s.loc,false,gE s.l a,cI,[],[]⟩ s.st) (vnm j))).sites))):=by obtain ⟨q1,q2,q3,q4,q5,q6,q7,q8⟩:=B;have hlc:=@aE pre 1 (vnm j) a o5 [] .nil .nil rest;refine c160z ?_;refine g7.aF (hT e (aN e.k (bY s)) s.code s.sites++[⟨0,false,149,11,[.int .i64 1,.str (vnm j),.int .i64 a.op,.int .i64 a.num,.str a.name,.vec a.args.length (o8 a.args),.str o5.name,.vec o5.idx.length (o8 o5.idx),.vec (([]:List Ar)).length (bU ([]:List Ar)),.vec (Go.Un.Sl.len Go.Un.Sl.nil) (s3 Go.Un.Sl.nil),.vec (Go.Un.Sl.len Go.Un.Sl.nil) (s3 Go.Un.Sl.nil)],0⟩]) rfl ?_;refine c29z ?_;refine .c7 [0,1,4,5,6,7,41] ?_;refine c113z ?_;refine .seq ?_;refine c25z ?_;refine c81z ?_;refine .cl rfl rfl (fun _=>GJ (sc.fr j hj hn) (by omega)) ?_;refine c259z ?_;refine .c7 [0,1,4,5,6,7,9] ?_;refine c11z ?_;refine .sk ?_;refine c28z ?_;refine .ch rfl rfl (gL (OJ (s:=bY s) t154 s.st sc.var he _)) ?_;refine .n ?_;refine .sg u9 (mkH 9 [0,0,2,6,14,0,62,0,255] [8] [] [0,256] []) 0 ?_;refine z4.aF t36 ?_;refine .p 4 ?_;refine .rn [true] ?_;refine c62z ?_;refine .cn [true] [256,0] [_] rfl rfl (by simp only[kA,and_true,List.cons_append,List.nil_append];exact gL (nE t62 t59 ⟨1,s.loc,false,gE s.l a,cI,[],[]⟩ s.st t35)) ?_;refine z4.nil rfl ?_;refine .c7 [0,1,4,5,6] ?_;refine .sg u9 (mkH 19 [0,0,0,4,12,28,62,0,128,0,512,1536,3584,8064,16256,32766,65535,131071,262143] [1,6,14,15,18] [(1,0),(14,1)] [0,2,66,16384,16386,16450,49218,311362] [0,1,2,3,4,5,6]) 2 ?_;refine .p 1 ?_;refine .em [true] [2,0] [_] ?_;refine .p 3 ?_;refine .rm [true,true] ?_;refine .em [true,false] [66,2,0] [_] ?_;refine .p 1 ?_;refine .rn [true,true,true] ?_;refine .p 3 ?_;refine .rn [true,true,true] ?_;refine .p 1 ?_;refine .en [true,true,true] [16450,16386,16384,66,2,0] [_,_,_] ?_;refine .en [true,false,false,false,false,false] [49218,16450,16386,16384,66,2,0] [_] ?_;refine .p 2 ?_;refine .en [true,false,false,false,false,false,false] [311362,49218,16450,16386,16384,66,2,0] [_] ?_;refine .po [false,false,false,true,false,false,true,false] ?_;refine .po [false,false,false,true,true,false,true,true] ?_;refine .po [false,false,false,false,true,false,false,true] ?_;refine z4.nil rfl ?_;refine .c7 [0,1,4,5] ?_;refine g7.uR (γ:=e.n+3) (β:=e.k) (k:=3) (off:=0) (len:=s.l.length+1) (cs:=l4 (s.l++[⟨vnm j,4,s.loc⟩])) t114 rfl t209 (by rw[List.drop_zero,List.take_of_length_le t209];exact (rP _).KC) (by simp only[OE];rfl) (by have:=e.lt;omega) rfl ?_;simp only[iH,V0,List.set_cons_succ,List.set_cons_zero];refine .rz ?_;exact .mk _ (by rw[OK];rfl)
theorem c_blk2 {e:Frm}{c:Ctx}(sc:SC E c vs s.l)(bd:Bd E c s.p)(B:Bnd s W)(hW:1≤W)(n:BA)(hn:n∈vs)(a:Ex)(he:GE vs 2 a):g7 Tryz.prog cfg (rE [1,0,1,0,0,1,0] (kB Tryz.f71)) ⟨mkS 253 [(0,AV.ptr e.k 0 0),(1,AV.vec (Go.Un.Sl.len (pre.app (.cons 2 n a o5 [] .nil .nil rest))) (s3 (pre.app (.cons 2 n a o5 [] .nil .nil rest)))),(4,AV.vec l0.length (l4 l0)),(5,AV.int .i64 ((pre.len:Nat):Int))],(hT e (aN e.k s) s.code s.sites)⟩ (Led 253 [(0,AV.ptr e.k 0 0),(1,AV.vec (Go.Un.Sl.len (pre.app (.cons 2 n a o5 [] .nil .nil rest))) (s3 (pre.app (.cons 2 n a o5 [] .nil .nil rest)))),(4,AV.vec l0.length (l4 l0)),(5,AV.int .i64 ((pre.len:Nat):Int))] ((hT e (aN e.k (r6 (bY s) ⟨1,(fG s.l n).n,(fG s.l n).kind==1,gE s.l a,cI,[],[]⟩ s.st)) ((r6 (bY s) ⟨1,(fG s.l n).n,(fG s.l n).kind==1,gE s.l a,cI,[],[]⟩ s.st)).code ((r6 (bY s) ⟨1,(fG s.l n).n,(fG s.l n).kind==1,gE s.l a,cI,[],[]⟩ s.st)).sites))):=by obtain ⟨q1,q2,q3,q4,q5,q6,q7,q8⟩:=B;have hlc:=@aE pre 2 n a o5 [] .nil .nil rest;obtain ⟨v,hv1,hv2⟩:=sc.var n hn;refine c160z ?_;refine g7.aF (hT e (aN e.k (bY s)) s.code s.sites++[⟨0,false,149,11,[.int .i64 2,.str n,.int .i64 a.op,.int .i64 a.num,.str a.name,.vec a.args.length (o8 a.args),.str o5.name,.vec o5.idx.length (o8 o5.idx),.vec (([]:List Ar)).length (bU ([]:List Ar)),.vec (Go.Un.Sl.len Go.Un.Sl.nil) (s3 Go.Un.Sl.nil),.vec (Go.Un.Sl.len Go.Un.Sl.nil) (s3 Go.Un.Sl.nil)],0⟩]) rfl ?_;refine c176z ?_;refine c113z ?_;refine c28z ?_;refine .ch rfl rfl (gL (c_var (s:=bY s) t154 s.st hv1 hv2)) ?_;refine .n ?_;refine .c7 [0,1,4,5,6,7,11] ?_;refine .og u9 (mkH 14 [0,0,2,0,8,24,0,0,128,0,960,2046,0,8191] [10,13] [] [0,1024,9216] [0,1,2,3,4,5]) 0 ?_;refine z4.aF t36 ?_;refine .p 2 ?_;refine c81z ?_;refine .p 3 ?_;refine c27z ?_;refine .cn [true] [1024,0] [_] rfl rfl (by simp only[kA,and_true,List.cons_append,List.nil_append];exact gL (OJ (s:=bY s) t154 s.st sc.var he _)) ?_;refine .p 2 ?_;refine .cn [true,false] [9216,1024,0] [_] rfl rfl (by simp only[kA,and_true,List.cons_append,List.nil_append];exact gL (nE t62 t59 ⟨1,v.n,v.kind==1,gE s.l a,cI,[],[]⟩ s.st t35)) ?_;refine c138z ?_;exact .mk _ (by rw[eU hv1])
theorem c_blk3 {e:Frm}{c:Ctx}(sc:SC E c vs s.l)(bd:Bd E c s.p)(B:Bnd s W)(hW:1≤W)(f:BA×List Pm)(hf:f∈E.funcs)(xs:List Ar)(ha:GAs E vs f.2 xs):g7 Tryz.prog cfg (rE [1,0,1,0,0,1,0] (kB Tryz.f71)) ⟨mkS 253 [(0,AV.ptr e.k 0 0),(1,AV.vec (Go.Un.Sl.len (pre.app (.cons 3 f.1 n4 o5 xs .nil .nil rest))) (s3 (pre.app (.cons 3 f.1 n4 o5 xs .nil .nil rest)))),(4,AV.vec l0.length (l4 l0)),(5,AV.int .i64 ((pre.len:Nat):Int))],(hT e (aN e.k s) s.code s.sites)⟩ (Led 253 [(0,AV.ptr e.k 0 0),(1,AV.vec (Go.Un.Sl.len (pre.app (.cons 3 f.1 n4 o5 xs .nil .nil rest))) (s3 (pre.app (.cons 3 f.1 n4 o5 xs .nil .nil rest)))),(4,AV.vec l0.length (l4 l0)),(5,AV.int .i64 ((pre.len:Nat):Int))] ((hT e (aN e.k (r6 (bY s) ⟨2,(fG s.l f.1).n,false,n4,cI,bF s.l xs,aL s.l xs⟩ s.st)) ((r6 (bY s) ⟨2,(fG s.l f.1).n,false,n4,cI,bF s.l xs,aL s.l xs⟩ s.st)).code ((r6 (bY s) ⟨2,(fG s.l f.1).n,false,n4,cI,bF s.l xs,aL s.l xs⟩ s.st)).sites))):=by
  obtain ⟨q1,q2,q3,q4,q5,q6,q7,q8⟩:=B;have hlc:=@aE pre 3 f.1 n4 o5 xs .nil .nil rest;obtain ⟨⟨fy,fk,fn⟩,hf1,hfk,hf5,hf6,hf7⟩:=sc.fn f hf;simp only at hfk hf5 hf6 hf7;subst hfk;have hf2:0≤fn∧fn<s.p.funcs.length:=by rw[bd.hf,List.length_map]at hf6;exact ⟨hf5,hf6⟩
  have hf3:(s.p.funcs.getD fn.toNat j9).params=f.2:=by rw[bd.hf,getD_map (d':=j9) (by omega)]at hf7;rw[←hf7]
  have hf4:=bd.fp f hf;refine c160z ?_;refine g7.aF (hT e (aN e.k (bY s)) s.code s.sites++[⟨0,false,149,11,[.int .i64 3,.str f.1,.int .i64 n4.op,.int .i64 n4.num,.str n4.name,.vec n4.args.length (o8 n4.args),.str o5.name,.vec o5.idx.length (o8 o5.idx),.vec (xs).length (bU xs),.vec (Go.Un.Sl.len Go.Un.Sl.nil) (s3 Go.Un.Sl.nil),.vec (Go.Un.Sl.len Go.Un.Sl.nil) (s3 Go.Un.Sl.nil)],0⟩]) rfl ?_;refine c201z ?_;refine .T ?_;refine .sk ?_;refine .T ?_;refine c99z ?_;refine .ch rfl rfl (gL (c_call3 (s:=bY s) t154 s.st sc bd.hE bd.hc hf1 hf2 hf3 hf4 ha)) ?_;refine .e 1 ?_;refine .ch rfl rfl (gL (nE t62 t59 ⟨2,fn,false,n4,cI,bF s.l xs,aL s.l xs⟩ s.st t35)) ?_;refine .nil ?_;exact .mk _ (by rw[eU hf1])
theorem c_blk4 {e:Frm}{c:Ctx}(sc:SC E c vs s.l)(bd:Bd E c s.p)(B:Bnd s W)(hW:1≤W)(f:BA×List Pm)(hf:f∈E.funcs)(xs:List Ar)(ha:GAs E vs f.2 xs):g7 Tryz.prog cfg (rE [1,0,1,0,0,1,0] (kB Tryz.f71)) ⟨mkS 253 [(0,AV.ptr e.k 0 0),(1,AV.vec (Go.Un.Sl.len (pre.app (.cons 4 f.1 n4 o5 xs .nil .nil rest))) (s3 (pre.app (.cons 4 f.1 n4 o5 xs .nil .nil rest)))),(4,AV.vec l0.length (l4 l0)),(5,AV.int .i64 ((pre.len:Nat):Int))],(hT e (aN e.k s) s.code s.sites)⟩ (Led 253 [(0,AV.ptr e.k 0 0),(1,AV.vec (Go.Un.Sl.len (pre.app (.cons 4 f.1 n4 o5 xs .nil .nil rest))) (s3 (pre.app (.cons 4 f.1 n4 o5 xs .nil .nil rest)))),(4,AV.vec l0.length (l4 l0)),(5,AV.int .i64 ((pre.len:Nat):Int))] ((hT e (aN e.k (r6 (bY s) ⟨3,(fG s.l f.1).n,false,n4,cI,bF s.l xs,aL s.l xs⟩ s.st)) ((r6 (bY s) ⟨3,(fG s.l f.1).n,false,n4,cI,bF s.l xs,aL s.l xs⟩ s.st)).code ((r6 (bY s) ⟨3,(fG s.l f.1).n,false,n4,cI,bF s.l xs,aL s.l xs⟩ s.st)).sites))):=by
  obtain ⟨q1,q2,q3,q4,q5,q6,q7,q8⟩:=B;have hlc:=@aE pre 4 f.1 n4 o5 xs .nil .nil rest;obtain ⟨⟨fy,fk,fn⟩,hf1,hfk,hf5,hf6,hf7⟩:=sc.fn f hf;simp only at hfk hf5 hf6 hf7;subst hfk;have hf2:0≤fn∧fn<s.p.funcs.length:=by rw[bd.hf,List.length_map]at hf6;exact ⟨hf5,hf6⟩
  have hf3:(s.p.funcs.getD fn.toNat j9).params=f.2:=by rw[bd.hf,getD_map (d':=j9) (by omega)]at hf7;rw[←hf7]
  have hf4:=bd.fp f hf;refine c160z ?_;refine g7.aF (hT e (aN e.k (bY s)) s.code s.sites++[⟨0,false,149,11,[.int .i64 4,.str f.1,.int .i64 n4.op,.int .i64 n4.num,.str n4.name,.vec n4.args.length (o8 n4.args),.str o5.name,.vec o5.idx.length (o8 o5.idx),.vec (xs).length (bU xs),.vec (Go.Un.Sl.len Go.Un.Sl.nil) (s3 Go.Un.Sl.nil),.vec (Go.Un.Sl.len Go.Un.Sl.nil) (s3 Go.Un.Sl.nil)],0⟩]) rfl ?_;refine c238z ?_;refine .T ?_;refine .c7 [0,1,4,5,6,7] ?_;refine c99z ?_;refine .ch rfl rfl (gL (c_call4 (s:=bY s) t154 s.st sc bd.hE bd.hc hf1 hf2 hf3 hf4 ha)) ?_;refine .e 1 ?_;refine .ch rfl rfl (gL (nE t62 t59 ⟨3,fn,false,n4,cI,bF s.l xs,aL s.l xs⟩ s.st t35)) ?_;refine .nil ?_;exact .mk _ (by rw[eU hf1])
theorem c_blk5 {e:Frm}{c:Ctx}(sc:SC E c vs s.l)(bd:Bd E c s.p)(B:Bnd s W)(hW:1≤W)(r:Rf)(hR:GR E vs r):g7 Tryz.prog cfg (rE [1,0,1,0,0,1,0] (kB Tryz.f71)) ⟨mkS 253 [(0,AV.ptr e.k 0 0),(1,AV.vec (Go.Un.Sl.len (pre.app (.cons 5 ByteArray.empty n4 r [] .nil .nil rest))) (s3 (pre.app (.cons 5 ByteArray.empty n4 r [] .nil .nil rest)))),(4,AV.vec l0.length (l4 l0)),(5,AV.int .i64 ((pre.len:Nat):Int))],(hT e (aN e.k s) s.code s.sites)⟩ (Led 253 [(0,AV.ptr e.k 0 0),(1,AV.vec (Go.Un.Sl.len (pre.app (.cons 5 ByteArray.empty n4 r [] .nil .nil rest))) (s3 (pre.app (.cons 5 ByteArray.empty n4 r [] .nil .nil rest)))),(4,AV.vec l0.length (l4 l0)),(5,AV.int .i64 ((pre.len:Nat):Int))] ((hT e (aN e.k (r6 (bY s) ⟨4,0,false,n4,rG s.l r,[],[]⟩ s.st)) ((r6 (bY s) ⟨4,0,false,n4,rG s.l r,[],[]⟩ s.st)).code ((r6 (bY s) ⟨4,0,false,n4,rG s.l r,[],[]⟩ s.st)).sites))):=by obtain ⟨q1,q2,q3,q4,q5,q6,q7,q8⟩:=B;have hlc:=@aE pre 5 ByteArray.empty n4 r [] .nil .nil rest;refine c160z ?_;refine g7.aF (hT e (aN e.k (bY s)) s.code s.sites++[⟨0,false,149,11,[.int .i64 5,.str ByteArray.empty,.int .i64 n4.op,.int .i64 n4.num,.str n4.name,.vec n4.args.length (o8 n4.args),.str r.name,.vec r.idx.length (o8 r.idx),.vec (([]:List Ar)).length (bU ([]:List Ar)),.vec (Go.Un.Sl.len Go.Un.Sl.nil) (s3 Go.Un.Sl.nil),.vec (Go.Un.Sl.len Go.Un.Sl.nil) (s3 Go.Un.Sl.nil)],0⟩]) rfl ?_;refine c273z ?_;refine c113z ?_;refine .c7 [0,1,4,5,6,7] ?_;refine .r ?_;refine .e 5 ?_;refine .ch rfl rfl (gL (GM (s:=bY s) t154 s.st sc bd.hE bd.hc hR)) ?_;refine .e 2 ?_;refine .ch rfl rfl (gL (nE t62 t59 ⟨4,0,false,n4,rG s.l r,[],[]⟩ s.st t35)) ?_;refine .nil ?_;exact .mk _ rfl
theorem c_blk6 {e:Frm}{c:Ctx}(sc:SC E c vs s.l)(bd:Bd E c s.p)(B:Bnd s W)(hW:1≤W)(r:Rf)(hR:GR E vs r):g7 Tryz.prog cfg (rE [1,0,1,0,0,1,0] (kB Tryz.f71)) ⟨mkS 253 [(0,AV.ptr e.k 0 0),(1,AV.vec (Go.Un.Sl.len (pre.app (.cons 6 ByteArray.empty n4 r [] .nil .nil rest))) (s3 (pre.app (.cons 6 ByteArray.empty n4 r [] .nil .nil rest)))),(4,AV.vec l0.length (l4 l0)),(5,AV.int .i64 ((pre.len:Nat):Int))],(hT e (aN e.k s) s.code s.sites)⟩ (Led 253 [(0,AV.ptr e.k 0 0),(1,AV.vec (Go.Un.Sl.len (pre.app (.cons 6 ByteArray.empty n4 r [] .nil .nil rest))) (s3 (pre.app (.cons 6 ByteArray.empty n4 r [] .nil .nil rest)))),(4,AV.vec l0.length (l4 l0)),(5,AV.int .i64 ((pre.len:Nat):Int))] ((hT e (aN e.k (r6 (bY s) ⟨5,0,false,n4,rG s.l r,[],[]⟩ s.st)) ((r6 (bY s) ⟨5,0,false,n4,rG s.l r,[],[]⟩ s.st)).code ((r6 (bY s) ⟨5,0,false,n4,rG s.l r,[],[]⟩ s.st)).sites))):=by obtain ⟨q1,q2,q3,q4,q5,q6,q7,q8⟩:=B;have hlc:=@aE pre 6 ByteArray.empty n4 r [] .nil .nil rest;refine c160z ?_;refine g7.aF (hT e (aN e.k (bY s)) s.code s.sites++[⟨0,false,149,11,[.int .i64 6,.str ByteArray.empty,.int .i64 n4.op,.int .i64 n4.num,.str n4.name,.vec n4.args.length (o8 n4.args),.str r.name,.vec r.idx.length (o8 r.idx),.vec (([]:List Ar)).length (bU ([]:List Ar)),.vec (Go.Un.Sl.len Go.Un.Sl.nil) (s3 Go.Un.Sl.nil),.vec (Go.Un.Sl.len Go.Un.Sl.nil) (s3 Go.Un.Sl.nil)],0⟩]) rfl ?_;refine c273z ?_;refine c11z ?_;refine .c7 [0,1,4,5,6,7,41] ?_;refine c113z ?_;refine .r ?_;refine .e 5 ?_;refine .ch rfl rfl (gL (GM (s:=bY s) t154 s.st sc bd.hE bd.hc hR)) ?_;refine .e 2 ?_;refine .ch rfl rfl (gL (nE t62 t59 ⟨5,0,false,n4,rG s.l r,[],[]⟩ s.st t35)) ?_;refine .nil ?_;exact .mk _ rfl
theorem c_blk7 {e:Frm}{c:Ctx}(sc:SC E c vs s.l)(bd:Bd E c s.p)(B:Bnd s W)(a:Ex)(he:GE vs 2 a)(th:Sl)(hW:1+th.wt≤W)(ith:(∀s':Sco,SC E c vs s'.l→s'.p=s.p→Bnd s' th.wt→∀e:Frm,CH 71 [.ptr e.k 0 0,.vec th.len (s3 th)] (hT e (aN e.k s') (s').code (s').sites) (.tup []) (hT e (aN e.k (dD s'.l s' th)) ((dD s'.l s' th)).code ((dD s'.l s' th)).sites))):g7 Tryz.prog cfg (rE [1,0,1,0,0,1,0] (kB Tryz.f71)) ⟨mkS 253 [(0,AV.ptr e.k 0 0),(1,AV.vec (Go.Un.Sl.len (pre.app (.cons 7 ByteArray.empty a o5 [] th .nil rest))) (s3 (pre.app (.cons 7 ByteArray.empty a o5 [] th .nil rest)))),(4,AV.vec l0.length (l4 l0)),(5,AV.int .i64 ((pre.len:Nat):Int))],(hT e (aN e.k s) s.code s.sites)⟩ (Led 253 [(0,AV.ptr e.k 0 0),(1,AV.vec (Go.Un.Sl.len (pre.app (.cons 7 ByteArray.empty a o5 [] th .nil rest))) (s3 (pre.app (.cons 7 ByteArray.empty a o5 [] th .nil rest)))),(4,AV.vec l0.length (l4 l0)),(5,AV.int .i64 ((pre.len:Nat):Int))] ((hT e (aN e.k (cY (eE s a th) s.code.length ((eE s a th).code.length:Int))) ((cY (eE s a th) s.code.length ((eE s a th).code.length:Int))).code ((cY (eE s a th) s.code.length ((eE s a th).code.length:Int))).sites))):=by obtain ⟨q1,q2,q3,q4,q5,q6,q7,q8⟩:=B;have hlc:=@aE pre 7 ByteArray.empty a o5 [] th .nil rest;refine c160z ?_;refine g7.aF (hT e (aN e.k (bY s)) s.code s.sites++[⟨0,false,149,11,[.int .i64 7,.str ByteArray.empty,.int .i64 a.op,.int .i64 a.num,.str a.name,.vec a.args.length (o8 a.args),.str o5.name,.vec o5.idx.length (o8 o5.idx),.vec (([]:List Ar)).length (bU ([]:List Ar)),.vec (Go.Un.Sl.len th) (s3 th),.vec (Go.Un.Sl.len Go.Un.Sl.nil) (s3 Go.Un.Sl.nil)],0⟩]) rfl ?_;refine c273z ?_;refine c11z ?_;refine c36z ?_;refine c113z ?_;refine c34z ?_;refine c155z ?_;refine .n ?_;refine .c7 [0,1,4,5,6,7,12] ?_;have b1:Bnd (r6 (bY s) ⟨6,0,false,gE s.l a,cI,[],[]⟩ s.st) th.wt:=⟨q1,t215,t198,t190,q5,t201,t194,t176⟩;refine c106z ?_;refine .nil ?_;have fc:=jJ (l0:=s.l) (s:=r6 (bY s) ⟨6,0,false,gE s.l a,cI,[],[]⟩ s.st) (S:=th);have fs:=jC (l0:=s.l) (s:=r6 (bY s) ⟨6,0,false,gE s.l a,cI,[],[]⟩ s.st) (S:=th);rw[cO,gZ]at fc;rw[cC,fE]at fs;change _≤(eE s a th).code.length∧(eE s a th).code.length≤_ at fc;change _≤(eE s a th).sites.length∧(eE s a th).sites.length≤_ at fs;change g7 _ _ _ ⟨mkS _ _,hT e (aN e.k (eE s a th)) (eE s a th).code (eE s a th).sites++_⟩ _;refine c11z ?_;refine .c7 [0,1,4,5,12] ?_;refine c118z ?_;refine c136z ?_;refine c63z ?_;refine c186z ?_;exact .mk _ (by rw[tT];rfl)
theorem c_blk17 {e:Frm}{c:Ctx}(sc:SC E c vs s.l)(bd:Bd E c s.p)(B:Bnd s W)(a:Ex)(he:GE vs 2 a)(th el:Sl)(hel:0<el.len)(hW:1+th.wt+el.wt≤W)(ith:(∀s':Sco,SC E c vs s'.l→s'.p=s.p→Bnd s' th.wt→∀e:Frm,CH 71 [.ptr e.k 0 0,.vec th.len (s3 th)] (hT e (aN e.k s') (s').code (s').sites) (.tup []) (hT e (aN e.k (dD s'.l s' th)) ((dD s'.l s' th)).code ((dD s'.l s' th)).sites)))(iel:(∀s':Sco,SC E c vs s'.l→s'.p=s.p→Bnd s' el.wt→∀e:Frm,CH 71 [.ptr e.k 0 0,.vec el.len (s3 el)] (hT e (aN e.k s') (s').code (s').sites) (.tup []) (hT e (aN e.k (dD s'.l s' el)) ((dD s'.l s' el)).code ((dD s'.l s' el)).sites))):g7 Tryz.prog cfg (rE [1,0,1,0,0,1,0] (kB Tryz.f71)) ⟨mkS 253 [(0,AV.ptr e.k 0 0),(1,AV.vec (Go.Un.Sl.len (pre.app (.cons 7 ByteArray.empty a o5 [] th el rest))) (s3 (pre.app (.cons 7 ByteArray.empty a o5 [] th el rest)))),(4,AV.vec l0.length (l4 l0)),(5,AV.int .i64 ((pre.len:Nat):Int))],(hT e (aN e.k s) s.code s.sites)⟩ (Led 253 [(0,AV.ptr e.k 0 0),(1,AV.vec (Go.Un.Sl.len (pre.app (.cons 7 ByteArray.empty a o5 [] th el rest))) (s3 (pre.app (.cons 7 ByteArray.empty a o5 [] th el rest)))),(4,AV.vec l0.length (l4 l0)),(5,AV.int .i64 ((pre.len:Nat):Int))] ((hT e (aN e.k (cY (eF s a th el) (eE s a th).code.length ((eF s a th el).code.length:Int))) ((cY (eF s a th el) (eE s a th).code.length ((eF s a th el).code.length:Int))).code ((cY (eF s a th el) (eE s a th).code.length ((eF s a th el).code.length:Int))).sites))):=by
  obtain ⟨q1,q2,q3,q4,q5,q6,q7,q8⟩:=B;have hlc:=@aE pre 7 ByteArray.empty a o5 [] th el rest;refine c160z ?_;refine g7.aF (hT e (aN e.k (bY s)) s.code s.sites++[⟨0,false,149,11,[.int .i64 7,.str ByteArray.empty,.int .i64 a.op,.int .i64 a.num,.str a.name,.vec a.args.length (o8 a.args),.str o5.name,.vec o5.idx.length (o8 o5.idx),.vec (([]:List Ar)).length (bU ([]:List Ar)),.vec (Go.Un.Sl.len th) (s3 th),.vec (Go.Un.Sl.len el) (s3 el)],0⟩]) rfl ?_;refine c273z ?_;refine c11z ?_;refine c36z ?_;refine c113z ?_;refine c34z ?_;refine c155z ?_;refine .n ?_;refine .c7 [0,1,4,5,6,7,12] ?_;have b1:Bnd (r6 (bY s) ⟨6,0,false,gE s.l a,cI,[],[]⟩ s.st) th.wt:=⟨q1,t215,t198,t190,q5,t201,t194,t176⟩;refine c106z ?_;refine .nil ?_;have fc:=jJ (l0:=s.l) (s:=r6 (bY s) ⟨6,0,false,gE s.l a,cI,[],[]⟩ s.st) (S:=th);have fs:=jC (l0:=s.l) (s:=r6 (bY s) ⟨6,0,false,gE s.l a,cI,[],[]⟩ s.st) (S:=th);rw[cO,gZ]at fc;rw[cC,fE]at fs;change _≤(eE s a th).code.length∧(eE s a th).code.length≤_ at fc;change _≤(eE s a th).sites.length∧(eE s a th).sites.length≤_ at fs;change g7 _ _ _ ⟨mkS _ _,hT e (aN e.k (eE s a th)) (eE s a th).code (eE s a th).sites++_⟩ _;refine .z ?_;refine uTbz ?_;intro e1 qe1;refine .c7 [0,1,4,5,6,7,12] ?_;refine c17z ?_;refine .ch rfl rfl (gL (nE t62 t59 ⟨7,0,false,n4,cI,[],[]⟩ s.st t35)) ?_;refine .n ?_;change g7 _ _ _ ⟨mkS _ _,hT e (aN e.k (stJ s a th)) (stJ s a th).code (stJ s a th).sites++_⟩ _;have jc:(stJ s a th).code.length=(eE s a th).code.length+1:=cO;have js:(stJ s a th).sites.length=(eE s a th).sites.length+1:=cC;refine .sg u9 (mkH 13 [0,1,3,7,0,0,32,96,224,480,1023,2047,4095] [12] [] [0,4096] []) 0 ?_;refine .p 3 ?_;refine c136z ?_;refine c63z ?_;refine c186z ?_;refine .c7 [0,1,4,5,6,13] ?_;refine g7.aF (hT e (aN e.k (cY (stJ s a th) s.code.length ((stJ s a th).code.length:Int))) (cY (stJ s a th) s.code.length ((stJ s a th).code.length:Int)).code (cY (stJ s a th) s.code.length ((stJ s a th).code.length:Int)).sites++[_]) (by rw[tT];rfl) ?_;have lb:=sG th s.loc;have b2:Bnd (cY (stJ s a th) s.code.length ((stJ s a th).code.length:Int)) el.wt:=⟨q1,by show s.l.length+_≤_;omega,by rw[kN,jc];omega,by rw[oS,js];omega,by show 0≤gG th s.loc;omega,by show gG th s.loc+_≤_;omega,by show 0≤s.st+1+(th.wt:Int);omega,by show s.st+1+(th.wt:Int)+_≤_;omega⟩;refine c17z ?_;refine .ch rfl rfl (gL (iel (cY (stJ s a th) s.code.length ((stJ s a th).code.length:Int)) sc rfl b2 _)) ?_;refine .nil ?_;have ec:(stJ s a th).code.length≤(eF s a th el).code.length∧(eF s a th el).code.length≤(stJ s a th).code.length+2*el.wt:=by have h0:=jJ (l0:=s.l) (s:=(cY (stJ s a th) s.code.length ((stJ s a th).code.length:Int))) (S:=el);rw[kN]at h0;exact h0
  change g7 _ _ _ ⟨mkS _ _,hT e (aN e.k (eF s a th el)) (eF s a th el).code (eF s a th el).sites++_⟩ _;refine c118z ?_;refine c136z ?_;refine c63z ?_;refine c186z ?_;exact .mk _ (by rw[tT];rfl)
theorem c_blk8 {e:Frm}{c:Ctx}(sc:SC E c vs s.l)(bd:Bd E c s.p)(B:Bnd s W)(a:Ex)(he:GE vs 2 a)(th:Sl)(hW:1+th.wt≤W)(ith:(∀s':Sco,SC E c vs s'.l→s'.p=s.p→Bnd s' th.wt→∀e:Frm,CH 71 [.ptr e.k 0 0,.vec th.len (s3 th)] (hT e (aN e.k s') (s').code (s').sites) (.tup []) (hT e (aN e.k (dD s'.l s' th)) ((dD s'.l s' th)).code ((dD s'.l s' th)).sites))):g7 Tryz.prog cfg (rE [1,0,1,0,0,1,0] (kB Tryz.f71)) ⟨mkS 253 [(0,AV.ptr e.k 0 0),(1,AV.vec (Go.Un.Sl.len (pre.app (.cons 8 ByteArray.empty a o5 [] th .nil rest))) (s3 (pre.app (.cons 8 ByteArray.empty a o5 [] th .nil rest)))),(4,AV.vec l0.length (l4 l0)),(5,AV.int .i64 ((pre.len:Nat):Int))],(hT e (aN e.k s) s.code s.sites)⟩ (Led 253 [(0,AV.ptr e.k 0 0),(1,AV.vec (Go.Un.Sl.len (pre.app (.cons 8 ByteArray.empty a o5 [] th .nil rest))) (s3 (pre.app (.cons 8 ByteArray.empty a o5 [] th .nil rest)))),(4,AV.vec l0.length (l4 l0)),(5,AV.int .i64 ((pre.len:Nat):Int))] ((hT e (aN e.k (cY (B3 s a th) s.code.length ((B3 s a th).code.length:Int))) ((cY (B3 s a th) s.code.length ((B3 s a th).code.length:Int))).code ((cY (B3 s a th) s.code.length ((B3 s a th).code.length:Int))).sites))):=by obtain ⟨q1,q2,q3,q4,q5,q6,q7,q8⟩:=B;have hlc:=@aE pre 8 ByteArray.empty a o5 [] th .nil rest;refine c160z ?_;refine g7.aF (hT e (aN e.k (bY s)) s.code s.sites++[⟨0,false,149,11,[.int .i64 8,.str ByteArray.empty,.int .i64 a.op,.int .i64 a.num,.str a.name,.vec a.args.length (o8 a.args),.str o5.name,.vec o5.idx.length (o8 o5.idx),.vec (([]:List Ar)).length (bU ([]:List Ar)),.vec (Go.Un.Sl.len th) (s3 th),.vec (Go.Un.Sl.len Go.Un.Sl.nil) (s3 Go.Un.Sl.nil)],0⟩]) rfl ?_;refine c273z ?_;refine c11z ?_;refine c36z ?_;refine c11z ?_;refine c113z ?_;refine c34z ?_;refine c155z ?_;refine .n ?_;refine .c7 [0,1,4,5,6,7,14] ?_;have b1:Bnd (r6 (bY s) ⟨6,0,false,gE s.l a,cI,[],[]⟩ s.st) th.wt:=⟨q1,t215,t198,t190,q5,t201,t194,t176⟩;refine c106z ?_;refine .nil ?_;have fc:=jJ (l0:=s.l) (s:=r6 (bY s) ⟨6,0,false,gE s.l a,cI,[],[]⟩ s.st) (S:=th);have fs:=jC (l0:=s.l) (s:=r6 (bY s) ⟨6,0,false,gE s.l a,cI,[],[]⟩ s.st) (S:=th);rw[cO,gZ]at fc;rw[cC,fE]at fs;change _≤(eE s a th).code.length∧(eE s a th).code.length≤_ at fc;change _≤(eE s a th).sites.length∧(eE s a th).sites.length≤_ at fs;change g7 _ _ _ ⟨mkS _ _,hT e (aN e.k (eE s a th)) (eE s a th).code (eE s a th).sites++_⟩ _;refine c28z ?_;refine .ch rfl rfl (gL (nE t62 t59 ⟨7,((s.code.length:Nat):Int),false,n4,cI,[],[]⟩ s.st t35)) ?_;refine .nil ?_;refine .c7 [0,1,4,5,14] ?_;change g7 _ _ _ ⟨mkS _ _,hT e (aN e.k (B3 s a th)) (B3 s a th).code (B3 s a th).sites++_⟩ _;have jc:(B3 s a th).code.length=(eE s a th).code.length+1:=cO;refine c118z ?_;refine c136z ?_;refine c63z ?_;refine c186z ?_;exact .mk _ (by rw[tT];rfl)
theorem c_blk9 {e:Frm}{c:Ctx}(sc:SC E c vs s.l)(bd:Bd E c s.p)(B:Bnd s W)(hW:1≤W):g7 Tryz.prog cfg (rE [1,0,1,0,0,1,0] (kB Tryz.f71)) ⟨mkS 253 [(0,AV.ptr e.k 0 0),(1,AV.vec (Go.Un.Sl.len (pre.app (.cons 9 ByteArray.empty n4 o5 [] .nil .nil rest))) (s3 (pre.app (.cons 9 ByteArray.empty n4 o5 [] .nil .nil rest)))),(4,AV.vec l0.length (l4 l0)),(5,AV.int .i64 ((pre.len:Nat):Int))],(hT e (aN e.k s) s.code s.sites)⟩ (Led 253 [(0,AV.ptr e.k 0 0),(1,AV.vec (Go.Un.Sl.len (pre.app (.cons 9 ByteArray.empty n4 o5 [] .nil .nil rest))) (s3 (pre.app (.cons 9 ByteArray.empty n4 o5 [] .nil .nil rest)))),(4,AV.vec l0.length (l4 l0)),(5,AV.int .i64 ((pre.len:Nat):Int))] ((hT e (aN e.k (r6 (bY s) ⟨8,0,false,n4,cI,[],[]⟩ s.st)) ((r6 (bY s) ⟨8,0,false,n4,cI,[],[]⟩ s.st)).code ((r6 (bY s) ⟨8,0,false,n4,cI,[],[]⟩ s.st)).sites))):=by obtain ⟨q1,q2,q3,q4,q5,q6,q7,q8⟩:=B;have hlc:=@aE pre 9 ByteArray.empty n4 o5 [] .nil .nil rest;refine c160z ?_;refine g7.aF (hT e (aN e.k (bY s)) s.code s.sites++[⟨0,false,149,11,[.int .i64 9,.str ByteArray.empty,.int .i64 n4.op,.int .i64 n4.num,.str n4.name,.vec n4.args.length (o8 n4.args),.str o5.name,.vec o5.idx.length (o8 o5.idx),.vec (([]:List Ar)).length (bU ([]:List Ar)),.vec (Go.Un.Sl.len Go.Un.Sl.nil) (s3 Go.Un.Sl.nil),.vec (Go.Un.Sl.len Go.Un.Sl.nil) (s3 Go.Un.Sl.nil)],0⟩]) rfl ?_;refine c273z ?_;refine c11z ?_;refine c36z ?_;refine c72z ?_;refine .c7 [0,1,4,5,7] ?_;refine .r ?_;refine .e 3 ?_;refine .ch rfl rfl (gL (nE t62 t59 ⟨8,0,false,n4,cI,[],[]⟩ s.st t35)) ?_;refine .nil ?_;exact .mk _ rfl
theorem Bnd.mono {W':Nat}(h:Bnd s W)(hw:W'≤W):Bnd s W':=by obtain ⟨q1,q2,q3,q4,q5,q6,q7,q8⟩:=h;exact ⟨q1,by omega,by omega,by omega,q5,by omega,q7,by omega⟩
theorem Bnd.ins (h:Bnd s (1+W))(i:Ins):Bnd (r6 (bY s) i s.st) W:=by obtain ⟨q1,q2,q3,q4,q5,q6,q7,q8⟩:=h;exact ⟨q1,t215,t198,t190,q5,t201,t194,t176⟩
theorem Bnd.var (h:Bnd s (1+W))(i:Ins)(n:BA):Bnd (rL (r6 (bY s) i s.st) n) W:=by obtain ⟨q1,q2,q3,q4,q5,q6,q7,q8⟩:=h;exact ⟨by simp[rL],by show (s.l++[_]).length+_≤_;simp;omega,by show (r6 (bY s) i s.st).code.length+_≤_;rw[cO,gZ];omega,by show (r6 (bY s) i s.st).sites.length+_≤_;rw[cC,fE];omega,by show 0≤s.loc+1;omega,by show s.loc+1+_≤_;omega,t194,t176⟩
theorem Bnd.fin (h:Bnd s (S.wt+W)):Bnd (dD s.l s S) W:=by obtain ⟨q1,q2,q3,q4,q5,q6,q7,q8⟩:=h;have h1:=jJ (l0:=s.l) (s:=s) (S:=S);have h2:=jC (l0:=s.l) (s:=s) (S:=S);have h3:=sG S s.loc;exact ⟨q1,by show s.l.length+_≤_;omega,by omega,by omega,by show 0≤gG S s.loc;omega,by show gG S s.loc+_≤_;omega,by show 0≤s.st+(S.wt:Int);omega,by show s.st+(S.wt:Int)+_≤_;omega⟩
theorem Bnd.tgt {i:Nat}{v:Int}(h:Bnd s W):Bnd (cY s i v) W:=by obtain ⟨q1,q2,q3,q4,q5,q6,q7,q8⟩:=h;exact ⟨q1,q2,by rw[kN];exact q3,q4,q5,q6,q7,q8⟩
theorem Bnd.put2 (h:Bnd s W)(i:Ins)(t:Int)(hc:s.code.length+1+2*W≤5000)(hs:s.sites.length+1+2*W≤5000):Bnd (r6 s i t) W:=by obtain ⟨q1,q2,q3,q4,q5,q6,q7,q8⟩:=h;exact ⟨q1,by rw[N6];omega,by rw[cO];omega,by rw[cC];omega,q5,by rw[vQ];omega,q7,by rw[V6];omega⟩
variable {a:Ex}
theorem G7 (h:Bnd s (1+th.wt+W)):Bnd (eE s a th) W∧(eE s a th).code.length+1+2*W≤5000∧(eE s a th).sites.length+1+2*W≤5000:=by have h1:=(show Bnd s (1+(th.wt+W)) from h.mono (by omega)).ins ⟨6,0,false,gE s.l a,cI,[],[]⟩;have h2:=jJ (l0:=s.l) (s:=r6 (bY s) ⟨6,0,false,gE s.l a,cI,[],[]⟩ s.st) (S:=th);have h3:=jC (l0:=s.l) (s:=r6 (bY s) ⟨6,0,false,gE s.l a,cI,[],[]⟩ s.st) (S:=th);rw[cO,gZ]at h2;rw[cC,fE]at h3;have q3:=h.cb;have q4:=h.sb;exact ⟨h1.fin,by show (dD s.l (r6 (bY s) _ s.st) th).code.length+1+2*W≤5000;omega,by show (dD s.l (r6 (bY s) _ s.st) th).sites.length+1+2*W≤5000;omega⟩
theorem ON (h:Bnd s (1+th.wt+(el.wt+W))):Bnd (eF s a th el) W:=by obtain ⟨h1,h2,h3⟩:=G7 (a:=a) h;exact (((h1.put2 ⟨7,0,false,n4,cI,[],[]⟩ s.st h2 h3).tgt (i:=s.code.length) (v:=((stJ s a th).code.length:Int)))).fin
theorem OO {e:Frm}{c:Ctx}(sc:SC E c vs s.l)(bd:Bd E c s.p){k:Int}{n:BA}(hG:GS E (.cons k n a r xs th el rest) vs)(B:Bnd s (Sl.cons k n a r xs th el rest).wt)(ih:∀T:Sl,(T=th∨T=el)→GS E T vs→(∀s':Sco,SC E c vs s'.l→s'.p=s.p→Bnd s' T.wt→∀e:Frm,CH 71 [.ptr e.k 0 0,.vec T.len (s3 T)] (hT e (aN e.k s') (s').code (s').sites) (.tup []) (hT e (aN e.k (dD s'.l s' T)) ((dD s'.l s' T)).code ((dD s'.l s' T)).sites))):∃s' vs',SC E c vs' s'.l∧GS E rest vs'∧s'.p=s.p∧Bnd s' rest.wt∧dD l0 s' rest=dD l0 s (.cons k n a r xs th el rest)∧g7 Tryz.prog cfg (rE [1,0,1,0,0,1,0] (kB Tryz.f71)) ⟨mkS 253 [(0,AV.ptr e.k 0 0),(1,AV.vec (Go.Un.Sl.len (pre.app (.cons k n a r xs th el rest))) (s3 (pre.app (.cons k n a r xs th el rest)))),(4,AV.vec l0.length (l4 l0)),(5,AV.int .i64 ((pre.len:Nat):Int))],(hT e (aN e.k s) s.code s.sites)⟩ (Led 253 [(0,AV.ptr e.k 0 0),(1,AV.vec (Go.Un.Sl.len (pre.app (.cons k n a r xs th el rest))) (s3 (pre.app (.cons k n a r xs th el rest)))),(4,AV.vec l0.length (l4 l0)),(5,AV.int .i64 ((pre.len:Nat):Int))] (hT e (aN e.k s') (s').code (s').sites)):=by
  rcases hG with ⟨rfl,⟨j,hj,rfl⟩,hn,he,rfl,rfl,rfl,rfl,hr⟩ | ⟨rfl,hn,he,rfl,rfl,rfl,rfl,hr⟩ | ⟨rfl | rfl,⟨f,hf,rfl,ha⟩,rfl,rfl,rfl,rfl,hr⟩ | ⟨rfl | rfl,rfl,rfl,hR,rfl,rfl,rfl,hr⟩ | ⟨rfl,rfl,he,rfl,rfl,hth,hel,hr⟩ | ⟨rfl,rfl,he,rfl,rfl,hth,rfl,hr⟩ | ⟨rfl,rfl,rfl,rfl,rfl,rfl,rfl,hr⟩
  all_goals simp only[Sl.wt,Nat.add_zero]at B
  · exact ⟨(rL (r6 (bY s) ⟨1,s.loc,false,gE s.l a,cI,[],[]⟩ s.st) (vnm j)),_,sc.push hj hn s.loc,hr,rfl,B.var _ _,fin_var,c_blk1 sc bd B (by omega) j hj hn a he⟩
  · exact ⟨(r6 (bY s) ⟨1,(fG s.l n).n,(fG s.l n).kind==1,gE s.l a,cI,[],[]⟩ s.st),vs,sc,hr,rfl,B.ins _,rO (by simp only[r9,show ¬(2:Int)=1 from by decide,if_true,if_false];rfl) (by decide),c_blk2 sc bd B (by omega) n hn a he⟩
  · exact ⟨(r6 (bY s) ⟨2,(fG s.l f.1).n,false,n4,cI,bF s.l xs,aL s.l xs⟩ s.st),vs,sc,hr,rfl,B.ins _,rO (by simp only[r9,show ¬(3:Int)=1 from by decide,show ¬(3:Int)=2 from by decide,show ¬(3:Int)=4 from by decide,true_or,if_true,if_false]) (by decide),c_blk3 sc bd B (by omega) f hf xs ha⟩
  · exact ⟨(r6 (bY s) ⟨3,(fG s.l f.1).n,false,n4,cI,bF s.l xs,aL s.l xs⟩ s.st),vs,sc,hr,rfl,B.ins _,rO (by simp only[r9,show ¬(4:Int)=1 from by decide,show ¬(4:Int)=2 from by decide,or_true,if_true,if_false]) (by decide),c_blk4 sc bd B (by omega) f hf xs ha⟩
  · exact ⟨(r6 (bY s) ⟨4,0,false,n4,rG s.l r,[],[]⟩ s.st),vs,sc,hr,rfl,B.ins _,rO (by simp only[r9,show ¬(5:Int)=1 from by decide,show ¬(5:Int)=2 from by decide,show ¬((5:Int)=3∨(5:Int)=4) from by decide,if_true,if_false]) (by decide),c_blk5 sc bd B (by omega) r hR⟩
  · exact ⟨(r6 (bY s) ⟨5,0,false,n4,rG s.l r,[],[]⟩ s.st),vs,sc,hr,rfl,B.ins _,rO (by simp only[r9,show ¬(6:Int)=1 from by decide,show ¬(6:Int)=2 from by decide,show ¬((6:Int)=3∨(6:Int)=4) from by decide,show ¬(6:Int)=5 from by decide,if_true,if_false]) (by decide),c_blk6 sc bd B (by omega) r hR⟩
  · by_cases h0:0<el.len
    · exact ⟨(cY (eF s a th el) (eE s a th).code.length ((eF s a th el).code.length:Int)),vs,sc,hr,rfl,(ON (B.mono (by omega))).tgt,OM h0,c_blk17 sc bd B a he th el h0 (by omega) (ih _ (.inl rfl) hth) (ih _ (.inr rfl) hel)⟩
    · obtain rfl:=len_nil.1 h0
      simp only[Sl.wt,Nat.add_zero]at B;exact ⟨(cY (eE s a th) s.code.length ((eE s a th).code.length:Int)),vs,sc,hr,rfl,(G7 B).1.tgt,fin_if,c_blk7 sc bd B a he th (by omega) (ih _ (.inl rfl) hth)⟩
  · exact ⟨(cY (B3 s a th) s.code.length ((B3 s a th).code.length:Int)),vs,sc,hr,rfl,((G7 (a:=a) B).1.put2 _ _ (G7 B).2.1 (G7 B).2.2).tgt,fin_wh,c_blk8 sc bd B a he th (by omega) (ih _ (.inl rfl) hth)⟩
  · exact ⟨(r6 (bY s) ⟨8,0,false,n4,cI,[],[]⟩ s.st),vs,sc,hr,rfl,B.ins _,rO (by simp only[r9,show ¬(9:Int)=1 from by decide,show ¬(9:Int)=2 from by decide,show ¬((9:Int)=3∨(9:Int)=4) from by decide,show ¬(9:Int)=5 from by decide,show ¬(9:Int)=6 from by decide,show ¬(9:Int)=7 from by decide,show ¬(9:Int)=8 from by decide,if_false]) (by decide),c_blk9 sc bd B (by omega)⟩
theorem fin_nil:dD l0 s .nil={ s with l:=l0 }:=by
  refine Sco.eq rfl rfl rfl ?_ ?_ ?_
  · simp[dD,Sl.wt]
  · simp[dD,r9]
  · simp[dD,cV]
theorem OP {c:Ctx}(S:Sl)(hSl:S.wt≤1000)(vars:List BA)(s:Sco)(sc0:SC E c vars s.l)(hG0:GS E S vars)(bd:Bd E c s.p)(B0:Bnd s S.wt)(e:Frm)(ih:∀S':Sl,S'.wt<S.wt→∀(vars:List BA) (s:Sco),SC E c vars s.l→GS E S' vars→Bd E c s.p→Bnd s S'.wt→∀e:Frm,CH 71 [.ptr e.k 0 0,.vec S'.len (s3 S')] (hT e (aN e.k s) (s).code (s).sites) (.tup []) (hT e (aN e.k (dD s.l s S')) ((dD s.l s S')).code ((dD s.l s S')).sites)):CH 71 [.ptr e.k 0 0,.vec S.len (s3 S)] (hT e (aN e.k s) s.code s.sites) (.tup []) (hT e (aN e.k (dD s.l s S)) ((dD s.l s S)).code ((dD s.l s S)).sites):=by
  refine .wz Tryz.f71 253 ?_;have hlw:=dQ S;refine c26z ?_;refine .aW (fun m st=>∃(Z:Sl) (pre:Sl) (rst:Sl) (vs:List BA) (cur:Sco),(m=rst.len∧(Z=S∧S=pre.app rst∧GS E rst vs∧SC E c vs cur.l∧cur.p=s.p∧Bnd cur rst.wt∧dD s.l cur rst=dD s.l s S))∧st=⟨mkS 253 [(0,AV.ptr e.k 0 0),(1,AV.vec (Go.Un.Sl.len Z) (s3 Z)),(4,AV.vec s.l.length (l4 s.l)),(5,AV.int .i64 ((pre.len:Nat):Int))],hT e (aN e.k cur) cur.code cur.sites⟩) (.v ⟨S,Sl.nil,S,vars,s,⟨rfl,⟨rfl,rfl,hG0,sc0,rfl,B0,rfl⟩⟩,rfl⟩ (hs:=t13) (hr:=t112)) ?_;rintro m sl h' ⟨Z,pre,rst,vs,cur,⟨hm,⟨hZ,hS,hG,sc,hp,B,hF⟩⟩,hst⟩;obtain ⟨rfl,rfl⟩:=St.mk.inj hst;clear hst;subst hZ;have hlen:=congrArg Go.Un.Sl.len hS;rw[Go.Un.Sl.cN]at hlen;refine c1z ?_;refine u2z ?_ ?_
  ·intro e1 qe1;refine c100z ?_;obtain ⟨k,n,a,r,xs,th,el,rest,rfl⟩:=Go.Un.Sl.oP (s:=rst) (by omega);subst hS;have hwc:=@M8 pre k n a r xs th el rest;have hlc:=@aE pre k n a r xs th el rest;obtain ⟨s2,vs2,r1,r2,r3,r4,r5,hrun⟩:=OO (e:=e) (l0:=s.l) (pre:=pre) sc (by rw[hp];exact bd) hG B (fun T hT hgT s' q1 q2 q3 e'=>ih T (by rcases hT with rfl | rfl<;>omega) _ s' q1 hgT (by rw[q2,hp];exact bd) q3 e');refine g7.fitS [(0,AV.ptr e.k 0 0),(1,AV.vec (Go.Un.Sl.len (pre.app (.cons k n a r xs th el rest))) (s3 (pre.app (.cons k n a r xs th el rest)))),(4,AV.vec s.l.length (l4 s.l)),(5,AV.int .i64 ((pre.len:Nat):Int))] ?_;refine g7.led (hrun) ?_;intro lq hq haq;change g7 ..;refine g7.fitS [(0,AV.ptr e.k 0 0),(1,AV.vec (Go.Un.Sl.len (pre.app (.cons k n a r xs th el rest))) (s3 (pre.app (.cons k n a r xs th el rest)))),(4,AV.vec s.l.length (l4 s.l)),(5,AV.int .i64 ((pre.len:Nat):Int))] ?_ haq;refine .rz ?_;exact ⟨_,by omega,.v ⟨_,(pre.app (.cons k n a r xs th el .nil)),rest,vs2,s2,⟨rfl,⟨rfl,eX,r2,r1,r3.trans hp,r4,r5.trans hF⟩⟩,rfl⟩ (he:=by rfl) (hl:=by simp only[aT];exact Nat.le_refl _) (hk:=by exact hT_keep rfl) (hs:=t13) (hr:=t112)⟩
  intro e1 qe1;refine .exit ?_;have hr0:rst=.nil:=Sl.yW (by omega);subst hr0;change g7 ..;refine .rz ?_;refine Ends.n ?_;exact ⟨hT e ⟨0,false,161,10,[.vec cur.p.globals.length (s7 cur.p.globals),.vec cur.p.c5.length (j6 cur.p.c5),.vec cur.p.funcs.length (p9 cur.p.funcs),.vec s.l.length (l4 s.l),.int .i64 cur.loc,.int .i64 cur.st,.int .i64 0,.int .i64 0,.own (e.k+1) cur.code.length 0 cur.code.length,.own (e.k+2) cur.sites.length 0 cur.sites.length],0⟩ cur.code cur.sites,[],_,(List.append_nil _).symm,by (simp only[aT];exact Nat.le_refl _),(zS (dK.get ⟨.vec _ _,.vec _ _,.vec _ _,.vec _ _,.int _ _,.int _ _,.int _ _,.int _ _,.own _ _ _ _ e.lt.2.1,.own _ _ _ _ e.lt.2.2,trivial⟩)),rfl,by rw[←hF,fin_nil];exact ⟨rfl,rfl⟩⟩
theorem V7 {E:Env}{c:Ctx}:∀(n:Nat) (S:Sl),S.wt≤n→n≤1000→∀(vars:List BA) (s:Sco),SC E c vars s.l→GS E S vars→Bd E c s.p→Bnd s S.wt→∀e:Frm,CH 71 [.ptr e.k 0 0,.vec S.len (s3 S)] (hT e (aN e.k s) (s).code (s).sites) (.tup []) (hT e (aN e.k (dD s.l s S)) ((dD s.l s S)).code ((dD s.l s S)).sites)
  | n,S,hn,h1,vars,s,sc,hG,bd,B,e=>by
    refine OP S (by omega) vars s sc hG bd B e (fun S' hS'=>?_);cases n with
    | zero=>omega
    | succ n=>exact V7 n S' (by omega) (by omega)
end Go.Proofs.YtapdldekgbbomaaGreatDoor
end
